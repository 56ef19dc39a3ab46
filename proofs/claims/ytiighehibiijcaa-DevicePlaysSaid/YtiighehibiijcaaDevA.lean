/-
  A device: plain, and as memory holds it; what is kept while one is used. No conditions beside those in each theorem.
-/
import Derived.Test.YtiighehibiijcaaUntil
import Derived.Maps.OwnSet
import Derived.Maps.StringElems
import Derived.Maps.OwnOps
import Derived.Deep.AppendLies
namespace Go.Proofs.Ytiighehibiijcaa
open Go.RowKit

/-- A sector of zero bytes. -/
def zero64 : List UInt8 := List.replicate 64 0
theorem zero64_length : zero64.length = 64 := rfl

/-- A device: how many sectors; what is safe (absent: zero); what waits; power; armed; steps left; steps done. -/
structure Dev where
  n : Int
  safe : Int → Option (List UInt8)
  waits : List (Int × List UInt8)
  on : Bool
  armed : Bool
  left : Int
  steps : Int

/-- The cells of what waits. -/
def wcells : List (Int × List UInt8) → List Value
  | [] => []
  | p :: l => .int .i64 p.1 :: str p.2 :: wcells l
theorem wcells_append : ∀ (l m : List (Int × List UInt8)), wcells (l ++ m) = wcells l ++ wcells m := by
  intro l
  induction l with
  | nil => intro m; rfl
  | cons p l ih => intro m; simp [wcells, ih]
theorem wcells_length : ∀ l, (wcells l).length = l.length * 2 := by
  intro l
  induction l with
  | nil => rfl
  | cons p l ih => simp only [wcells, List.length_cons, ih]; omega
theorem wcells_get : ∀ (l : List (Int × List UInt8)) (i : Nat) (h : i < l.length), (wcells l)[2 * i]? = some (.int .i64 l[i].1) ∧ (wcells l)[2 * i + 1]? = some (str l[i].2) := by
  intro l
  induction l with
  | nil => intro i h; simp at h
  | cons p l ih =>
    intro i h
    cases i with
    | zero => exact ⟨rfl, rfl⟩
    | succ i =>
      have := ih i (by simpa using h)
      simp only [wcells, List.getElem_cons_succ]
      rw [show 2 * (i + 1) = 2 * i + 1 + 1 by omega, show 2 * i + 1 + 1 + 1 = (2 * i + 1) + 1 + 1 by omega]
      simpa using this

def OwnW (w : World) (B : Nat) (v : Value) (L : List (Int × List UInt8)) : Prop := w.ownsRow B 91 2 v L.length (wcells L)
section
variable {w w' : World} {B : Nat} {v : Value} {L : List (Int × List UInt8)}
theorem OwnW.none (w : World) (B : Nat) : OwnW w B (.slice none 0 0) [] := World.ownsRow_nil _ _ _ _
theorem OwnW.alloc (h : OwnW w B v L) (o : Obj) : OwnW (w.alloc o) B v L := World.ownsRow.alloc h o
theorem OwnW.grown {row : Option Nat} (h : OwnW w B v L) (hg : w.grownBy w' row) (hne : v.ownBlock = Option.none ∨ v.ownBlock ≠ row) : OwnW w' B v L := World.ownsRow.kept h hg hne
theorem OwnW.step (h : OwnW w B v L) (hb : Below w.heap.size w w') : OwnW w' B v L :=
  World.ownsRow.kept h (row := Option.none) ⟨hb.os, hb.tape, hb.output, hb.size, fun k hk _ => hb.block k hk⟩ (by
    rcases hv : v.ownBlock with _ | k
    · exact .inl rfl
    · exact .inr (by simp))
theorem OwnW.read (h : OwnW w B v L) : (v = .slice Option.none 0 0 ∧ L = []) ∨
    ∃ g cap, v = .slice (some ⟨g, 0, Option.none⟩) L.length cap ∧ B ≤ g ∧ g < w.heap.size ∧ L.length ≤ cap ∧ cap ≤ maxLen ∧ (∀ i (h : i < L.length), w.cell? ⟨g, 2 * i, Option.none⟩ = some (.int .i64 L[i].1) ∧ w.cell? ⟨g, 2 * i + 1, Option.none⟩ = some (str L[i].2)) := by
  rcases h.2 with ⟨h1, h2⟩ | ⟨g, cap, cur, h1, h2, h3, h4, h5, h6, h7⟩
  · exact .inl ⟨h1, List.eq_nil_of_length_eq_zero h2⟩
  · refine .inr ⟨g, cap, h1, h2, (Array.getElem?_eq_some_iff.1 h3).1, h4, h5, ?_⟩
    intro i hi
    have hc : ∀ j x, j < L.length * 2 → (wcells L)[j]? = some x → w.cell? ⟨g, j, Option.none⟩ = some x := by
      intro j x hj hx
      rw [cell_of_row w g j cur 91 (0, 0) h3]
      have h8 : (cur.toList.take (L.length * 2))[j]? = (wcells L)[j]? := by rw [h7]
      rw [List.getElem?_take, if_pos hj] at h8
      rw [← Array.getElem?_toList, h8, hx]
    have hw := wcells_get L i hi
    exact ⟨hc _ _ (by omega) hw.1, hc _ _ (by omega) hw.2⟩
theorem OwnW.form (h : OwnW w B v L) : ∃ p c, v = .slice p L.length c := by
  rcases h.read with ⟨rfl, rfl⟩ | ⟨g, cap, rfl, _⟩
  · exact ⟨_, _, rfl⟩
  · exact ⟨_, _, rfl⟩
theorem OwnW.fits (h : OwnW w B v L) : L.length ≤ maxLen := by
  rcases h.read with ⟨_, rfl⟩ | ⟨g, cap, _, _, _, h1, h2, _⟩
  · simp
  · omega
theorem OwnW.push {k : Int} {s : List UInt8} (h : w.ownsRow B 91 2 v (L.length + 1) (wcells L ++ [.int .i64 k, str s])) : OwnW w B v (L ++ [(k, s)]) := by
  unfold OwnW
  rw [wcells_append, List.length_append]
  exact h
theorem OwnW.ne {g : Nat} {t : TypeId} {cs : Array Value} (h : OwnW w B v L) (hb : Blk w g t cs) (ht : t ≠ 91) : v.ownBlock ≠ some g := by
  rcases h.2 with ⟨h1, _⟩ | ⟨k, cap, cur, h1, h2, h3, _⟩
  · subst h1; simp [Value.ownBlock]
  · subst h1
    intro he
    have : k = g := by simpa [Value.ownBlock] using he
    subst this
    unfold Blk at hb
    rw [hb] at h3
    injection h3 with h3
    injection h3 with _ h4 _
    exact ht h4
theorem OwnW.own_lt (h : OwnW w B v L) {i : Nat} (hi : v.ownBlock = some i) : i < w.heap.size ∧ B ≤ i := by
  have := World.ownsRow.lt h i (by rw [hi])
  exact ⟨this.2, this.1⟩
end

/-! The map. -/
def setF (F : Int → Option (List UInt8)) (k : Int) (s : List UInt8) : Int → Option (List UInt8) := fun j => if j = k then some s else F j
def delF (F : Int → Option (List UInt8)) (k : Int) : Int → Option (List UInt8) := fun j => if j = k then none else F j
def MapIs (w : World) (b cap : Nat) (F : Int → Option (List UInt8)) : Prop :=
  ∃ D : DataW Unit, w.ownsMap Try.prog 3 (plainElem Try.prog 9) b cap D ∧ ∀ k, (Lit.int .i64 k).wf = true → Maps.has D (.int .i64 k) = (F k).isSome ∧ ∀ s, F k = some s → ∀ z, D.atKey (.int .i64 k) z = .lit (.string s)
theorem keyInt {k : Int} (hk : (Lit.int .i64 k).wf = true) : keyOf Try.prog 3 (.int .i64 k) = some (.int .i64 k) := Maps.keyOf_int_mk Try.underlying3 hk
theorem keyedInt : Maps.Keyed Try.prog 3 := Maps.int_keyed Try.underlying3
theorem zeroStr (w : World) : (zeroValue 9).run Try.prog w = .ok (.string ByteArray.empty) w := by kernel_rfl
theorem plainStr {s : List UInt8} (hs : s.length ≤ maxLen) : plainElem (H := Unit) Try.prog 9 (str s) = some (.lit (.string s), []) := by
  have := plainElem_string (H := Unit) Try.underlying9 (s := ⟨s.toArray⟩) (by simpa [ByteArray.size] using hs)
  simpa using this
section
variable {w w' : World} {b cap : Nat} {F : Int → Option (List UInt8)}
theorem MapIs.new (w : World) : MapIs (w.alloc (.map #[] 0)) w.heap.size 0 (fun _ => none) :=
  ⟨.map [], World.ownsMap_made _ _ _ _, fun _ _ => ⟨rfl, fun _ h => by cases h⟩⟩
theorem MapIs.kept {row : Option Nat} (h : MapIs w b cap F) (hg : w.grownBy w' row) (hne : some b ≠ row) : MapIs w' b cap F := by
  obtain ⟨D, h1, h2⟩ := h
  exact ⟨D, h1.kept hg hne, h2⟩
theorem MapIs.lt (h : MapIs w b cap F) : b < w.heap.size := by
  obtain ⟨D, h1, _⟩ := h
  exact h1.lt
theorem MapIs.ne {g : Nat} {t : TypeId} {cs : Array Value} (h : MapIs w b cap F) (hb : Blk w g t cs) : g ≠ b := by
  rintro rfl
  obtain ⟨D, ⟨es, clock, h1, _⟩, _⟩ := h
  unfold Blk at hb
  rw [hb] at h1
  injection h1 with h1
  cases h1
theorem MapIs.apart {B : Nat} {v : Value} {L : List (Int × List UInt8)} (h : MapIs w b cap F) (ho : OwnW w B v L) : v.ownBlock ≠ some b := by
  rcases ho.2 with ⟨h1, _⟩ | ⟨k, c, cur, h1, h2, h3, _⟩
  · subst h1; simp [Value.ownBlock]
  · subst h1
    intro he
    have : k = b := by simpa [Value.ownBlock] using he
    subst this
    exact h.ne (show Blk w k 91 cur from h3) rfl
theorem MapIs.look (h : MapIs w b cap F) {k : Int} (hk : (Lit.int .i64 k).wf = true) :
    (Instr.lookup 58 (.map (some b)) (.int .i64 k) true).run Try.prog w = .ok (.tuple #[str ((F k).getD []), .bool (F k).isSome]) w := by
  obtain ⟨D, h1, h2⟩ := h
  obtain ⟨v, ps, hrun, hv⟩ := h1.look_ok keyedInt Try.underlying58 (zeroStr w) (zd := .lit (.string [])) (zp := []) (plainStr (s := []) (by decide)) (keyInt hk)
  obtain ⟨s, rfl, hz, hw⟩ := plainElem_string_inv Try.underlying9 hv
  rw [hrun, (h2 k hk).1]
  have hz := congrArg Prod.fst hz
  simp only [] at hz
  rcases hF : F k with _ | s0
  · have hno : Maps.has D (.int .i64 k) = false := by rw [(h2 k hk).1, hF]; rfl
    rw [Maps.atKey_of_not_has hno] at hz
    have hz := Lit.string.inj (DataW.lit.inj hz)
    have : s = ⟨(([] : List UInt8)).toArray⟩ := by rw [hz]
    rw [this]
    rfl
  · rw [(h2 k hk).2 s0 hF] at hz
    have hz := Lit.string.inj (DataW.lit.inj hz)
    have : s = ⟨s0.toArray⟩ := by rw [hz]
    rw [this]
    rfl
theorem MapIs.store (h : MapIs w b cap F) {k : Int} (hk : (Lit.int .i64 k).wf = true) {s : List UInt8} (hs : s.length ≤ maxLen) (hn : cap < maxLen) :
    ∃ w1, (Instr.mapUpdate 58 (.map (some b)) (.int .i64 k) (str s)).run Try.prog w = .ok () w1 ∧ MapIs w1 b (cap + 1) (setF F k s) ∧ w.grownBy w1 (some b) := by
  obtain ⟨D, h1, h2⟩ := h
  obtain ⟨w1, hrun, hown, hturn⟩ := h1.store keyedInt Try.underlying58 hn (keyInt hk) (plainStr hs)
  have hlit := (keyedInt).key (keyInt hk)
  refine ⟨w1, hrun, ⟨_, hown, ?_⟩, hturn.grown⟩
  intro j hj
  unfold setF
  by_cases hjk : j = k
  · subst hjk
    rw [if_pos rfl]
    exact ⟨by rw [Maps.has_put_same h1.isMap hlit]; rfl, fun s' hs' z => by rw [← Option.some.inj hs']; exact Maps.atKey_put_same h1.isMap hlit _ z⟩
  · rw [if_neg hjk]
    have hne : (Lit.int .i64 j) ≠ Lit.int .i64 k := fun e => hjk (by injection e)
    exact ⟨by rw [Maps.has_put_other hne]; exact (h2 j hj).1, fun s' hs' z => by rw [Maps.atKey_put_other hne]; exact (h2 j hj).2 s' hs' z⟩
theorem MapIs.drop (h : MapIs w b cap F) {k : Int} (hk : (Lit.int .i64 k).wf = true) (ty : TypeId) :
    ∃ w1, (Builtin.delete_ #[58, 3] ty #[.map (some b), .int .i64 k]).run Try.prog w = .ok (.tuple #[]) w1 ∧ MapIs w1 b cap (delF F k) ∧ w.grownBy w1 (some b) := by
  obtain ⟨D, h1, h2⟩ := h
  obtain ⟨w1, hrun, hown, hturn⟩ := h1.drop keyedInt Try.underlying58 (keyInt hk) ty
  refine ⟨w1, hrun, ⟨_, hown, ?_⟩, hturn.grown⟩
  intro j hj
  unfold delF
  by_cases hjk : j = k
  · subst hjk
    rw [if_pos rfl]
    exact ⟨Maps.has_del_same, fun s' hs' => by cases hs'⟩
  · rw [if_neg hjk]
    have hne : (Lit.int .i64 j) ≠ Lit.int .i64 k := fun e => hjk (by injection e)
    exact ⟨by rw [Maps.has_del_other hne]; exact (h2 j hj).1, fun s' hs' z => by rw [Maps.atKey_del_other hne]; exact (h2 j hj).2 s' hs' z⟩
theorem MapIs.same (h : MapIs w b cap F) {G : Int → Option (List UInt8)} (hG : ∀ k, F k = G k) : MapIs w b cap G := by
  obtain rfl : F = G := funext hG
  exact h
end

section
variable {P : Program} {ops : Array Oper} {o : Oper} {a : Act} {w w1 : World} {K : Act → World → Prop} {Q : Exit → Act → World → Prop} {E : Prop}
/-- 'm[k] = v' as a step of a region that draws. -/
theorem step_mapStore (hg : o.guard = none) (hd : o.dst = none) (m x v : Operand) (t : TypeId) (hop : o.op = Op.mapUpdate t m x v) {mv key val : Value} (hm : a.eval m = mv) (hx : a.eval x = key) (hv : a.eval v = val)
    (hrun : (Instr.mapUpdate t mv key val).run P w = .ok () w1) (hK : K a w1) : if Region.wanted o (yielded ops a.tmps) = true then Oper.wp P o a w K Q else E := by
  rw [if_pos (by simp [Region.wanted, hg])]
  unfold Oper.wp
  simp [execOp, hop, hm, hx, hv, hrun, Result.andThen]
  show K (a.put o.dst undef) w1
  rw [hd]
  exact hK
/-- 'delete(m, k)' as a step of a region that draws. -/
theorem step_mapDrop (hg : o.guard = none) (hd : o.dst = none) (m x : Operand) (t k : TypeId) (hop : o.op = Op.call { callee := Callee.builtin Builtin.delete, args := #[m, x], argTypes := #[t, k] }) {mv key : Value} (hm : a.eval m = mv) (hx : a.eval x = key)
    (hrun : (Builtin.delete_ #[t, k] o.type #[mv, key]).run P w = .ok (.tuple #[]) w1) (hK : K a w1) : if Region.wanted o (yielded ops a.tmps) = true then Oper.wp P o a w K Q else E := by
  rw [if_pos (by simp [Region.wanted, hg])]
  unfold Oper.wp
  simp [execOp, hop, resolve, invoke, builtin, hm, hx, hrun, Result.andThen]
  show K (a.put o.dst (.tuple #[])) w1
  rw [hd]
  exact hK
/-- 'v, ok := m[k]'. -/
theorem wpList_look {rest : List Oper} (hg : o.guard = none) (m x : Operand) (t : TypeId) (hop : o.op = Op.lookup t m x true) {mv key r : Value} (hm : a.eval m = mv) (hx : a.eval x = key)
    (hrun : (Instr.lookup t mv key true).run P w = .ok r w) (hK : wpList P ops Q rest (a.put o.dst r) w) : wpList P ops Q (o :: rest) a w := by
  refine wpList_plain hg fun K' hK' => ?_
  unfold Oper.wp
  simp [execOp, hop, hm, hx, hrun, Result.andThen]
  exact hK' _ _ hK
end

/-! The device. -/
def IsDev (w : World) (g gm : Nat) (v : Value) (cap B : Nat) (d : Dev) : Prop :=
  Blk w g 60 #[.int .i64 d.n, .map (some gm), v, .bool d.on, .bool d.armed, .int .i64 d.left, .int .i64 d.steps] ∧ MapIs w gm cap d.safe ∧ OwnW w B v d.waits ∧ B ≤ g ∧ B ≤ gm
/-- What a call on a device may touch: its own blocks, and what is new. -/
structure Touch (g gm : Nat) (w : World) (v : Value) (w' : World) (v' : Value) : Prop where
  os : w'.os = w.os
  tape : w'.tape = w.tape
  output : w'.output = w.output
  size : w.heap.size ≤ w'.heap.size
  block : ∀ i, i < w.heap.size → i ≠ g → i ≠ gm → v.ownBlock ≠ some i → w'.heap[i]? = w.heap[i]?
  own : ∀ i, v'.ownBlock = some i → v.ownBlock = some i ∨ w.heap.size ≤ i
section
variable {g gm : Nat} {w w' w2 : World} {v v' v2 : Value} {cap B : Nat} {d : Dev}
theorem Touch.refl (g gm : Nat) (w : World) (v : Value) : Touch g gm w v w v := ⟨rfl, rfl, rfl, Nat.le_refl _, fun _ _ _ _ _ => rfl, fun _ h => .inl h⟩
theorem Touch.trans (h : Touch g gm w v w' v') (k : Touch g gm w' v' w2 v2) : Touch g gm w v w2 v2 where
  os := k.os.trans h.os
  tape := k.tape.trans h.tape
  output := k.output.trans h.output
  size := Nat.le_trans h.size k.size
  block := fun i hi h1 h2 h3 => (k.block i (Nat.lt_of_lt_of_le hi h.size) h1 h2 (fun e => (h.own i e).elim h3 (fun h4 => by omega))).trans (h.block i hi h1 h2 h3)
  own := fun i hi => (k.own i hi).elim (fun e => h.own i e) (fun h4 => .inr (Nat.le_trans h.size h4))
theorem Touch.drew (h : Touch g gm w v w' v') : Touch g gm w v w'.drew v' := ⟨h.os, h.tape, h.output, h.size, h.block, h.own⟩
theorem Touch.drewN (h : Touch g gm w v w' v') (n : Nat) : Touch g gm w v (w'.drewN n) v' := ⟨h.os, h.tape, h.output, h.size, h.block, h.own⟩
theorem Touch.of_below (hb : Below w.heap.size w w') : Touch g gm w v w' v := ⟨hb.os, hb.tape, hb.output, hb.size, fun i hi _ _ _ => hb.block i hi, fun _ h => .inl h⟩
theorem Touch.of_grown {row : Option Nat} (hb : w.grownBy w' row) (hr : row = some g ∨ row = some gm ∨ row = none) : Touch g gm w v w' v :=
  ⟨hb.os, hb.tape, hb.output, hb.size, fun i hi h1 h2 _ => hb.block i hi (by rcases hr with rfl | rfl | rfl <;> simp [h1, h2]), fun _ h => .inl h⟩
theorem Touch.of_own (hb : w.grownBy w' v.ownBlock) (hv : ∀ i, v'.ownBlock = some i → v.ownBlock = some i ∨ w.heap.size ≤ i) : Touch g gm w v w' v' :=
  ⟨hb.os, hb.tape, hb.output, hb.size, fun i hi _ _ h3 => hb.block i hi (fun e => h3 e.symm), hv⟩
theorem Touch.to_nil (h : Touch g gm w v w' v') : Touch g gm w v w' (.slice none 0 0) := ⟨h.os, h.tape, h.output, h.size, h.block, fun i hi => by simp [Value.ownBlock] at hi⟩
theorem IsDev.keep {i : Nat} {t : TypeId} {cs : Array Value} (hd : IsDev w g gm v cap B d) (ht : Touch g gm w v w' v') (hb : Blk w i t cs) (h1 : t ≠ 60) (h2 : t ≠ 91) : Blk w' i t cs := by
  refine (ht.block i hb.lt ?_ (hd.2.1.ne hb) (hd.2.2.1.ne hb h2)).trans hb
  rintro rfl
  have h3 := hd.1
  unfold Blk at h3 hb
  rw [h3] at hb
  injection hb with hb
  injection hb with _ h4 _
  exact h1 h4.symm
theorem IsDev.below {B0 : Nat} (hd : IsDev w g gm v cap B d) (ht : Touch g gm w v w' v') (hB : B0 ≤ B) (hw : B0 ≤ w.heap.size) : Below B0 w w' :=
  ⟨ht.os, ht.tape, ht.output, ht.size, fun i hi => ht.block i (by omega) (by have := hd.2.2.2.1; omega) (by have := hd.2.2.2.2; omega) (fun e => by have := (hd.2.2.1.own_lt e).2; omega)⟩
theorem IsDev.step (hd : IsDev w g gm v cap B d) (hb : Below w.heap.size w w') : IsDev w' g gm v cap B d :=
  ⟨hd.1.step hb, hd.2.1.kept (row := none) ⟨hb.os, hb.tape, hb.output, hb.size, fun k hk _ => hb.block k hk⟩ (by simp), hd.2.2.1.step hb, hd.2.2.2.1, hd.2.2.2.2⟩
theorem IsDev.drew (hd : IsDev w g gm v cap B d) (n : Nat) : IsDev (w.drewN n) g gm v cap B d := hd
theorem dev_cells (hd : IsDev w g gm v cap B d) : w.cell? ⟨g, 0, none⟩ = some (.int .i64 d.n) ∧ w.cell? ⟨g, 1, none⟩ = some (.map (some gm)) ∧ w.cell? ⟨g, 2, none⟩ = some v ∧ w.cell? ⟨g, 3, none⟩ = some (.bool d.on) ∧
    w.cell? ⟨g, 4, none⟩ = some (.bool d.armed) ∧ w.cell? ⟨g, 5, none⟩ = some (.int .i64 d.left) ∧ w.cell? ⟨g, 6, none⟩ = some (.int .i64 d.steps) := ⟨hd.1.cell 0, hd.1.cell 1, hd.1.cell 2, hd.1.cell 3, hd.1.cell 4, hd.1.cell 5, hd.1.cell 6⟩
/-- A store into a cell of the device. -/
theorem IsDev.set {i : Nat} {u : Value} {d' : Dev} (hd : IsDev w g gm v cap B d)
    (hc : (#[.int .i64 d.n, .map (some gm), v, .bool d.on, .bool d.armed, .int .i64 d.left, .int .i64 d.steps] : Array Value).setIfInBounds i u = #[.int .i64 d'.n, .map (some gm), v, .bool d'.on, .bool d'.armed, .int .i64 d'.left, .int .i64 d'.steps])
    (hs : d'.safe = d.safe) (hw : d'.waits = d.waits) : IsDev (w.setCell ⟨g, i, none⟩ u) g gm v cap B d' ∧ Touch g gm w v (w.setCell ⟨g, i, none⟩ u) v := by
  have hg := upd_set w g i u
  refine ⟨⟨?_, ?_, ?_, hd.2.2.2.1, hd.2.2.2.2⟩, Touch.of_grown hg (.inl rfl)⟩
  · rw [← hc]; exact hd.1.set_ i u
  · rw [hs]; exact hd.2.1.kept hg (by simpa using fun e => (hd.2.1.ne hd.1) e.symm)
  · rw [hw]; exact hd.2.2.1.grown hg (.inr (hd.2.2.1.ne hd.1 (by decide)))
end
end Go.Proofs.Ytiighehibiijcaa

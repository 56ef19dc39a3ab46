/-
  Bytes, strings and a field of text as plain lists; how the walk spells them. No conditions beside those in each theorem.
  Blocks that are known whole: kept over draws, new blocks, stores elsewhere; a result read out of such a block. No conditions beside those in each theorem.
  A region that draws its order and ends in one store: a condition on the world that holds until that store; loads are taken first under it. No conditions beside those in each theorem.
  Two operations of a region that draws its order may come up: both are looked at. No conditions beside those in each theorem.
  Frames as one function of the slots: where ways meet, and at a loop's round, all scratch is forgotten at once. No conditions beside those in each theorem.
  The and of an int with 2^i - 1 is its rest. No conditions beside those in each theorem.
  A device: plain, and as memory holds it; what is kept while one is used. No conditions beside those in each theorem.
  What has, Safe, Sectors, Steps, On, Arm and New of device.Device return and do; of a device, and of none. No conditions beside those in each theorem.
  What keep does: a sector is safe from now on. No conditions beside those in each theorem.
  What the device's closures do: put (of Write), and the two of Flush. No conditions beside those in each theorem.
  What step, Write and Flush of device.Device do. No conditions beside those in each theorem.
  What the closures of Flush do, and step with them. No conditions beside those in each theorem.
  What step of device.Device does with the closures of Flush; Write; Flush. No conditions beside those in each theorem.
  What Write and Flush of device.Device do; of a device, and of none. No conditions beside those in each theorem.
  What Read and Arm of device.Device do; of a device, and of none. No conditions beside those in each theorem.
-/
import Derived.Test.YtiighehibiijcaaRows
import Derived.WalkKit
import Derived.WalkSpells
import Derived.WalkLawsBesides
import Derived.Handy
import Derived.Lib.Hide
import Derived.Laws.Rows
import Derived.Deep.RegionHeld
import Derived.Deep.AppendLies
import Derived.Deep.LoopGhost
import Derived.Deep.CutBlock
import Derived.Maps.OwnSet
import Derived.Maps.StringElems
import Derived.Maps.OwnOps
namespace Go.Proofs.Ytiighehibiijcaa
open Go.RowKit

/-- The byte of a number. -/
def byt (n : Int) : UInt8 := UInt8.ofNat n.toNat
theorem byt_toNat (n : Int) (h0 : 0 ≤ n) (h1 : n ≤ 255) : ((byt n).toNat : Int) = n := by
  obtain ⟨k, rfl⟩ := Int.eq_ofNat_of_zero_le h0
  unfold byt
  rw [Int.toNat_natCast, UInt8.toNat_ofNat']
  omega
theorem byt_of (b : UInt8) : byt (b.toNat : Int) = b := by
  unfold byt
  rw [Int.toNat_natCast]
  simp

/-- A string of the bytes l. -/
abbrev str (l : List UInt8) : Value := .string ⟨l.toArray⟩

@[go_sem] theorem extract_str (l : List UInt8) (a b : Nat) : (ByteArray.mk l.toArray).extract a b = ByteArray.mk ((l.drop a).take (b - a)).toArray := ByteArray.extract_mk l a b

@[go_sem] theorem index_str (l : List UInt8) (k : Nat) (h : k < (ByteArray.mk l.toArray).size) : (ByteArray.mk l.toArray)[k]'h = l[k]'(by exact h) := by
  show (ByteArray.mk l.toArray).get k h = _
  simp [ByteArray.get]
@[go_sem] theorem append_str (a b : List UInt8) : (ByteArray.mk a.toArray) ++ (ByteArray.mk b.toArray) = ByteArray.mk (a ++ b).toArray := by
  apply ByteArray.ext
  simp [ByteArray.data_append]

/-- A field's head. -/
def hd (c : Int) (n : Int) : List UInt8 := [byt c, byt (n / 65536 % 256), byt (n / 256 % 256), byt (n % 256)]
@[go_sem] theorem hd_length (c n : Int) : (hd c n).length = 4 := rfl
/-- A text's field. -/
def tText (c : Int) (s : List UInt8) : List UInt8 := hd c s.length ++ s
@[go_sem] theorem tText_length (c : Int) (s : List UInt8) : (tText c s).length = 4 + s.length := by simp [tText, hd]; omega

/-- 'string(b)' of a new block of bytes. -/
theorem run_str_new {P : Program} (w : World) (src dst e t : TypeId) (ns : List Int) (n cap : Nat) (hn : n = ns.length) (hb : ∀ x ∈ ns, 0 ≤ x ∧ x ≤ 255)
    (hs : P.underlying src = some (.slice e)) (he : P.underlying e = some (.int .u8)) (hd : P.underlying dst = some .string) :
    (convert src dst (.slice (some ⟨w.heap.size, 0, none⟩) n cap)).run P (w.alloc (.cells (ns.map (Value.int .u8)).toArray t)) = .ok (str (ns.map byt)) (w.alloc (.cells (ns.map (Value.int .u8)).toArray t)) := by
  subst hn
  have := run_convert_bytes_back (P := P) (w.alloc (.cells (ns.map (Value.int .u8)).toArray t)) src dst e ⟨w.heap.size, 0, none⟩ cap (ns.map byt) hs he hd (by
    intro j hj
    have hj' : j < ns.length := by simpa using hj
    have ha : (⟨w.heap.size, 0, none⟩ : Addr).add j = ⟨w.heap.size, j, none⟩ := by
      unfold Addr.add
      split
      · subst_vars; rfl
      · simp
    rw [ha, World.cell?_alloc_mark]
    have hb' := hb ns[j] (List.getElem_mem hj')
    simp [hj', byt_toNat _ hb'.1 hb'.2])
  simpa using this

theorem run_str_head {P : Program} (w : World) (src dst e t : TypeId) (c n : Int) (c0 : 0 ≤ c) (c1 : c ≤ 255)
    (hs : P.underlying src = some (.slice e)) (he : P.underlying e = some (.int .u8)) (hd : P.underlying dst = some .string) :
    (convert src dst (.slice (some ⟨w.heap.size, 0, none⟩) 4 4)).run P (w.alloc (.cells #[.int .u8 c, .int .u8 (n / 65536 % 256), .int .u8 (n / 256 % 256), .int .u8 (n % 256)] t)) =
      .ok (.string ⟨(Proofs.Ytiighehibiijcaa.hd c n).toArray⟩) (w.alloc (.cells #[.int .u8 c, .int .u8 (n / 65536 % 256), .int .u8 (n / 256 % 256), .int .u8 (n % 256)] t)) :=
  run_str_new (P := P) w src dst e t [c, n / 65536 % 256, n / 256 % 256, n % 256] 4 4 rfl (by simp; omega) hs he hd

theorem bcell {W w1 : World} (hb : Below W.heap.size W w1) : (∀ b o, b < W.heap.size → w1.cell? ⟨b, o, none⟩ = W.cell? ⟨b, o, none⟩) ∧ (∀ b o, b < W.heap.size → w1.frozen? ⟨b, o, none⟩ = W.frozen? ⟨b, o, none⟩) :=
  ⟨fun b o h => hb.cell (p := ⟨b, o, none⟩) h, fun b o h => hb.frozen (p := ⟨b, o, none⟩) h⟩
theorem bel_step {w W w1 : World} (h : Below w.heap.size w W) (hb : Below W.heap.size W w1) : Below w.heap.size w w1 := h.trans (hb.mono h.size)

end Go.Proofs.Ytiighehibiijcaa

namespace Go.Proofs.Ytiighehibiijcaa
open Go.RowKit

/-- Block g is just the cells cs, of type t; none is frozen. -/
def Blk (w : World) (g : Nat) (t : TypeId) (cs : Array Value) : Prop := w.heap[g]? = some (.cells cs t (0, 0))

section
variable {w w' : World} {g : Nat} {t : TypeId} {cs : Array Value}
theorem Blk.lt (h : Blk w g t cs) : g < w.heap.size := by
  rcases Nat.lt_or_ge g w.heap.size with hlt | hge
  · exact hlt
  · unfold Blk at h; rw [Array.getElem?_eq_none hge] at h; cases h
theorem Blk.cell (h : Blk w g t cs) (i : Nat) : w.cell? ⟨g, i, none⟩ = cs[i]? := cell_of_row w g i cs t (0, 0) h
theorem Blk.frozen (h : Blk w g t cs) (i : Nat) : w.frozen? ⟨g, i, none⟩ = false := by
  unfold Blk at h
  simp [World.frozen?, h]
theorem Blk.new (w : World) (t : TypeId) (cs : Array Value) : Blk (w.alloc (.cells cs t)) w.heap.size t cs := heap_alloc_new w _
theorem Blk.new_at {w : World} {n : Nat} (h : n = w.heap.size) (t : TypeId) (cs : Array Value) : Blk (w.alloc (.cells cs t)) n t cs := by subst h; exact heap_alloc_new w _
theorem Blk.drew (h : Blk w g t cs) : Blk w.drew g t cs := h
theorem Blk.alloc (h : Blk w g t cs) (o : Obj) : Blk (w.alloc o) g t cs := (Below.heap_alloc w o g h.lt).trans h
theorem Blk.set_ (h : Blk w g t cs) (i : Nat) (u : Value) : Blk (w.setCell ⟨g, i, none⟩ u) g t (cs.setIfInBounds i u) := by
  unfold Blk at h ⊢
  simp [World.setCell, Array.getElem?_modify, h]
theorem Blk.far (h : Blk w g t cs) {p : Addr} (hp : g ≠ p.block) (u : Value) : Blk (w.setCell p u) g t cs := (Below.heap_setCell w p u g hp).trans h
theorem Blk.below {B : Nat} (h : Blk w g t cs) (hb : Below B w w') (hg : g < B) : Blk w' g t cs := (hb.block g hg).trans h
theorem Blk.step (h : Blk w g t cs) (hb : Below w.heap.size w w') : Blk w' g t cs := (hb.block g h.lt).trans h
theorem Blk.grown {row : Option Nat} (h : Blk w g t cs) (hb : w.grownBy w' row) (hg : some g ≠ row) : Blk w' g t cs := (hb.block g h.lt hg).trans h
end

section
variable {P : Program}
theorem results_cellrow_tmp {fn : Func} {p u : Tmp} {ty : TypeId} (h : fn.results = #[.cell p ty, .tmp u]) (tmps : Array Value) (w : World) (g : Nat) (t : TypeId) (cs : Array Value) (d : TypeDesc)
    (hp : tmps.getD p undef = .pointer (some ⟨g, 0, none⟩)) (hg : Blk w g t cs)
    (hu : P.underlying ty = some d) (hd : (match d with | .struct _ | .array _ _ => true | _ => false) = true) (hi : (P.info? ty).map (·.size) = some cs.size) :
    (results fn tmps).run P w = .ok (.tuple #[.agg cs, tmps.getD u undef]) w := by
  have hp' : tmps[p]?.getD undef = .pointer (some ⟨g, 0, none⟩) := by simpa using hp
  simp [results, h, hp', asAddr, run_loadVar_row w g t ty cs (0, 0) d hg hu hd hi]
theorem results_cellrow {fn : Func} {p : Tmp} {ty : TypeId} (h : fn.results = #[.cell p ty]) (tmps : Array Value) (w : World) (g : Nat) (t : TypeId) (cs : Array Value) (d : TypeDesc)
    (hp : tmps.getD p undef = .pointer (some ⟨g, 0, none⟩)) (hg : Blk w g t cs)
    (hu : P.underlying ty = some d) (hd : (match d with | .struct _ | .array _ _ => true | _ => false) = true) (hi : (P.info? ty).map (·.size) = some cs.size) :
    (results fn tmps).run P w = .ok (.agg cs) w := by
  have hp' : tmps[p]?.getD undef = .pointer (some ⟨g, 0, none⟩) := by simpa using hp
  simp [results, h, hp', asAddr, run_loadVar_row w g t ty cs (0, 0) d hg hu hd hi]
end

/-! Worlds in which but one block, and what is new, may have turned: the library's grownBy, step by step. -/
theorem upd_set (w : World) (g i : Nat) (u : Value) : w.grownBy (w.setCell ⟨g, i, none⟩ u) (some g) :=
  ⟨rfl, rfl, rfl, by simp [World.setCell], fun k _ hne => Below.heap_setCell w ⟨g, i, none⟩ u k (fun e => hne (by rw [e]))⟩
theorem upd_of_below {a w : World} (h : Below a.heap.size a w) (row : Option Nat) : a.grownBy w row := ⟨h.os, h.tape, h.output, h.size, fun i hi _ => h.block i hi⟩
theorem upd_trans {a b c : World} {row : Option Nat} (h : a.grownBy b row) (k : b.grownBy c row) : a.grownBy c row :=
  ⟨k.os.trans h.os, k.tape.trans h.tape, k.output.trans h.output, Nat.le_trans h.size k.size, fun i hi hne => (k.block i (Nat.lt_of_lt_of_le hi h.size) hne).trans (h.block i hi hne)⟩
theorem upd_below {a b : World} {B g : Nat} (h : a.grownBy b (some g)) (hB : B ≤ a.heap.size) (hg : B ≤ g) : Below B a b :=
  ⟨h.os, h.tape, h.output, h.size, fun i hi => h.block i (by omega) (fun e => by injection e; omega)⟩
theorem upd_alloc {a w : World} {row : Option Nat} (h : a.grownBy w row) (o : Obj) : a.grownBy (w.alloc o) row :=
  ⟨h.os, h.tape, h.output, Nat.le_trans h.size (by simp), fun i hi hne => (Below.heap_alloc w o i (Nat.lt_of_lt_of_le hi h.size)).trans (h.block i hi hne)⟩
theorem upd_drew {a w : World} {row : Option Nat} (h : a.grownBy w row) : a.grownBy w.drew row := ⟨h.os, h.tape, h.output, h.size, h.block⟩
theorem upd_setCell {a w : World} {g : Nat} (h : a.grownBy w (some g)) {p : Addr} (hp : p.block = g ∨ a.heap.size ≤ p.block) (u : Value) : a.grownBy (w.setCell p u) (some g) :=
  ⟨h.os, h.tape, h.output, by simpa [World.setCell] using h.size, fun i hi hne => (Below.heap_setCell w p u i (by
    rintro rfl
    rcases hp with hp | hp
    · exact hne (by rw [hp])
    · omega)).trans (h.block i hi hne)⟩
end Go.Proofs.Ytiighehibiijcaa

namespace Go.Proofs.Ytiighehibiijcaa
open Go.RowKit

section
variable {P : Program} {md : Region.Mode} {ops : Array Oper} {Q : Exit → Act → World → Prop} {S : World → Prop} {st : Nat}

/-- Whatever order is picked; S holds behind each operation but number st. -/
def Until (P : Program) (md : Region.Mode) (ops : Array Oper) (Q : Exit → Act → World → Prop) (S : World → Prop) (st : Nat) : Nat → Array Bool → Act → World → Prop
  | 0, seen, a, w => Region.ready md ops seen = [] ∧ Q .normal a w
  | n + 1, seen, a, w =>
    (Region.ready md ops seen = [] → Q .normal a w) ∧
    ∀ i ∈ Region.ready md ops seen, wpOp P ops Q i (fun b v => (i = st ∨ S v) ∧ Until P md ops Q S st n (seen.setIfInBounds i true) b v) a w

theorem until_any : ∀ (n : Nat) (seen : Array Bool) (a : Act) (w : World), Until P md ops Q S st n seen a w → wpAny P md ops Q n seen a w := by
  intro n
  induction n with
  | zero => intro seen a w h; exact h
  | succ n ih => intro seen a w h; exact ⟨h.1, fun i hi => wpOp_mono (fun b v hv => ih _ b v hv.2) (h.2 i hi)⟩

/-- Number st waits for number i. -/
def waitsFor (md : Region.Mode) (ops : Array Oper) (st i : Nat) : Bool := ((ops[st]?).map fun o => o.after.any fun e => Region.binds md e && e.on == i).getD false
theorem waitsFor_spec {i : Nat} {o : Oper} (h : waitsFor md ops st i = true) (ho : ops[st]? = some o) : ¬ ∀ e ∈ o.after, Region.binds md e = true → e.on ≠ i := by
  intro hn
  unfold waitsFor at h
  rw [ho] at h
  simp only [Option.map_some, Option.getD_some, Array.any_eq_true] at h
  obtain ⟨k, hk, he⟩ := h
  rw [Bool.and_eq_true] at he
  exact hn _ (Array.getElem_mem hk) he.1 (by simpa using he.2)

theorem until_first {i : Nat} {oi : Oper} {u : Value} (hi : ops[i]? = some oi) (hsel : ∀ (j : Nat) (o : Oper) cs b, ops[j]? = some o → o.op ≠ .select cs b)
    (hst : (decide (ops.size ≤ st) || waitsFor md ops st i) = true) (hQ : ∀ c a w, Q (.panic c) (a.put oi.dst u) w → Q (.panic c) a w) :
    ∀ (n : Nat) (seen : Array Bool) (a : Act) (w : World),
      (∀ j oj, ops[j]? = some oj → j ≠ i → seen.getD j true = false → (∀ e ∈ oj.after, Region.binds md e = true → e.on ≠ i) → oi.apart ops oj = true) →
      i ∈ Region.ready md ops seen → YieldsIf P ops S oi u a → S w →
      Until P md ops Q S st n (seen.setIfInBounds i true) (a.put oi.dst u) w → Until P md ops Q S st (n + 1) seen a w := by
  intro n
  induction n with
  | zero =>
    intro seen a w _ hr hy hS H
    refine ⟨fun h0 => absurd (h0 ▸ hr) (by simp), fun j hj => ?_⟩
    rcases Decidable.em (j = i) with rfl | hji
    · exact hy.wpOp hi hS ⟨.inr hS, H⟩
    · exact absurd (H.1 ▸ ready_mono hj hji) (by simp)
  | succ n ih =>
    intro seen a w hfree hr hy hS H
    refine ⟨fun h0 => absurd (h0 ▸ hr) (by simp), fun j hj => ?_⟩
    rcases Decidable.em (j = i) with rfl | hji
    · exact hy.wpOp hi hS ⟨.inr hS, H⟩
    · obtain ⟨hjun, oj, hoj, hall⟩ := mem_ready.1 hj
      have hun : seen.getD i true = false := (mem_ready.1 hr).1
      have hnot : ∀ e ∈ oj.after, Region.binds md e = true → e.on ≠ i := by
        rintro e he hb rfl
        have h1 := hall e he hb
        rcases Nat.lt_or_ge e.on seen.size with hlt | hge
        · simp [hlt] at h1 hun; rw [hun] at h1; cases h1
        · simp [Array.getElem?_eq_none hge] at h1
      have hjst : j ≠ st := by
        rintro rfl
        rcases Bool.or_eq_true_iff.1 hst with h0 | h0
        · have h1 := of_decide_eq_true h0
          rw [Array.getElem?_eq_none h1] at hoj
          cases hoj
        · exact waitsFor_spec h0 hoj hnot
      refine wpOp_mono (fun b v hv => ?_) (wpOp_putIf hoj (hfree j oj hoj hji hjun hnot) (fun cs b => hsel i oi cs b hi) (fun cs b => hsel j oj cs b hoj) hQ hy (H.2 j (ready_mono hj hji)))
      obtain ⟨hy', h1, h2⟩ := hv
      have hS' : S v := h1.resolve_left hjst
      refine ⟨h1, ih _ b v (fun k ok hk hki hu hno => hfree k ok hk hki ?_ hno) (ready_mono hr (Ne.symm hji)) hy' hS' ?_⟩
      · rcases Decidable.em (j = k) with rfl | hjk
        · exact hjun
        · rwa [getD_set_ne true hjk] at hu
      · rw [Array.setIfInBounds_comm _ _ hji]
        exact h2

/-- Take number i first; its slot is d. -/
theorem until_take (i : Nat) (d : Option Tmp) {oi : Oper} {u : Value} {n : Nat} {seen : Array Bool} {a : Act} {w : World} (hi : ops[i]? = some oi) (hd : oi.dst = d)
    (hs : Region.noSelect ops = true) (hf : Region.free md ops seen i = true) (hr : (Region.ready md ops seen).contains i = true) (hst : (decide (ops.size ≤ st) || waitsFor md ops st i) = true)
    (hQ : ∀ c a w, Q (.panic c) (a.put d u) w → Q (.panic c) a w) (hwant : Region.wanted oi (yielded ops a.tmps) = true) (hy : ∀ v, S v → (execOp a.eval oi).run P v = .ok (.value u) v) (hS : S w)
    (h : Until P md ops Q S st n (seen.setIfInBounds i true) (a.put d u) w) : Until P md ops Q S st (n + 1) seen a w := by
  subst hd
  exact until_first hi (Region.noSelect_spec hs) hst hQ n seen a w (Region.free_spec hi hf) (by simpa using hr) (.inl ⟨hwant, hy⟩) hS h
/-- Number i is not carried out; its slot is d. -/
theorem until_skip (i : Nat) (d : Option Tmp) {oi : Oper} {n : Nat} {seen : Array Bool} {a : Act} {w : World} (hi : ops[i]? = some oi) (hd : oi.dst = d)
    (hs : Region.noSelect ops = true) (hf : Region.free md ops seen i = true) (hr : (Region.ready md ops seen).contains i = true) (hst : (decide (ops.size ≤ st) || waitsFor md ops st i) = true)
    (hQ : ∀ c a w, Q (.panic c) (a.put d undef) w → Q (.panic c) a w) (hwant : Region.wanted oi (yielded ops a.tmps) = false) (hS : S w)
    (h : Until P md ops Q S st n (seen.setIfInBounds i true) (a.put d undef) w) : Until P md ops Q S st (n + 1) seen a w := by
  subst hd
  exact until_first hi (Region.noSelect_spec hs) hst hQ n seen a w (Region.free_spec hi hf) (by simpa using hr) (.inr ⟨hwant, rfl⟩) hS h
/-- All have come up. -/
theorem until_done {n : Nat} {seen : Array Bool} {a : Act} {w : World} (hn : Region.ready md ops seen = []) (hQ : Q .normal a w) : Until P md ops Q S st n seen a w := by
  cases n with
  | zero => exact ⟨hn, hQ⟩
  | succ n => exact ⟨fun _ => hQ, by rw [hn]; simp⟩
/-- One alone may come up: S is to be shown behind it. -/
theorem until_one (i : Nat) {o : Oper} {n : Nat} {seen : Array Bool} {a : Act} {w : World} (hr : Region.ready md ops seen = [i]) (ho : ops[i]? = some o)
    (h : ∀ K : Act → World → Prop, Shut (∀ b v, S v → (S v → Until P md ops Q S st n (seen.setIfInBounds i true) b v) → K b v) → if Region.wanted o (yielded ops a.tmps) = true then Oper.wp P o a w K Q else K (a.put o.dst undef) w) :
    Until P md ops Q S st (n + 1) seen a w := by
  refine ⟨fun h0 => absurd (h0 ▸ hr) (by simp), fun j hj => ?_⟩
  rw [hr] at hj
  obtain rfl : j = i := by simpa using hj
  exact wpOp_step ho fun K hK => h K (fun b v hS hW => hK b v ⟨.inr hS, hW hS⟩)
/-- The last one. -/
theorem until_last {o : Oper} {n : Nat} {seen : Array Bool} {a : Act} {w : World} (hr : Region.ready md ops seen = [st]) (ho : ops[st]? = some o) (hn : Region.ready md ops (seen.setIfInBounds st true) = [])
    (h : ∀ K : Act → World → Prop, Shut (∀ b v, Q .normal b v → K b v) → if Region.wanted o (yielded ops a.tmps) = true then Oper.wp P o a w K Q else K (a.put o.dst undef) w) :
    Until P md ops Q S st (n + 1) seen a w := by
  refine ⟨fun h0 => absurd (h0 ▸ hr) (by simp), fun j hj => ?_⟩
  rw [hr] at hj
  obtain rfl : j = st := by simpa using hj
  refine wpOp_step ho fun K hK => h K (fun b v hQ => hK b v ⟨.inl rfl, ?_⟩)
  cases n with
  | zero => exact ⟨hn, hQ⟩
  | succ n => exact ⟨fun _ => hQ, by rw [hn]; simp⟩
/-- The beginning. -/
theorem until_begin (st : Nat) {l : List Oper} {id : Nat} {a : Act} {w : World} (S : World → Prop) (hm : P.follows .mixedOrders = true) (hS : S w.drew)
    (h : S w.drew → Until P .any l.toArray Q S st l.length (Array.replicate l.length false) a w.drew) : (Code.region id l.toArray true).wp P Q a w :=
  wp_region_any hm (by simpa using until_any _ _ _ _ (h hS))
end
end Go.Proofs.Ytiighehibiijcaa

namespace Go.Proofs.Ytiighehibiijcaa
open Go.RowKit
section
variable {P : Program} {md : Region.Mode} {ops : Array Oper} {Q : Exit → Act → World → Prop} {S : World → Prop} {st : Nat}
theorem until_two (i k : Nat) {o o' : Oper} {n : Nat} {seen : Array Bool} {a : Act} {w : World} (hr : Region.ready md ops seen = [i, k]) (ho : ops[i]? = some o) (ho' : ops[k]? = some o')
    (h : ∀ K : Act → World → Prop, Shut (∀ b v, S v → (S v → Until P md ops Q S st n (seen.setIfInBounds i true) b v) → K b v) → if Region.wanted o (yielded ops a.tmps) = true then Oper.wp P o a w K Q else K (a.put o.dst undef) w)
    (h' : ∀ K : Act → World → Prop, Shut (∀ b v, S v → (S v → Until P md ops Q S st n (seen.setIfInBounds k true) b v) → K b v) → if Region.wanted o' (yielded ops a.tmps) = true then Oper.wp P o' a w K Q else K (a.put o'.dst undef) w) :
    Until P md ops Q S st (n + 1) seen a w := by
  refine ⟨fun h0 => absurd (h0 ▸ hr) (by simp), fun j hj => ?_⟩
  rw [hr] at hj
  have hj' : j = i ∨ j = k := by simpa using hj
  rcases hj' with rfl | rfl
  · exact wpOp_step ho fun K hK => h K (fun b v hS hW => hK b v ⟨.inr hS, hW hS⟩)
  · exact wpOp_step ho' fun K hK => h' K (fun b v hS hW => hK b v ⟨.inr hS, hW hS⟩)
end
end Go.Proofs.Ytiighehibiijcaa

namespace Go.Proofs.Ytiighehibiijcaa
open Go.RowKit
def nthV : List Value → Nat → Value
  | a :: _, 0 => a
  | _ :: l, i + 1 => nthV l i
  | [], _ => undef
theorem meet_us {T : (Nat → Value) → Act} {l : List Value} (h : (⟨l.toArray, []⟩ : Act) = T (nthV l)) : ∃ us, (⟨l.toArray, []⟩ : Act) = T us := ⟨nthV l, h⟩
theorem meet_at {J : Act → World → Prop} {a : Act} {w : World} {R : Act → World → Prop} (hJ : ∀ a w, R a w → J a w) (h : R a w) : Met J a w := hJ a w h
/-- A draw turns nothing that is read. -/
theorem below_drewN (w : World) (n : Nat) : Below w.heap.size w (w.drewN n) := ⟨rfl, rfl, rfl, Nat.le_refl _, fun _ _ => rfl⟩
end Go.Proofs.Ytiighehibiijcaa

namespace Go.Proofs.Ytiighehibiijcaa
open Go.RowKit
theorem i64_and1 (n : Int) : bits .and .i64 n 1 = n % 2 := by
  have h127 : (BitVec.ofInt 64 1).toNat = 2 ^ 1 - 1 := by decide
  have key : (BitVec.ofInt 64 n &&& BitVec.ofInt 64 1).toNat = (n % ((2 ^ 64 : Nat) : Int)).toNat % 2 ^ 1 := by
    rw [BitVec.toNat_and, BitVec.toNat_ofInt, h127, Nat.and_two_pow_sub_one_eq_mod]
  show IntKind.i64.wrap ((BitVec.ofInt 64 n &&& BitVec.ofInt 64 1).toNat : Nat) = n % 2
  rw [key, IntKind.wrap_i64]
  omega
theorem i64_and2 (n : Int) : bits .and .i64 n 3 = n % 4 := by
  have h127 : (BitVec.ofInt 64 3).toNat = 2 ^ 2 - 1 := by decide
  have key : (BitVec.ofInt 64 n &&& BitVec.ofInt 64 3).toNat = (n % ((2 ^ 64 : Nat) : Int)).toNat % 2 ^ 2 := by
    rw [BitVec.toNat_and, BitVec.toNat_ofInt, h127, Nat.and_two_pow_sub_one_eq_mod]
  show IntKind.i64.wrap ((BitVec.ofInt 64 n &&& BitVec.ofInt 64 3).toNat : Nat) = n % 4
  rw [key, IntKind.wrap_i64]
  omega
theorem i64_and3 (n : Int) : bits .and .i64 n 7 = n % 8 := by
  have h127 : (BitVec.ofInt 64 7).toNat = 2 ^ 3 - 1 := by decide
  have key : (BitVec.ofInt 64 n &&& BitVec.ofInt 64 7).toNat = (n % ((2 ^ 64 : Nat) : Int)).toNat % 2 ^ 3 := by
    rw [BitVec.toNat_and, BitVec.toNat_ofInt, h127, Nat.and_two_pow_sub_one_eq_mod]
  show IntKind.i64.wrap ((BitVec.ofInt 64 n &&& BitVec.ofInt 64 7).toNat : Nat) = n % 8
  rw [key, IntKind.wrap_i64]
  omega
theorem i64_and4 (n : Int) : bits .and .i64 n 15 = n % 16 := by
  have h127 : (BitVec.ofInt 64 15).toNat = 2 ^ 4 - 1 := by decide
  have key : (BitVec.ofInt 64 n &&& BitVec.ofInt 64 15).toNat = (n % ((2 ^ 64 : Nat) : Int)).toNat % 2 ^ 4 := by
    rw [BitVec.toNat_and, BitVec.toNat_ofInt, h127, Nat.and_two_pow_sub_one_eq_mod]
  show IntKind.i64.wrap ((BitVec.ofInt 64 n &&& BitVec.ofInt 64 15).toNat : Nat) = n % 16
  rw [key, IntKind.wrap_i64]
  omega
theorem i64_and5 (n : Int) : bits .and .i64 n 31 = n % 32 := by
  have h127 : (BitVec.ofInt 64 31).toNat = 2 ^ 5 - 1 := by decide
  have key : (BitVec.ofInt 64 n &&& BitVec.ofInt 64 31).toNat = (n % ((2 ^ 64 : Nat) : Int)).toNat % 2 ^ 5 := by
    rw [BitVec.toNat_and, BitVec.toNat_ofInt, h127, Nat.and_two_pow_sub_one_eq_mod]
  show IntKind.i64.wrap ((BitVec.ofInt 64 n &&& BitVec.ofInt 64 31).toNat : Nat) = n % 32
  rw [key, IntKind.wrap_i64]
  omega
theorem i64_and6 (n : Int) : bits .and .i64 n 63 = n % 64 := by
  have h127 : (BitVec.ofInt 64 63).toNat = 2 ^ 6 - 1 := by decide
  have key : (BitVec.ofInt 64 n &&& BitVec.ofInt 64 63).toNat = (n % ((2 ^ 64 : Nat) : Int)).toNat % 2 ^ 6 := by
    rw [BitVec.toNat_and, BitVec.toNat_ofInt, h127, Nat.and_two_pow_sub_one_eq_mod]
  show IntKind.i64.wrap ((BitVec.ofInt 64 n &&& BitVec.ofInt 64 63).toNat : Nat) = n % 64
  rw [key, IntKind.wrap_i64]
  omega
theorem i64_and40 (n : Int) : bits .and .i64 n 1099511627775 = n % 1099511627776 := by
  have h127 : (BitVec.ofInt 64 1099511627775).toNat = 2 ^ 40 - 1 := by decide
  have key : (BitVec.ofInt 64 n &&& BitVec.ofInt 64 1099511627775).toNat = (n % ((2 ^ 64 : Nat) : Int)).toNat % 2 ^ 40 := by
    rw [BitVec.toNat_and, BitVec.toNat_ofInt, h127, Nat.and_two_pow_sub_one_eq_mod]
  show IntKind.i64.wrap ((BitVec.ofInt 64 n &&& BitVec.ofInt 64 1099511627775).toNat : Nat) = n % 1099511627776
  rw [key, IntKind.wrap_i64]
  omega
end Go.Proofs.Ytiighehibiijcaa

namespace Go.Proofs.Ytiighehibiijcaa
open Go.RowKit

/-- A sector of zero bytes. -/
def zero64 : List UInt8 := List.replicate 64 0
theorem zero64_length : zero64.length = 64 := rfl

/-- A device: how many sectors; what is safe (absent: zero); what waits; power; armed; steps left; steps done. -/
structure Dev where
  n : Int
  safe : Int → Option (List UInt8)
  waits : List (Int × List UInt8)
  on : Bool
  armed : Bool
  left : Int
  steps : Int

/-- The cells of what waits. -/
def wcells : List (Int × List UInt8) → List Value
  | [] => []
  | p :: l => .int .i64 p.1 :: str p.2 :: wcells l
theorem wcells_append : ∀ (l m : List (Int × List UInt8)), wcells (l ++ m) = wcells l ++ wcells m := by
  intro l
  induction l with
  | nil => intro m; rfl
  | cons p l ih => intro m; simp [wcells, ih]
theorem wcells_length : ∀ l, (wcells l).length = l.length * 2 := by
  intro l
  induction l with
  | nil => rfl
  | cons p l ih => simp only [wcells, List.length_cons, ih]; omega
theorem wcells_get : ∀ (l : List (Int × List UInt8)) (i : Nat) (h : i < l.length), (wcells l)[2 * i]? = some (.int .i64 l[i].1) ∧ (wcells l)[2 * i + 1]? = some (str l[i].2) := by
  intro l
  induction l with
  | nil => intro i h; simp at h
  | cons p l ih =>
    intro i h
    cases i with
    | zero => exact ⟨rfl, rfl⟩
    | succ i =>
      have := ih i (by simpa using h)
      simp only [wcells, List.getElem_cons_succ]
      rw [show 2 * (i + 1) = 2 * i + 1 + 1 by omega, show 2 * i + 1 + 1 + 1 = (2 * i + 1) + 1 + 1 by omega]
      simpa using this

def OwnW (w : World) (B : Nat) (v : Value) (L : List (Int × List UInt8)) : Prop := w.ownsRow B 91 2 v L.length (wcells L)
section
variable {w w' : World} {B : Nat} {v : Value} {L : List (Int × List UInt8)}
theorem OwnW.none (w : World) (B : Nat) : OwnW w B (.slice none 0 0) [] := World.ownsRow_nil _ _ _ _
theorem OwnW.alloc (h : OwnW w B v L) (o : Obj) : OwnW (w.alloc o) B v L := World.ownsRow.alloc h o
theorem OwnW.grown {row : Option Nat} (h : OwnW w B v L) (hg : w.grownBy w' row) (hne : v.ownBlock = Option.none ∨ v.ownBlock ≠ row) : OwnW w' B v L := World.ownsRow.kept h hg hne
theorem OwnW.step (h : OwnW w B v L) (hb : Below w.heap.size w w') : OwnW w' B v L :=
  World.ownsRow.kept h (row := Option.none) ⟨hb.os, hb.tape, hb.output, hb.size, fun k hk _ => hb.block k hk⟩ (by
    rcases hv : v.ownBlock with _ | k
    · exact .inl rfl
    · exact .inr (by simp))
theorem OwnW.read (h : OwnW w B v L) : (v = .slice Option.none 0 0 ∧ L = []) ∨
    ∃ g cap, v = .slice (some ⟨g, 0, Option.none⟩) L.length cap ∧ B ≤ g ∧ g < w.heap.size ∧ L.length ≤ cap ∧ cap ≤ maxLen ∧ (∀ i (h : i < L.length), w.cell? ⟨g, 2 * i, Option.none⟩ = some (.int .i64 L[i].1) ∧ w.cell? ⟨g, 2 * i + 1, Option.none⟩ = some (str L[i].2)) := by
  rcases h.2 with ⟨h1, h2⟩ | ⟨g, cap, cur, h1, h2, h3, h4, h5, h6, h7⟩
  · exact .inl ⟨h1, List.eq_nil_of_length_eq_zero h2⟩
  · refine .inr ⟨g, cap, h1, h2, (Array.getElem?_eq_some_iff.1 h3).1, h4, h5, ?_⟩
    intro i hi
    have hc : ∀ j x, j < L.length * 2 → (wcells L)[j]? = some x → w.cell? ⟨g, j, Option.none⟩ = some x := by
      intro j x hj hx
      rw [cell_of_row w g j cur 91 (0, 0) h3]
      have h8 : (cur.toList.take (L.length * 2))[j]? = (wcells L)[j]? := by rw [h7]
      rw [List.getElem?_take, if_pos hj] at h8
      rw [← Array.getElem?_toList, h8, hx]
    have hw := wcells_get L i hi
    exact ⟨hc _ _ (by omega) hw.1, hc _ _ (by omega) hw.2⟩
theorem OwnW.form (h : OwnW w B v L) : ∃ p c, v = .slice p L.length c := by
  rcases h.read with ⟨rfl, rfl⟩ | ⟨g, cap, rfl, _⟩
  · exact ⟨_, _, rfl⟩
  · exact ⟨_, _, rfl⟩
theorem OwnW.fits (h : OwnW w B v L) : L.length ≤ maxLen := by
  rcases h.read with ⟨_, rfl⟩ | ⟨g, cap, _, _, _, h1, h2, _⟩
  · simp
  · omega
theorem OwnW.push {k : Int} {s : List UInt8} (h : w.ownsRow B 91 2 v (L.length + 1) (wcells L ++ [.int .i64 k, str s])) : OwnW w B v (L ++ [(k, s)]) := by
  unfold OwnW
  rw [wcells_append, List.length_append]
  exact h
theorem OwnW.ne {g : Nat} {t : TypeId} {cs : Array Value} (h : OwnW w B v L) (hb : Blk w g t cs) (ht : t ≠ 91) : v.ownBlock ≠ some g := by
  rcases h.2 with ⟨h1, _⟩ | ⟨k, cap, cur, h1, h2, h3, _⟩
  · subst h1; simp [Value.ownBlock]
  · subst h1
    intro he
    have : k = g := by simpa [Value.ownBlock] using he
    subst this
    unfold Blk at hb
    rw [hb] at h3
    injection h3 with h3
    injection h3 with _ h4 _
    exact ht h4
theorem OwnW.own_lt (h : OwnW w B v L) {i : Nat} (hi : v.ownBlock = some i) : i < w.heap.size ∧ B ≤ i := by
  have := World.ownsRow.lt h i (by rw [hi])
  exact ⟨this.2, this.1⟩
end

/-! The map. -/
def setF (F : Int → Option (List UInt8)) (k : Int) (s : List UInt8) : Int → Option (List UInt8) := fun j => if j = k then some s else F j
def delF (F : Int → Option (List UInt8)) (k : Int) : Int → Option (List UInt8) := fun j => if j = k then none else F j
def MapIs (w : World) (b cap : Nat) (F : Int → Option (List UInt8)) : Prop :=
  ∃ D : DataW Unit, w.ownsMap Try.prog 3 (plainElem Try.prog 9) b cap D ∧ ∀ k, (Lit.int .i64 k).wf = true → Maps.has D (.int .i64 k) = (F k).isSome ∧ ∀ s, F k = some s → ∀ z, D.atKey (.int .i64 k) z = .lit (.string s)
theorem keyInt {k : Int} (hk : (Lit.int .i64 k).wf = true) : keyOf Try.prog 3 (.int .i64 k) = some (.int .i64 k) := Maps.keyOf_int_mk Try.underlying3 hk
theorem keyedInt : Maps.Keyed Try.prog 3 := Maps.int_keyed Try.underlying3
theorem zeroStr (w : World) : (zeroValue 9).run Try.prog w = .ok (.string ByteArray.empty) w := by kernel_rfl
theorem plainStr {s : List UInt8} (hs : s.length ≤ maxLen) : plainElem (H := Unit) Try.prog 9 (str s) = some (.lit (.string s), []) := by
  have := plainElem_string (H := Unit) Try.underlying9 (s := ⟨s.toArray⟩) (by simpa [ByteArray.size] using hs)
  simpa using this
section
variable {w w' : World} {b cap : Nat} {F : Int → Option (List UInt8)}
theorem MapIs.new (w : World) : MapIs (w.alloc (.map #[] 0)) w.heap.size 0 (fun _ => none) :=
  ⟨.map [], World.ownsMap_made _ _ _ _, fun _ _ => ⟨rfl, fun _ h => by cases h⟩⟩
theorem MapIs.kept {row : Option Nat} (h : MapIs w b cap F) (hg : w.grownBy w' row) (hne : some b ≠ row) : MapIs w' b cap F := by
  obtain ⟨D, h1, h2⟩ := h
  exact ⟨D, h1.kept hg hne, h2⟩
theorem MapIs.lt (h : MapIs w b cap F) : b < w.heap.size := by
  obtain ⟨D, h1, _⟩ := h
  exact h1.lt
theorem MapIs.ne {g : Nat} {t : TypeId} {cs : Array Value} (h : MapIs w b cap F) (hb : Blk w g t cs) : g ≠ b := by
  rintro rfl
  obtain ⟨D, ⟨es, clock, h1, _⟩, _⟩ := h
  unfold Blk at hb
  rw [hb] at h1
  injection h1 with h1
  cases h1
theorem MapIs.apart {B : Nat} {v : Value} {L : List (Int × List UInt8)} (h : MapIs w b cap F) (ho : OwnW w B v L) : v.ownBlock ≠ some b := by
  rcases ho.2 with ⟨h1, _⟩ | ⟨k, c, cur, h1, h2, h3, _⟩
  · subst h1; simp [Value.ownBlock]
  · subst h1
    intro he
    have : k = b := by simpa [Value.ownBlock] using he
    subst this
    exact h.ne (show Blk w k 91 cur from h3) rfl
theorem MapIs.look (h : MapIs w b cap F) {k : Int} (hk : (Lit.int .i64 k).wf = true) :
    (Instr.lookup 58 (.map (some b)) (.int .i64 k) true).run Try.prog w = .ok (.tuple #[str ((F k).getD []), .bool (F k).isSome]) w := by
  obtain ⟨D, h1, h2⟩ := h
  obtain ⟨v, ps, hrun, hv⟩ := h1.look_ok keyedInt Try.underlying58 (zeroStr w) (zd := .lit (.string [])) (zp := []) (plainStr (s := []) (by decide)) (keyInt hk)
  obtain ⟨s, rfl, hz, hw⟩ := plainElem_string_inv Try.underlying9 hv
  rw [hrun, (h2 k hk).1]
  have hz := congrArg Prod.fst hz
  simp only [] at hz
  rcases hF : F k with _ | s0
  · have hno : Maps.has D (.int .i64 k) = false := by rw [(h2 k hk).1, hF]; rfl
    rw [Maps.atKey_of_not_has hno] at hz
    have hz := Lit.string.inj (DataW.lit.inj hz)
    have : s = ⟨(([] : List UInt8)).toArray⟩ := by rw [hz]
    rw [this]
    rfl
  · rw [(h2 k hk).2 s0 hF] at hz
    have hz := Lit.string.inj (DataW.lit.inj hz)
    have : s = ⟨s0.toArray⟩ := by rw [hz]
    rw [this]
    rfl
theorem MapIs.store (h : MapIs w b cap F) {k : Int} (hk : (Lit.int .i64 k).wf = true) {s : List UInt8} (hs : s.length ≤ maxLen) (hn : cap < maxLen) :
    ∃ w1, (Instr.mapUpdate 58 (.map (some b)) (.int .i64 k) (str s)).run Try.prog w = .ok () w1 ∧ MapIs w1 b (cap + 1) (setF F k s) ∧ w.grownBy w1 (some b) := by
  obtain ⟨D, h1, h2⟩ := h
  obtain ⟨w1, hrun, hown, hturn⟩ := h1.store keyedInt Try.underlying58 hn (keyInt hk) (plainStr hs)
  have hlit := (keyedInt).key (keyInt hk)
  refine ⟨w1, hrun, ⟨_, hown, ?_⟩, hturn.grown⟩
  intro j hj
  unfold setF
  by_cases hjk : j = k
  · subst hjk
    rw [if_pos rfl]
    exact ⟨by rw [Maps.has_put_same h1.isMap hlit]; rfl, fun s' hs' z => by rw [← Option.some.inj hs']; exact Maps.atKey_put_same h1.isMap hlit _ z⟩
  · rw [if_neg hjk]
    have hne : (Lit.int .i64 j) ≠ Lit.int .i64 k := fun e => hjk (by injection e)
    exact ⟨by rw [Maps.has_put_other hne]; exact (h2 j hj).1, fun s' hs' z => by rw [Maps.atKey_put_other hne]; exact (h2 j hj).2 s' hs' z⟩
theorem MapIs.drop (h : MapIs w b cap F) {k : Int} (hk : (Lit.int .i64 k).wf = true) (ty : TypeId) :
    ∃ w1, (Builtin.delete_ #[58, 3] ty #[.map (some b), .int .i64 k]).run Try.prog w = .ok (.tuple #[]) w1 ∧ MapIs w1 b cap (delF F k) ∧ w.grownBy w1 (some b) := by
  obtain ⟨D, h1, h2⟩ := h
  obtain ⟨w1, hrun, hown, hturn⟩ := h1.drop keyedInt Try.underlying58 (keyInt hk) ty
  refine ⟨w1, hrun, ⟨_, hown, ?_⟩, hturn.grown⟩
  intro j hj
  unfold delF
  by_cases hjk : j = k
  · subst hjk
    rw [if_pos rfl]
    exact ⟨Maps.has_del_same, fun s' hs' => by cases hs'⟩
  · rw [if_neg hjk]
    have hne : (Lit.int .i64 j) ≠ Lit.int .i64 k := fun e => hjk (by injection e)
    exact ⟨by rw [Maps.has_del_other hne]; exact (h2 j hj).1, fun s' hs' z => by rw [Maps.atKey_del_other hne]; exact (h2 j hj).2 s' hs' z⟩
theorem MapIs.same (h : MapIs w b cap F) {G : Int → Option (List UInt8)} (hG : ∀ k, F k = G k) : MapIs w b cap G := by
  obtain rfl : F = G := funext hG
  exact h
end

section
variable {P : Program} {ops : Array Oper} {o : Oper} {a : Act} {w w1 : World} {K : Act → World → Prop} {Q : Exit → Act → World → Prop} {E : Prop}
/-- 'm[k] = v' as a step of a region that draws. -/
theorem step_mapStore (hg : o.guard = none) (hd : o.dst = none) (m x v : Operand) (t : TypeId) (hop : o.op = Op.mapUpdate t m x v) {mv key val : Value} (hm : a.eval m = mv) (hx : a.eval x = key) (hv : a.eval v = val)
    (hrun : (Instr.mapUpdate t mv key val).run P w = .ok () w1) (hK : K a w1) : if Region.wanted o (yielded ops a.tmps) = true then Oper.wp P o a w K Q else E := by
  rw [if_pos (by simp [Region.wanted, hg])]
  unfold Oper.wp
  simp [execOp, hop, hm, hx, hv, hrun, Result.andThen]
  show K (a.put o.dst undef) w1
  rw [hd]
  exact hK
/-- 'delete(m, k)' as a step of a region that draws. -/
theorem step_mapDrop (hg : o.guard = none) (hd : o.dst = none) (m x : Operand) (t k : TypeId) (hop : o.op = Op.call { callee := Callee.builtin Builtin.delete, args := #[m, x], argTypes := #[t, k] }) {mv key : Value} (hm : a.eval m = mv) (hx : a.eval x = key)
    (hrun : (Builtin.delete_ #[t, k] o.type #[mv, key]).run P w = .ok (.tuple #[]) w1) (hK : K a w1) : if Region.wanted o (yielded ops a.tmps) = true then Oper.wp P o a w K Q else E := by
  rw [if_pos (by simp [Region.wanted, hg])]
  unfold Oper.wp
  simp [execOp, hop, resolve, invoke, builtin, hm, hx, hrun, Result.andThen]
  show K (a.put o.dst (.tuple #[])) w1
  rw [hd]
  exact hK
/-- 'v, ok := m[k]'. -/
theorem wpList_look {rest : List Oper} (hg : o.guard = none) (m x : Operand) (t : TypeId) (hop : o.op = Op.lookup t m x true) {mv key r : Value} (hm : a.eval m = mv) (hx : a.eval x = key)
    (hrun : (Instr.lookup t mv key true).run P w = .ok r w) (hK : wpList P ops Q rest (a.put o.dst r) w) : wpList P ops Q (o :: rest) a w := by
  refine wpList_plain hg fun K' hK' => ?_
  unfold Oper.wp
  simp [execOp, hop, hm, hx, hrun, Result.andThen]
  exact hK' _ _ hK
end

/-! The device. -/
def IsDev (w : World) (g gm : Nat) (v : Value) (cap B : Nat) (d : Dev) : Prop :=
  Blk w g 60 #[.int .i64 d.n, .map (some gm), v, .bool d.on, .bool d.armed, .int .i64 d.left, .int .i64 d.steps] ∧ MapIs w gm cap d.safe ∧ OwnW w B v d.waits ∧ B ≤ g ∧ B ≤ gm
/-- What a call on a device may touch: its own blocks, and what is new. -/
structure Touch (g gm : Nat) (w : World) (v : Value) (w' : World) (v' : Value) : Prop where
  os : w'.os = w.os
  tape : w'.tape = w.tape
  output : w'.output = w.output
  size : w.heap.size ≤ w'.heap.size
  block : ∀ i, i < w.heap.size → i ≠ g → i ≠ gm → v.ownBlock ≠ some i → w'.heap[i]? = w.heap[i]?
  own : ∀ i, v'.ownBlock = some i → v.ownBlock = some i ∨ w.heap.size ≤ i
section
variable {g gm : Nat} {w w' w2 : World} {v v' v2 : Value} {cap B : Nat} {d : Dev}
theorem Touch.refl (g gm : Nat) (w : World) (v : Value) : Touch g gm w v w v := ⟨rfl, rfl, rfl, Nat.le_refl _, fun _ _ _ _ _ => rfl, fun _ h => .inl h⟩
theorem Touch.trans (h : Touch g gm w v w' v') (k : Touch g gm w' v' w2 v2) : Touch g gm w v w2 v2 where
  os := k.os.trans h.os
  tape := k.tape.trans h.tape
  output := k.output.trans h.output
  size := Nat.le_trans h.size k.size
  block := fun i hi h1 h2 h3 => (k.block i (Nat.lt_of_lt_of_le hi h.size) h1 h2 (fun e => (h.own i e).elim h3 (fun h4 => by omega))).trans (h.block i hi h1 h2 h3)
  own := fun i hi => (k.own i hi).elim (fun e => h.own i e) (fun h4 => .inr (Nat.le_trans h.size h4))
theorem Touch.drew (h : Touch g gm w v w' v') : Touch g gm w v w'.drew v' := ⟨h.os, h.tape, h.output, h.size, h.block, h.own⟩
theorem Touch.drewN (h : Touch g gm w v w' v') (n : Nat) : Touch g gm w v (w'.drewN n) v' := ⟨h.os, h.tape, h.output, h.size, h.block, h.own⟩
theorem Touch.of_below (hb : Below w.heap.size w w') : Touch g gm w v w' v := ⟨hb.os, hb.tape, hb.output, hb.size, fun i hi _ _ _ => hb.block i hi, fun _ h => .inl h⟩
theorem Touch.of_grown {row : Option Nat} (hb : w.grownBy w' row) (hr : row = some g ∨ row = some gm ∨ row = none) : Touch g gm w v w' v :=
  ⟨hb.os, hb.tape, hb.output, hb.size, fun i hi h1 h2 _ => hb.block i hi (by rcases hr with rfl | rfl | rfl <;> simp [h1, h2]), fun _ h => .inl h⟩
theorem Touch.of_own (hb : w.grownBy w' v.ownBlock) (hv : ∀ i, v'.ownBlock = some i → v.ownBlock = some i ∨ w.heap.size ≤ i) : Touch g gm w v w' v' :=
  ⟨hb.os, hb.tape, hb.output, hb.size, fun i hi _ _ h3 => hb.block i hi (fun e => h3 e.symm), hv⟩
theorem Touch.to_nil (h : Touch g gm w v w' v') : Touch g gm w v w' (.slice none 0 0) := ⟨h.os, h.tape, h.output, h.size, h.block, fun i hi => by simp [Value.ownBlock] at hi⟩
theorem IsDev.keep {i : Nat} {t : TypeId} {cs : Array Value} (hd : IsDev w g gm v cap B d) (ht : Touch g gm w v w' v') (hb : Blk w i t cs) (h1 : t ≠ 60) (h2 : t ≠ 91) : Blk w' i t cs := by
  refine (ht.block i hb.lt ?_ (hd.2.1.ne hb) (hd.2.2.1.ne hb h2)).trans hb
  rintro rfl
  have h3 := hd.1
  unfold Blk at h3 hb
  rw [h3] at hb
  injection hb with hb
  injection hb with _ h4 _
  exact h1 h4.symm
theorem IsDev.below {B0 : Nat} (hd : IsDev w g gm v cap B d) (ht : Touch g gm w v w' v') (hB : B0 ≤ B) (hw : B0 ≤ w.heap.size) : Below B0 w w' :=
  ⟨ht.os, ht.tape, ht.output, ht.size, fun i hi => ht.block i (by omega) (by have := hd.2.2.2.1; omega) (by have := hd.2.2.2.2; omega) (fun e => by have := (hd.2.2.1.own_lt e).2; omega)⟩
theorem IsDev.step (hd : IsDev w g gm v cap B d) (hb : Below w.heap.size w w') : IsDev w' g gm v cap B d :=
  ⟨hd.1.step hb, hd.2.1.kept (row := none) ⟨hb.os, hb.tape, hb.output, hb.size, fun k hk _ => hb.block k hk⟩ (by simp), hd.2.2.1.step hb, hd.2.2.2.1, hd.2.2.2.2⟩
theorem IsDev.drew (hd : IsDev w g gm v cap B d) (n : Nat) : IsDev (w.drewN n) g gm v cap B d := hd
theorem dev_cells (hd : IsDev w g gm v cap B d) : w.cell? ⟨g, 0, none⟩ = some (.int .i64 d.n) ∧ w.cell? ⟨g, 1, none⟩ = some (.map (some gm)) ∧ w.cell? ⟨g, 2, none⟩ = some v ∧ w.cell? ⟨g, 3, none⟩ = some (.bool d.on) ∧
    w.cell? ⟨g, 4, none⟩ = some (.bool d.armed) ∧ w.cell? ⟨g, 5, none⟩ = some (.int .i64 d.left) ∧ w.cell? ⟨g, 6, none⟩ = some (.int .i64 d.steps) := ⟨hd.1.cell 0, hd.1.cell 1, hd.1.cell 2, hd.1.cell 3, hd.1.cell 4, hd.1.cell 5, hd.1.cell 6⟩
/-- A store into a cell of the device. -/
theorem IsDev.set {i : Nat} {u : Value} {d' : Dev} (hd : IsDev w g gm v cap B d)
    (hc : (#[.int .i64 d.n, .map (some gm), v, .bool d.on, .bool d.armed, .int .i64 d.left, .int .i64 d.steps] : Array Value).setIfInBounds i u = #[.int .i64 d'.n, .map (some gm), v, .bool d'.on, .bool d'.armed, .int .i64 d'.left, .int .i64 d'.steps])
    (hs : d'.safe = d.safe) (hw : d'.waits = d.waits) : IsDev (w.setCell ⟨g, i, none⟩ u) g gm v cap B d' ∧ Touch g gm w v (w.setCell ⟨g, i, none⟩ u) v := by
  have hg := upd_set w g i u
  refine ⟨⟨?_, ?_, ?_, hd.2.2.2.1, hd.2.2.2.2⟩, Touch.of_grown hg (.inl rfl)⟩
  · rw [← hc]; exact hd.1.set_ i u
  · rw [hs]; exact hd.2.1.kept hg (by simpa using fun e => (hd.2.1.ne hd.1) e.symm)
  · rw [hw]; exact hd.2.2.1.grown hg (.inr (hd.2.2.1.ne hd.1 (by decide)))
end
end Go.Proofs.Ytiighehibiijcaa

namespace Go.Proofs.Ytiighehibiijcaa
open Go.RowKit

/-- Is there such a sector? -/
def hasD (n k : Int) : Bool := decide (0 ≤ k) && decide (k < n)

set_option maxHeartbeats 800000 in
theorem has_any (w : World) (g gm : Nat) (v : Value) (cap B : Nat) (d : Dev) (k : Int) (u : Bool) (hd : IsDev w g gm v cap B d) (hu : hasD d.n k = u) :
    Calls Try.prog 48 #[.pointer (some ⟨g, 0, none⟩), .int .i64 k] w fun e w' => e = .returned (.bool u) ∧ w = w' := by
  obtain ⟨c0, -⟩ := dev_cells hd
  clear hd
  unfold hasD at hu
  by_cases h0 : 0 ≤ k
  · by_cases h1 : k < d.n
    · obtain rfl : u = true := by rw [← hu]; simp [h0, h1]
      clear hu
      go_enter Try.func48, Try.ntmps48
      go_wp2
      go_ret
      exact ⟨rfl, rfl⟩
    · obtain rfl : u = false := by rw [← hu]; simp [h0, h1]
      have h2 : decide (k < d.n) = false := by simpa using h1
      clear hu
      go_enter Try.func48, Try.ntmps48
      go_wp2
      go_ret
      exact ⟨rfl, rfl⟩
  · obtain rfl : u = false := by rw [← hu]; simp [h0]
    have h2 : decide (0 ≤ k) = false := by simpa using h0
    clear hu
    go_enter Try.func48, Try.ntmps48
    go_wp2
    go_ret
    exact ⟨rfl, rfl⟩
set_option maxHeartbeats 800000 in
theorem has_nil (w : World) (k : Int) :
    Calls Try.prog 48 #[.pointer none, .int .i64 k] w fun e w' => e = .returned (.bool false) ∧ w = w' := by
  go_enter Try.func48, Try.ntmps48
  go_wp2
  go_ret
  exact ⟨rfl, rfl⟩
set_option maxHeartbeats 400000 in
theorem sectors_any (w : World) (g gm : Nat) (v : Value) (cap B : Nat) (d : Dev) (hd : IsDev w g gm v cap B d) :
    Calls Try.prog 22 #[.pointer (some ⟨g, 0, none⟩)] w fun e w' => e = .returned (.int .i64 d.n) ∧ w = w' := by
  obtain ⟨c0, -⟩ := dev_cells hd
  clear hd
  go_enter Try.func22, Try.ntmps22
  go_wp2
  go_ret
  exact ⟨rfl, rfl⟩
set_option maxHeartbeats 400000 in
theorem sectors_nil (w : World) :
    Calls Try.prog 22 #[.pointer none] w fun e w' => e = .returned (.int .i64 0) ∧ w = w' := by
  go_enter Try.func22, Try.ntmps22
  go_wp2
  go_ret
  exact ⟨rfl, rfl⟩
set_option maxHeartbeats 400000 in
theorem steps_any (w : World) (g gm : Nat) (v : Value) (cap B : Nat) (d : Dev) (hd : IsDev w g gm v cap B d) :
    Calls Try.prog 23 #[.pointer (some ⟨g, 0, none⟩)] w fun e w' => e = .returned (.int .i64 d.steps) ∧ w = w' := by
  obtain ⟨-, -, -, -, -, -, c6⟩ := dev_cells hd
  clear hd
  go_enter Try.func23, Try.ntmps23
  go_wp2
  go_ret
  exact ⟨rfl, rfl⟩
set_option maxHeartbeats 400000 in
theorem steps_nil (w : World) :
    Calls Try.prog 23 #[.pointer none] w fun e w' => e = .returned (.int .i64 0) ∧ w = w' := by
  go_enter Try.func23, Try.ntmps23
  go_wp2
  go_ret
  exact ⟨rfl, rfl⟩
set_option maxHeartbeats 400000 in
theorem on_any (w : World) (g gm : Nat) (v : Value) (cap B : Nat) (d : Dev) (hd : IsDev w g gm v cap B d) :
    Calls Try.prog 27 #[.pointer (some ⟨g, 0, none⟩)] w fun e w' => e = .returned (.bool d.on) ∧ w = w' := by
  obtain ⟨-, -, -, c3, -⟩ := dev_cells hd
  clear hd
  go_enter Try.func27, Try.ntmps27
  go_wp2
  go_ret
  exact ⟨rfl, rfl⟩
set_option maxHeartbeats 400000 in
theorem on_nil (w : World) :
    Calls Try.prog 27 #[.pointer none] w fun e w' => e = .returned (.bool false) ∧ w = w' := by
  go_enter Try.func27, Try.ntmps27
  go_wp2
  go_ret
  exact ⟨rfl, rfl⟩

/-- What is safe of a sector that there is. -/
def safeD (d : Dev) (k : Int) : List UInt8 := (d.safe k).getD zero64
/-- 64 zero bytes, in a new block. -/
def row64 : Array Value := ((List.replicate 64 (0 : Int)).map (Value.int .u8)).toArray
theorem make64 (w : World) : (Instr.makeSlice 40 (.int .i64 64) (.int .i64 64)).run Try.prog w = .ok (.slice (some ⟨w.heap.size, 0, none⟩) 64 64) (w.alloc (.cells row64 5)) := by kernel_rfl
theorem conv64 (w : World) : (convert 40 9 (.slice (some ⟨w.heap.size, 0, none⟩) 64 64)).run Try.prog (w.alloc (.cells row64 5)) = .ok (str zero64) (w.alloc (.cells row64 5)) :=
  run_str_new (P := Try.prog) w 40 9 5 5 (List.replicate 64 0) 64 64 rfl (by intro x hx; have := List.eq_of_mem_replicate hx; omega) Try.underlying40 Try.underlying5 Try.underlying9
theorem wpList_make_run {P : Program} {ops : Array Oper} {o : Oper} {a : Act} {w w1 : World} {Q : Exit → Act → World → Prop} {rest : List Oper} (hg : o.guard = none) (l c : Operand) (t : TypeId) (hop : o.op = Op.makeSlice t l c) {lv cv r : Value} (hl : a.eval l = lv) (hc : a.eval c = cv)
    (hrun : (Instr.makeSlice t lv cv).run P w = .ok r w1) (hK : wpList P ops Q rest (a.put o.dst r) w1) : wpList P ops Q (o :: rest) a w := by
  refine wpList_plain hg fun K' hK' => ?_
  unfold Oper.wp
  simp [execOp, hop, hl, hc, hrun, Result.andThen]
  exact hK' _ _ hK

set_option maxRecDepth 100000 in
set_option maxHeartbeats 1600000 in
theorem safe_any (w : World) (g gm : Nat) (v : Value) (cap B : Nat) (d : Dev) (k : Int) (hd : IsDev w g gm v cap B d) (hk : (Lit.int .i64 k).wf = true) :
    Calls Try.prog 21 #[.pointer (some ⟨g, 0, none⟩), .int .i64 k] w fun e w' => e = .returned (str (if hasD d.n k = true then safeD d k else [])) ∧ Below w.heap.size w w' := by
  obtain ⟨u, hu⟩ : ∃ u, hasD d.n k = u := ⟨_, rfl⟩
  rw [hu]
  have HD := Lib.hid hd
  have HU := Lib.hid hu
  obtain ⟨-, c1, -⟩ := dev_cells hd
  clear hd hu
  cases u
  · go_enter Try.func21, Try.ntmps21
    go_wp2_with fail
    refine (has_any _ g gm v cap B d k false HD.out HU.out).mono ?_
    rintro e w1 ⟨rfl, rfl⟩
    go_wp2
    go_ret
    exact ⟨rfl, Below.refl _ _⟩
  · unfold safeD
    have hl := HD.out.2.1.look hk
    have HL := Lib.hid hl
    clear hl
    go_enter Try.func21, Try.ntmps21
    go_wp2_with fail
    refine (has_any _ g gm v cap B d k true HD.out HU.out).mono ?_
    rintro e w1 ⟨rfl, rfl⟩
    rcases hF : d.safe k with _ | s
    · have HF := Lib.hid hF
      clear hF
      have kc := conv64 w
      go_wp2_with (first | (at_lookup; refine wpList_look rfl _ _ _ rfl rfl rfl HL.out ?_; rw [HF.out]) | (at_make; refine wpList_make_run rfl _ _ _ rfl rfl rfl (make64 _) ?_))
      go_ret
      exact ⟨by rw [HF.out]; rfl, (Below.refl _ _).alloc (Nat.le_refl _) _⟩
    · have HF := Lib.hid hF
      clear hF
      go_wp2_with (at_lookup; refine wpList_look rfl _ _ _ rfl rfl rfl HL.out ?_; rw [HF.out])
      go_ret
      exact ⟨by rw [HF.out]; rfl, Below.refl _ _⟩
end Go.Proofs.Ytiighehibiijcaa

namespace Go.Proofs.Ytiighehibiijcaa
open Go.RowKit

theorem step_value {d : Option Tmp} {P : Program} {ops : Array Oper} {o : Oper} {a : Act} {w w1 : World} {r : Value} {K : Act → World → Prop} {Q : Exit → Act → World → Prop} {E : Prop} (hw : Region.wanted o (yielded ops a.tmps) = true)
    (hd : o.dst = d) (hrun : (execOp a.eval o).run P w = .ok (.value r) w1) (hK : K (a.put d r) w1) : if Region.wanted o (yielded ops a.tmps) = true then Oper.wp P o a w K Q else E := by
  rw [if_pos hw]
  unfold Oper.wp
  rw [hrun]
  subst hd
  exact hK
theorem IsDev.mapped {w w' : World} {g gm : Nat} {v : Value} {cap cap' B : Nat} {d : Dev} {F : Int → Option (List UInt8)} (hd : IsDev w g gm v cap B d) (hm : MapIs w' gm cap' F) (hg : w.grownBy w' (some gm)) :
    IsDev w' g gm v cap' B { d with safe := F } ∧ Touch g gm w v w' v :=
  ⟨⟨hd.1.grown hg (by simpa using hd.2.1.ne hd.1), hm, hd.2.2.1.grown hg (.inr (hd.2.1.apart hd.2.2.1)), hd.2.2.2.1, hd.2.2.2.2⟩, Touch.of_grown hg (.inr (.inl rfl))⟩
/-- A sector is safe from now on; of one that is zero nothing is kept. -/
def keepD (d : Dev) (k : Int) (s : List UInt8) : Dev := { d with safe := if (s == zero64) = true then delF (setF d.safe k s) k else setF d.safe k s }

set_option maxRecDepth 100000 in
set_option maxHeartbeats 2000000 in
theorem keep_any (w : World) (g gm : Nat) (v : Value) (cap B : Nat) (d : Dev) (k : Int) (s : List UInt8) (hd : IsDev w g gm v cap B d) (hk : (Lit.int .i64 k).wf = true) (hs : s.length ≤ maxLen) (hc : cap < maxLen) :
    Calls Try.prog 52 #[.pointer (some ⟨g, 0, none⟩), .agg #[.int .i64 k, str s]] w fun e w' => e = .returned (.tuple #[]) ∧ IsDev w' g gm v (cap + 1) B (keepD d k s) ∧ Touch g gm w v w' v := by
  obtain ⟨u, hu⟩ : ∃ u, (s == zero64) = u := ⟨_, rfl⟩
  unfold keepD
  rw [hu]
  have HU := Lib.hid hu
  have HD := Lib.hid hd
  clear hu hd
  go_enter Try.func52, Try.ntmps52
  go_wp2_with fail
  have HD1 := Lib.hid (HD.out.step ((Below.refl w.heap.size w).alloc (Nat.le_refl _) (.cells #[.int .i64 k, str s] 91)))
  have T1 : Touch g gm w v (w.alloc (.cells #[.int .i64 k, str s] 91)) v := Touch.of_below ((Below.refl w.heap.size w).alloc (Nat.le_refl _) _)
  have X1 := Lib.hid (Blk.new w 91 #[.int .i64 k, str s])
  generalize w.alloc (.cells #[.int .i64 k, str s] 91) = w1 at *
  generalize w.heap.size = x at *
  obtain ⟨-, c1, -⟩ := dev_cells HD1.out
  have x0 : w1.cell? ⟨x, 0, none⟩ = some (.int .i64 k) := X1.out.cell 0
  have x1 : w1.cell? ⟨x, 1, none⟩ = some (str s) := X1.out.cell 1
  refine until_begin 8 (fun w' => w'.cell? ⟨g, 1, none⟩ = some (.map (some gm)) ∧ w'.cell? ⟨x, 0, none⟩ = some (.int .i64 k) ∧ w'.cell? ⟨x, 1, none⟩ = some (str s)) (by kernel_rfl) ⟨c1, x0, x1⟩ (fun hS => ?_)
  refine until_take 0 (some 4) (u := ?_) rfl rfl (by kernel_rfl) (by kernel_rfl) (by kernel_rfl) (by kernel_rfl) (fun _ _ _ h => h) (by rfl) (fun wS hv => ?_) hS ?_
  rotate_left
  · clear hv
    go_simp
    all_goals with_reducible rfl
  try simp only [Act.put, List.setIfInBounds_toArray, List.set]
  refine until_take 1 (some 5) (u := ?_) rfl rfl (by kernel_rfl) (by kernel_rfl) (by kernel_rfl) (by kernel_rfl) (fun _ _ _ h => h) (by rfl) (fun wS hv => ?_) hS ?_
  rotate_left
  · clear hv
    go_simp
    all_goals with_reducible rfl
  try simp only [Act.put, List.setIfInBounds_toArray, List.set]
  refine until_take 2 (some 6) (u := ?_) rfl rfl (by kernel_rfl) (by kernel_rfl) (by kernel_rfl) (by kernel_rfl) (fun _ _ _ h => h) (by rfl) (fun wS hv => ?_) hS ?_
  rotate_left
  · clear hv
    go_simp
    all_goals with_reducible rfl
  try simp only [Act.put, List.setIfInBounds_toArray, List.set]
  refine until_take 3 (some 7) (u := ?_) rfl rfl (by kernel_rfl) (by kernel_rfl) (by kernel_rfl) (by kernel_rfl) (fun _ _ _ h => h) (by rfl) (fun wS hv => ?_) hS ?_
  rotate_left
  · obtain ⟨k1, k2, k3⟩ := hv
    go_simp
    all_goals with_reducible rfl
  try simp only [Act.put, List.setIfInBounds_toArray, List.set]
  refine until_take 4 (some 8) (u := ?_) rfl rfl (by kernel_rfl) (by kernel_rfl) (by kernel_rfl) (by kernel_rfl) (fun _ _ _ h => h) (by rfl) (fun wS hv => ?_) hS ?_
  rotate_left
  · clear hv
    go_simp
    all_goals with_reducible rfl
  try simp only [Act.put, List.setIfInBounds_toArray, List.set]
  refine until_take 5 (some 9) (u := ?_) rfl rfl (by kernel_rfl) (by kernel_rfl) (by kernel_rfl) (by kernel_rfl) (fun _ _ _ h => h) (by rfl) (fun wS hv => ?_) hS ?_
  rotate_left
  · obtain ⟨k1, k2, k3⟩ := hv
    go_simp
    all_goals with_reducible rfl
  try simp only [Act.put, List.setIfInBounds_toArray, List.set]
  refine until_take 6 (some 10) (u := ?_) rfl rfl (by kernel_rfl) (by kernel_rfl) (by kernel_rfl) (by kernel_rfl) (fun _ _ _ h => h) (by rfl) (fun wS hv => ?_) hS ?_
  rotate_left
  · clear hv
    go_simp
    all_goals with_reducible rfl
  try simp only [Act.put, List.setIfInBounds_toArray, List.set]
  refine until_take 7 (some 11) (u := ?_) rfl rfl (by kernel_rfl) (by kernel_rfl) (by kernel_rfl) (by kernel_rfl) (fun _ _ _ h => h) (by rfl) (fun wS hv => ?_) hS ?_
  rotate_left
  · obtain ⟨k1, k2, k3⟩ := hv
    go_simp
    all_goals with_reducible rfl
  try simp only [Act.put, List.setIfInBounds_toArray, List.set]
  refine until_last (by kernel_rfl) rfl (by kernel_rfl) (fun K hK => ?_)
  obtain ⟨w2, hrun, hm2, hg2⟩ := MapIs.store (show MapIs w1.drew gm cap d.safe from HD1.out.2.1) hk hs hc
  refine step_mapStore rfl rfl (.tmp 7) (.tmp 9) (.tmp 11) 58 rfl rfl rfl rfl hrun ?_
  refine hK.out _ _ ?_
  clear hK K hrun
  obtain ⟨hd2, t2⟩ := IsDev.mapped (w := w1.drew) HD1.out hm2 hg2
  have HD2 := Lib.hid hd2
  have T2 := T1.drew.trans t2
  have X2 := Lib.hid (X1.out.drew.grown hg2 (by simpa using HD1.out.2.1.ne X1.out))
  clear hd2 t2 T1 hm2 hg2 X1 HD1 c1 x0 x1 hS
  obtain ⟨-, y1, -⟩ := dev_cells HD2.out
  have y2 : w2.cell? ⟨x, 0, none⟩ = some (.int .i64 k) := X2.out.cell 0
  have y3 : w2.cell? ⟨x, 1, none⟩ = some (str s) := X2.out.cell 1
  have l1 : g < w2.heap.size := HD2.out.1.lt
  have l2 : x < w2.heap.size := X2.out.lt
  go_wp2_with fail
  refine until_begin 5 (fun w' => w'.cell? ⟨g, 1, none⟩ = some (.map (some gm)) ∧ w'.cell? ⟨x, 0, none⟩ = some (.int .i64 k) ∧ w'.cell? ⟨x, 1, none⟩ = some (str s)) (by kernel_rfl) ⟨y1, y2, y3⟩ (fun hS => ?_)
  refine until_take 0 (some 12) (u := ?_) rfl rfl (by kernel_rfl) (by kernel_rfl) (by kernel_rfl) (by kernel_rfl) (fun _ _ _ h => h) (by rfl) (fun wS hv => ?_) hS ?_
  rotate_left
  · clear hv
    go_simp
    all_goals with_reducible rfl
  try simp only [Act.put, List.setIfInBounds_toArray, List.set]
  refine until_take 1 (some 13) (u := ?_) rfl rfl (by kernel_rfl) (by kernel_rfl) (by kernel_rfl) (by kernel_rfl) (fun _ _ _ h => h) (by rfl) (fun wS hv => ?_) hS ?_
  rotate_left
  · obtain ⟨k1, k2, k3⟩ := hv
    go_simp
    all_goals with_reducible rfl
  try simp only [Act.put, List.setIfInBounds_toArray, List.set]
  refine until_one 2 (by kernel_rfl) rfl (fun K hK => ?_)
  refine step_value (d := some 14) (by rfl) rfl (r := .slice (some ⟨w2.heap.size, 0, none⟩) 64 64) (w1 := w2.drew.alloc (.cells row64 5)) (by simp [execOp, Act.eval, make64, Result.andThen]) ?_
  refine hK.out _ _ ⟨(World.cell?_alloc_lt _ _ _ l1).trans y1, (World.cell?_alloc_lt _ _ _ l2).trans y2, (World.cell?_alloc_lt _ _ _ l2).trans y3⟩ (fun hS => ?_)
  clear hK K
  try simp only [Act.put, List.setIfInBounds_toArray, List.set]
  refine until_one 3 (by kernel_rfl) rfl (fun K hK => ?_)
  have kc : (convert 40 9 (.slice (some ⟨w2.heap.size, 0, none⟩) 64 64)).run Try.prog (w2.alloc (.cells row64 5)).drew = .ok (str zero64) (w2.alloc (.cells row64 5)).drew := conv64 w2.drew
  go_simp
  refine hK.out _ _ hS (fun hS => ?_)
  clear hK K
  try simp only [Act.put, List.setIfInBounds_toArray, List.set]
  refine until_take 4 (some 16) (u := ?_) rfl rfl (by kernel_rfl) (by kernel_rfl) (by kernel_rfl) (by kernel_rfl) (fun _ _ _ h => h) (by rfl) (fun wS hv => ?_) hS ?_
  rotate_left
  · clear hv
    go_simp
    all_goals with_reducible rfl
  try simp only [Act.put, List.setIfInBounds_toArray, List.set]
  refine until_done (by kernel_rfl) ?_
  have b3 : Below w2.heap.size w2 (w2.alloc (.cells row64 5)).drew := ((Below.refl w2.heap.size w2).alloc (Nat.le_refl _) _).drew
  have HD3 := Lib.hid (HD2.out.step b3)
  have T3 := T2.trans (Touch.of_below b3)
  have X3 := Lib.hid (X2.out.step b3)
  clear kc hS b3 T2 X2 HD2 y1 y2 y3 l1 l2
  generalize (w2.alloc (.cells row64 5)).drew = w3 at *
  rw [HU.out]
  cases u
  · go_wp2
    go_end0
    exact ⟨rfl, HD3.out, T3⟩
  · obtain ⟨-, z1, -⟩ := dev_cells HD3.out
    have z2 : w3.cell? ⟨x, 0, none⟩ = some (.int .i64 k) := X3.out.cell 0
    have z3 : w3.cell? ⟨x, 1, none⟩ = some (str s) := X3.out.cell 1
    go_wp2_with fail
    refine until_begin 7 (fun w' => w'.cell? ⟨g, 1, none⟩ = some (.map (some gm)) ∧ w'.cell? ⟨x, 0, none⟩ = some (.int .i64 k) ∧ w'.cell? ⟨x, 1, none⟩ = some (str s)) (by kernel_rfl) ⟨z1, z2, z3⟩ (fun hS => ?_)
    refine until_take 0 (some 17) (u := ?_) rfl rfl (by kernel_rfl) (by kernel_rfl) (by kernel_rfl) (by kernel_rfl) (fun _ _ _ h => h) (by rfl) (fun wS hv => ?_) hS ?_
    rotate_left
    · clear hv
      go_simp
      all_goals with_reducible rfl
    try simp only [Act.put, List.setIfInBounds_toArray, List.set]
    refine until_take 1 (some 18) (u := ?_) rfl rfl (by kernel_rfl) (by kernel_rfl) (by kernel_rfl) (by kernel_rfl) (fun _ _ _ h => h) (by rfl) (fun wS hv => ?_) hS ?_
    rotate_left
    · clear hv
      go_simp
      all_goals with_reducible rfl
    try simp only [Act.put, List.setIfInBounds_toArray, List.set]
    refine until_take 2 (some 19) (u := ?_) rfl rfl (by kernel_rfl) (by kernel_rfl) (by kernel_rfl) (by kernel_rfl) (fun _ _ _ h => h) (by rfl) (fun wS hv => ?_) hS ?_
    rotate_left
    · clear hv
      go_simp
      all_goals with_reducible rfl
    try simp only [Act.put, List.setIfInBounds_toArray, List.set]
    refine until_take 3 (some 20) (u := ?_) rfl rfl (by kernel_rfl) (by kernel_rfl) (by kernel_rfl) (by kernel_rfl) (fun _ _ _ h => h) (by rfl) (fun wS hv => ?_) hS ?_
    rotate_left
    · obtain ⟨k1, k2, k3⟩ := hv
      go_simp
      all_goals with_reducible rfl
    try simp only [Act.put, List.setIfInBounds_toArray, List.set]
    refine until_take 4 (some 21) (u := ?_) rfl rfl (by kernel_rfl) (by kernel_rfl) (by kernel_rfl) (by kernel_rfl) (fun _ _ _ h => h) (by rfl) (fun wS hv => ?_) hS ?_
    rotate_left
    · clear hv
      go_simp
      all_goals with_reducible rfl
    try simp only [Act.put, List.setIfInBounds_toArray, List.set]
    refine until_take 5 (some 22) (u := ?_) rfl rfl (by kernel_rfl) (by kernel_rfl) (by kernel_rfl) (by kernel_rfl) (fun _ _ _ h => h) (by rfl) (fun wS hv => ?_) hS ?_
    rotate_left
    · obtain ⟨k1, k2, k3⟩ := hv
      go_simp
      all_goals with_reducible rfl
    try simp only [Act.put, List.setIfInBounds_toArray, List.set]
    refine until_one 6 (by kernel_rfl) rfl (fun K hK => ?_)
    obtain ⟨w4, hrun, hm4, hg4⟩ := MapIs.drop (show MapIs w3.drew gm (cap + 1) (setF d.safe k s) from HD3.out.2.1) hk 0
    refine step_mapDrop rfl rfl (.tmp 20) (.tmp 22) 58 3 rfl rfl rfl hrun ?_
    refine hK.out _ _ ⟨((HD3.out.1.drew.grown hg4 (by simpa using HD3.out.2.1.ne HD3.out.1)).cell 1), ((X3.out.drew.grown hg4 (by simpa using HD3.out.2.1.ne X3.out)).cell 0), ((X3.out.drew.grown hg4 (by simpa using HD3.out.2.1.ne X3.out)).cell 1)⟩ (fun hS => ?_)
    clear hK K
    try simp only [Act.put, List.setIfInBounds_toArray, List.set]
    refine until_done (by kernel_rfl) ?_
    obtain ⟨hd4, t4⟩ := IsDev.mapped (w := w3.drew) HD3.out hm4 hg4
    go_wp2
    go_end0
    exact ⟨rfl, hd4, T3.drew.trans t4⟩
end Go.Proofs.Ytiighehibiijcaa

namespace Go.Proofs.Ytiighehibiijcaa
open Go.RowKit
set_option linter.unusedSimpArgs false

/-- The device's row was appended to, and its field not yet set. -/
theorem IsDev.pushed {w w2 : World} {g gm : Nat} {v v2 : Value} {cap B : Nat} {d : Dev} {L : List (Int × List UInt8)} (hd : IsDev w g gm v cap B d) (ho : OwnW w2 B v2 L) (hg : w.grownBy w2 v.ownBlock) :
    Blk w2 g 60 #[.int .i64 d.n, .map (some gm), v, .bool d.on, .bool d.armed, .int .i64 d.left, .int .i64 d.steps] ∧ MapIs w2 gm cap d.safe ∧ OwnW w2 B v2 L ∧ B ≤ g ∧ B ≤ gm :=
  ⟨hd.1.grown hg (hd.2.2.1.ne hd.1 (by decide)).symm, hd.2.1.kept hg (hd.2.1.apart hd.2.2.1).symm, ho, hd.2.2.2.1, hd.2.2.2.2⟩
/-- A store into the device's field of what waits. -/
theorem IsDev.setWaits {w : World} {g gm : Nat} {v v2 : Value} {cap B : Nat} {d : Dev} {L : List (Int × List UInt8)}
    (hd : Blk w g 60 #[.int .i64 d.n, .map (some gm), v, .bool d.on, .bool d.armed, .int .i64 d.left, .int .i64 d.steps] ∧ MapIs w gm cap d.safe ∧ OwnW w B v2 L ∧ B ≤ g ∧ B ≤ gm) :
    IsDev (w.setCell ⟨g, 2, none⟩ v2) g gm v2 cap B { d with waits := L } := by
  have hg := upd_set w g 2 v2
  exact ⟨hd.1.set_ 2 v2, hd.2.1.kept hg (by simpa using fun e => (hd.2.1.ne hd.1) e.symm), hd.2.2.1.grown hg (.inr (hd.2.2.1.ne hd.1 (by decide))), hd.2.2.2.1, hd.2.2.2.2⟩

theorem own_at {v : Value} {gv i n c H : Nat} (hat : v.ownBlock = some gv ∨ gv = H) (h : (Value.slice (some ⟨gv, 0, none⟩) n c).ownBlock = some i) : v.ownBlock = some i ∨ H ≤ i := by
  have hgi : gv = i := by simpa [Value.ownBlock] using h
  subst hgi
  exact hat.imp (fun h => h) (fun h => by omega)
set_option maxRecDepth 100000 in
set_option maxHeartbeats 2000000 in
theorem put_any (w : World) (g gm : Nat) (v : Value) (cap B : Nat) (d : Dev) (bd bk bs : Nat) (k : Int) (s : List UInt8) (hd : IsDev w g gm v cap B d)
    (h1 : Blk w bd 24 #[.pointer (some ⟨g, 0, none⟩)]) (h2 : Blk w bk 3 #[.int .i64 k]) (h3 : Blk w bs 9 #[str s]) (hn : d.waits.length < 5000000000000) :
    Calls Try.prog 49 #[.pointer (some ⟨bd, 0, none⟩), .pointer (some ⟨bk, 0, none⟩), .pointer (some ⟨bs, 0, none⟩)] w fun e w' => e = .returned (.tuple #[]) ∧ ∃ v', IsDev w' g gm v' cap B { d with waits := d.waits ++ [(k, s)] } ∧ Touch g gm w v w' v' := by
  obtain ⟨i0, hi, hz0, hz1, hz2⟩ : ∃ i, Try.prog.info? 91 = some i ∧ i.zero = some (.agg #[.int .i64 0, .string ByteArray.empty]) ∧ i.size = 2 ∧ i.bytes = 24 := info_parts (by kernel_rfl)
  have HD := Lib.hid hd
  have HB1 := Lib.hid h1
  have HB2 := Lib.hid h2
  have HB3 := Lib.hid h3
  clear hd h1 h2 h3
  go_enter Try.func49, Try.ntmps49
  go_wp2_with fail
  refine until_begin 12 (fun w' => w'.cell? ⟨bd, 0, none⟩ = some (.pointer (some ⟨g, 0, none⟩)) ∧ w'.cell? ⟨bk, 0, none⟩ = some (.int .i64 k) ∧ w'.cell? ⟨bs, 0, none⟩ = some (str s) ∧ w'.cell? ⟨g, 2, none⟩ = some v) (by kernel_rfl) ⟨HB1.out.cell 0, HB2.out.cell 0, HB3.out.cell 0, HD.out.1.cell 2⟩ (fun hS => ?_)
  refine until_take 0 (some 3) (u := ?_) rfl rfl (by kernel_rfl) (by kernel_rfl) (by kernel_rfl) (by kernel_rfl) (fun _ _ _ h => h) (by rfl) (fun wS hv => ?_) hS ?_
  rotate_left
  · obtain ⟨k1, k2, k3, k4⟩ := hv
    go_simp
    all_goals with_reducible rfl
  try simp only [Act.put, List.setIfInBounds_toArray, List.set]
  refine until_take 1 (some 4) (u := ?_) rfl rfl (by kernel_rfl) (by kernel_rfl) (by kernel_rfl) (by kernel_rfl) (fun _ _ _ h => h) (by rfl) (fun wS hv => ?_) hS ?_
  rotate_left
  · obtain ⟨k1, k2, k3, k4⟩ := hv
    go_simp
    all_goals with_reducible rfl
  try simp only [Act.put, List.setIfInBounds_toArray, List.set]
  refine until_take 2 (some 5) (u := ?_) rfl rfl (by kernel_rfl) (by kernel_rfl) (by kernel_rfl) (by kernel_rfl) (fun _ _ _ h => h) (by rfl) (fun wS hv => ?_) hS ?_
  rotate_left
  · clear hv
    go_simp
    all_goals with_reducible rfl
  try simp only [Act.put, List.setIfInBounds_toArray, List.set]
  refine until_take 3 (some 6) (u := ?_) rfl rfl (by kernel_rfl) (by kernel_rfl) (by kernel_rfl) (by kernel_rfl) (fun _ _ _ h => h) (by rfl) (fun wS hv => ?_) hS ?_
  rotate_left
  · clear hv
    go_simp
    all_goals with_reducible rfl
  try simp only [Act.put, List.setIfInBounds_toArray, List.set]
  refine until_take 4 (some 7) (u := ?_) rfl rfl (by kernel_rfl) (by kernel_rfl) (by kernel_rfl) (by kernel_rfl) (fun _ _ _ h => h) (by rfl) (fun wS hv => ?_) hS ?_
  rotate_left
  · obtain ⟨k1, k2, k3, k4⟩ := hv
    go_simp
    all_goals with_reducible rfl
  try simp only [Act.put, List.setIfInBounds_toArray, List.set]
  refine until_take 5 (some 8) (u := ?_) rfl rfl (by kernel_rfl) (by kernel_rfl) (by kernel_rfl) (by kernel_rfl) (fun _ _ _ h => h) (by rfl) (fun wS hv => ?_) hS ?_
  rotate_left
  · obtain ⟨k1, k2, k3, k4⟩ := hv
    go_simp
    all_goals with_reducible rfl
  try simp only [Act.put, List.setIfInBounds_toArray, List.set]
  refine until_take 6 (some 9) (u := ?_) rfl rfl (by kernel_rfl) (by kernel_rfl) (by kernel_rfl) (by kernel_rfl) (fun _ _ _ h => h) (by rfl) (fun wS hv => ?_) hS ?_
  rotate_left
  · obtain ⟨k1, k2, k3, k4⟩ := hv
    go_simp
    all_goals with_reducible rfl
  try simp only [Act.put, List.setIfInBounds_toArray, List.set]
  refine until_take 7 (some 10) (u := ?_) rfl rfl (by kernel_rfl) (by kernel_rfl) (by kernel_rfl) (by kernel_rfl) (fun _ _ _ h => h) (by rfl) (fun wS hv => ?_) hS ?_
  rotate_left
  · clear hv
    go_simp
    all_goals with_reducible rfl
  try simp only [Act.put, List.setIfInBounds_toArray, List.set]
  refine until_one 8 (by kernel_rfl) rfl (fun K hK => ?_)
  refine step_value (d := some 11) (by rfl) rfl (r := .slice (some ⟨w.heap.size, 0, none⟩) 1 1) (w1 := w.drew.alloc (.cells #[.int .i64 k, str s] 91)) (by go_simp) ?_
  refine hK.out _ _ ⟨(Blk.alloc HB1.out.drew _).cell 0, (Blk.alloc HB2.out.drew _).cell 0, (Blk.alloc HB3.out.drew _).cell 0, (Blk.alloc HD.out.1.drew _).cell 2⟩ (fun hS => ?_)
  clear hK K
  try simp only [Act.put, List.setIfInBounds_toArray, List.set]
  refine until_one 9 (by kernel_rfl) rfl (fun K hK => ?_)
  have HO1 : OwnW (w.drew.alloc (.cells #[.int .i64 k, str s] 91)) B v d.waits := OwnW.alloc (show OwnW w.drew B v d.waits from HD.out.2.2.1) _
  have hN : Blk (w.drew.alloc (.cells #[.int .i64 k, str s] 91)) w.heap.size 91 #[.int .i64 k, str s] := Blk.new _ _ _
  refine step_append_lies _ rfl (.tmp 7) (.tmp 11) 37 rfl B 91 i0 (.agg #[.int .i64 0, .string ByteArray.empty]) 2 24 Try.underlying37 hi hz0 hz1 hz2 rfl (by decide) v d.waits.length (wcells d.waits) rfl HO1 ⟨w.heap.size, 0, none⟩ 1 1 [.int .i64 k, str s] rfl rfl (World.news_of_block hN) (by simp [Value.oneCell']) (by decide) (by unfold maxLen; omega) (by omega) (by simp; have := HD.out.1.lt; have := HD.out.2.2.2.1; omega) _ rfl ?_
  intro gv c2 w2 hown hgrow hat hlt
  have hd2 : IsDev (w.drew.alloc (.cells #[.int .i64 k, str s] 91)) g gm v cap B d := HD.out.step (((Below.refl w.heap.size w).drew).alloc (Nat.le_refl _) _)
  have t1 : Touch g gm w v (w.drew.alloc (.cells #[.int .i64 k, str s] 91)) v := Touch.of_below (((Below.refl w.heap.size w).drew).alloc (Nat.le_refl _) _)
  have HD2 := Lib.hid (IsDev.pushed hd2 (OwnW.push hown) hgrow)
  have HB4 := Lib.hid ((Blk.alloc HB1.out.drew (.cells #[.int .i64 k, str s] 91)).grown hgrow (OwnW.ne HO1 (Blk.alloc HB1.out.drew _) (by decide)).symm)
  have HB5 := Lib.hid ((Blk.alloc HB2.out.drew (.cells #[.int .i64 k, str s] 91)).grown hgrow (OwnW.ne HO1 (Blk.alloc HB2.out.drew _) (by decide)).symm)
  have HB6 := Lib.hid ((Blk.alloc HB3.out.drew (.cells #[.int .i64 k, str s] 91)).grown hgrow (OwnW.ne HO1 (Blk.alloc HB3.out.drew _) (by decide)).symm)
  have t2 : Touch g gm w v w2 (.slice (some ⟨gv, 0, none⟩) (d.waits.length + 1) c2) := t1.trans (Touch.of_own hgrow (fun i hi => own_at hat hi))
  have HT := Lib.hid t2
  clear hown hgrow hat hd2 t1 t2 hN HO1
  refine hK.out _ _ ⟨HB4.out.cell 0, HB5.out.cell 0, HB6.out.cell 0, HD2.out.1.cell 2⟩ (fun hS => ?_)
  clear hK K
  try simp only [Act.put, List.setIfInBounds_toArray, List.set]
  refine until_one 10 (by kernel_rfl) rfl (fun K hK => ?_)
  refine step_value (d := some 13) (by rfl) rfl (r := .pointer (some ⟨g, 0, none⟩)) (w1 := w2) (by go_simp) ?_
  refine hK.out _ _ hS (fun hS => ?_)
  clear hK K
  try simp only [Act.put, List.setIfInBounds_toArray, List.set]
  refine until_take 11 (some 14) (u := ?_) rfl rfl (by kernel_rfl) (by kernel_rfl) (by kernel_rfl) (by kernel_rfl) (fun _ _ _ h => h) (by rfl) (fun wS hv => ?_) hS ?_
  rotate_left
  · clear hv
    go_simp
    all_goals with_reducible rfl
  try simp only [Act.put, List.setIfInBounds_toArray, List.set]
  refine until_last (by kernel_rfl) rfl (by kernel_rfl) (fun K hK => ?_)
  have q0 := HD2.out.1.frozen 2
  go_simp
  refine hK.out _ _ ?_
  clear hK K
  clear hS
  have hd3 := IsDev.setWaits HD2.out
  have ht3 := HT.out.trans (Touch.of_grown (g := g) (gm := gm) (v := .slice (some ⟨gv, 0, none⟩) (d.waits.length + 1) c2) (upd_set w2 g 2 (.slice (some ⟨gv, 0, none⟩) (d.waits.length + 1) c2)) (.inl rfl))
  generalize w2.setCell ⟨g, 2, none⟩ (.slice (some ⟨gv, 0, none⟩) (d.waits.length + 1) c2) = w3 at *
  go_wp2
  go_end0
  exact ⟨rfl, _, hd3, ht3⟩
end Go.Proofs.Ytiighehibiijcaa

namespace Go.Proofs.Ytiighehibiijcaa
open Go.RowKit

/-- Numbers of a device in bounds. -/
def OkD (d : Dev) : Prop := 0 ≤ d.left ∧ d.left < 9223372036854775808 ∧ 0 ≤ d.steps ∧ d.steps < 4611686018427387904 ∧ d.waits.length < 4611686018427
/-- May a step happen? -/
def goesD (d : Dev) : Bool := !(d.armed && decide (d.left = 0))
/-- A step happens. -/
def stepD (d : Dev) : Dev := if d.armed then { d with left := d.left - 1, steps := d.steps + 1 } else { d with steps := d.steps + 1 }
def writeD (d : Dev) (k : Int) (s : List UInt8) : Dev := { (if goesD d then stepD d else { d with on := false }) with waits := d.waits ++ [(k, s)] }

set_option maxRecDepth 100000 in
set_option maxHeartbeats 2000000 in
theorem step_put (w : World) (g gm : Nat) (v : Value) (cap B : Nat) (d : Dev) (bd bk bs : Nat) (k : Int) (s : List UInt8) (hd : IsDev w g gm v cap B d) (hok : OkD d)
    (h1 : Blk w bd 24 #[.pointer (some ⟨g, 0, none⟩)]) (h2 : Blk w bk 3 #[.int .i64 k]) (h3 : Blk w bs 9 #[str s]) :
    Calls Try.prog 50 #[.pointer (some ⟨g, 0, none⟩), .func (.func 49) #[] #[.pointer (some ⟨bd, 0, none⟩), .pointer (some ⟨bk, 0, none⟩), .pointer (some ⟨bs, 0, none⟩)], .func (.func 49) #[] #[.pointer (some ⟨bd, 0, none⟩), .pointer (some ⟨bk, 0, none⟩), .pointer (some ⟨bs, 0, none⟩)]] w
      fun e w' => e = .returned (.int .i64 (if goesD d then 0 else 14)) ∧ ∃ v', IsDev w' g gm v' cap B (writeD d k s) ∧ Touch g gm w v w' v' := by
  obtain ⟨n, safe, waits, on, armed, left, steps⟩ := d
  have HD := Lib.hid hd
  have HB1 := Lib.hid h1
  have HB2 := Lib.hid h2
  have HB3 := Lib.hid h3
  obtain ⟨o1, o2, o3, o4, o5⟩ := hok
  simp only [] at o1 o2 o3 o4 o5
  obtain ⟨c0, c1, c2, c3, c4, c5, c6⟩ := dev_cells hd
  clear hd h1 h2 h3
  simp only [] at c0 c1 c2 c3 c4 c5 c6
  cases armed
  · have q6 := HD.out.1.frozen 6
    have hw1 : IntKind.i64.wrap (steps + 1) = steps + 1 := wrap_small _ (by omega) (by omega)
    go_enter Try.func50, Try.ntmps50
    go_wp2_with fail
    obtain ⟨hd1, t1⟩ := IsDev.set (i := 6) (u := .int .i64 (steps + 1)) (d' := ⟨n, safe, waits, on, false, left, steps + 1⟩) HD.out rfl rfl rfl
    refine (put_any _ g gm v cap B _ bd bk bs k s hd1 (HD.out.keep t1 HB1.out (by decide) (by decide)) (HD.out.keep t1 HB2.out (by decide) (by decide)) (HD.out.keep t1 HB3.out (by decide) (by decide)) (by simp only []; omega)).mono ?_
    rintro e w2 ⟨rfl, v2, hd2, t2⟩
    have HD2 := Lib.hid hd2
    have T2 := Lib.hid (t1.trans t2)
    clear hd1 t1 hd2 t2 c0 c1 c2 c3 c4 c5 c6 q6
    go_wp2
    go_ret
    exact ⟨rfl, _, HD2.out, T2.out⟩
  · by_cases hl : left = 0
    · subst hl
      have q3 := HD.out.1.frozen 3
      go_enter Try.func50, Try.ntmps50
      go_wp2_with fail
      obtain ⟨hd1, t1⟩ := IsDev.set (i := 3) (u := .bool false) (d' := ⟨n, safe, waits, false, true, 0, steps⟩) HD.out rfl rfl rfl
      refine (put_any _ g gm v cap B _ bd bk bs k s hd1 (HD.out.keep t1 HB1.out (by decide) (by decide)) (HD.out.keep t1 HB2.out (by decide) (by decide)) (HD.out.keep t1 HB3.out (by decide) (by decide)) (by simp only []; omega)).mono ?_
      rintro e w2 ⟨rfl, v2, hd2, t2⟩
      have HD2 := Lib.hid hd2
      have T2 := Lib.hid (t1.trans t2)
      clear hd1 t1 hd2 t2 c0 c1 c2 c3 c4 c5 c6 q3
      go_wp2
      go_ret
      exact ⟨rfl, _, HD2.out, T2.out⟩
    · have q5 := HD.out.1.frozen 5
      have q6 := HD.out.1.frozen 6
      have hw1 : IntKind.i64.wrap (steps + 1) = steps + 1 := wrap_small _ (by omega) (by omega)
      have hw2 : IntKind.i64.wrap (left - 1) = left - 1 := wrap_small _ (by omega) (by omega)
      have hw3 : decide (left = 0) = false := by simpa using hl
      have hg : goesD ⟨n, safe, waits, on, true, left, steps⟩ = true := by simp [goesD, hl]
      unfold writeD
      rw [hg]
      simp only [if_true]
      go_enter Try.func50, Try.ntmps50
      go_wp2_with fail
      obtain ⟨hd0, t0⟩ := IsDev.set (i := 5) (u := .int .i64 (left - 1)) (d' := ⟨n, safe, waits, on, true, left - 1, steps⟩) HD.out rfl rfl rfl
      obtain ⟨hd1, t1⟩ := IsDev.set (i := 6) (u := .int .i64 (steps + 1)) (d' := ⟨n, safe, waits, on, true, left - 1, steps + 1⟩) hd0 rfl rfl rfl
      have t1 := t0.trans t1
      refine (put_any _ g gm v cap B _ bd bk bs k s hd1 (HD.out.keep t1 HB1.out (by decide) (by decide)) (HD.out.keep t1 HB2.out (by decide) (by decide)) (HD.out.keep t1 HB3.out (by decide) (by decide)) (by simp only []; omega)).mono ?_
      rintro e w2 ⟨rfl, v2, hd2, t2⟩
      have HD2 := Lib.hid hd2
      have T2 := Lib.hid (t1.trans t2)
      clear hd1 t1 hd2 t2 c0 c1 c2 c3 c4 c5 c6 q5 q6 hd0 t0
      go_wp2
      go_ret
      exact ⟨rfl, _, HD2.out, T2.out⟩
end Go.Proofs.Ytiighehibiijcaa

namespace Go.Proofs.Ytiighehibiijcaa
open Go.RowKit

def keepAll (d : Dev) (l : List (Int × List UInt8)) : Dev := l.foldl (fun d p => keepD d p.1 p.2) d
theorem keepD_waits (d : Dev) (k : Int) (s : List UInt8) : (keepD d k s).waits = d.waits := rfl
theorem keepAll_waits : ∀ (l : List (Int × List UInt8)) (d : Dev), (keepAll d l).waits = d.waits := by
  intro l
  induction l with
  | nil => intro d; rfl
  | cons p l ih => intro d; exact ih (keepD d p.1 p.2)
theorem keepAll_take {l : List (Int × List UInt8)} {k : Nat} (d : Dev) (h : k < l.length) : keepAll d (l.take (k + 1)) = keepD (keepAll d (l.take k)) l[k].1 l[k].2 := by
  unfold keepAll
  rw [List.take_add_one, List.getElem?_eq_getElem h, List.foldl_append]
  rfl
/-- What waits may be kept. -/
def WaitsOk (l : List (Int × List UInt8)) : Prop := ∀ p ∈ l, (Lit.int .i64 p.1).wf = true ∧ p.2.length ≤ 64
def flushD (d : Dev) : Dev := { keepAll d d.waits with waits := [] }

set_option maxRecDepth 100000 in
set_option maxHeartbeats 2000000 in
theorem flush1_any (w : World) (g gm : Nat) (v : Value) (cap B : Nat) (d : Dev) (bd : Nat) (hd : IsDev w g gm v cap B d) (h1 : Blk w bd 24 #[.pointer (some ⟨g, 0, none⟩)]) (hw : WaitsOk d.waits) (hn : cap + d.waits.length < 4611686018427) :
    Calls Try.prog 51 #[.pointer (some ⟨bd, 0, none⟩)] w fun e w' => e = .returned (.tuple #[]) ∧ IsDev w' g gm (.slice none 0 0) (cap + d.waits.length) B (flushD d) ∧ Touch g gm w v w' (.slice none 0 0) := by
  obtain ⟨l, hl⟩ : ∃ l, d.waits = l := ⟨_, rfl⟩
  have hd0 := hd
  unfold flushD
  rw [hl] at hw hn ⊢
  have HD := Lib.hid hd
  have HB := Lib.hid h1
  have HL := Lib.hid hl
  have HW := Lib.hid hw
  obtain ⟨c0, c1, c2, c3, c4, c5, c6⟩ := dev_cells hd
  have b0 := h1.cell 0
  obtain ⟨p, c, hv⟩ := hd.2.2.1.form
  rw [hl] at hv
  subst hv
  clear hd h1 hl hw hd0
  go_enter Try.func51, Try.ntmps51
  go_wp2_with fail
  go_loopw [8] (fun i wr => ∃ k : Nat, k ≤ l.length ∧ i = .int .i64 k ∧ IsDev wr g gm (.slice p l.length c) (cap + k) B (keepAll d (l.take k)) ∧ Touch g gm w (.slice p l.length c) wr (.slice p l.length c)) (fun i _ => l.length - (intOf i).toNat)
  case atStart => exact ⟨0, Nat.zero_le _, rfl, HD.out, Touch.refl _ _ _ _⟩
  case round =>
    obtain ⟨k, hk, rfl, hd, ht⟩ := hrel
    have hB := HD.out.keep ht HB.out (by decide) (by decide)
    have b1 : wr.cell? ⟨bd, 0, none⟩ = some (.pointer (some ⟨g, 0, none⟩)) := hB.cell 0
    have hwt : (keepAll d (l.take k)).waits = l := by rw [keepAll_waits, HL.out]
    by_cases hlt : k < l.length
    · have hkd := keepAll_take d hlt
      obtain ⟨hk1, hk2⟩ := HW.out l[k] (List.getElem_mem hlt)
      rcases hd.2.2.1.read with ⟨-, h2⟩ | ⟨gv, c', heq, -, hgv, -, -, hcell⟩
      · rw [hwt] at h2
        rw [h2] at hlt
        simp at hlt
      · rw [hwt] at hcell
        obtain ⟨e1, e2⟩ := hcell k hlt
        injection heq with hp hp1 hp2
        clear hp1 hp2
        subst hp
        rw [Nat.mul_comm] at e1 e2
        obtain ⟨⟨x, t⟩, hx⟩ : ∃ q, l[k] = q := ⟨_, rfl⟩
        rw [hx] at e1 e2 hkd hk1 hk2
        simp only [] at e1 e2 hkd hk1 hk2
        have HK := Lib.hid hkd
        have HD2 := Lib.hid hd
        have HT := Lib.hid ht
        clear hcell hx hkd hd ht
        have lt1 : bd < wr.heap.size := hB.lt
        go_wp2_with fail
        have hd2 := HD2.out.step ((Below.refl wr.heap.size wr).alloc (Nat.le_refl _) (.cells #[.int .i64 x, str t] 91))
        have t2 := HT.out.trans (Touch.of_below (g := g) (gm := gm) (v := .slice (some ⟨gv, 0, none⟩) l.length c) ((Below.refl wr.heap.size wr).alloc (Nat.le_refl _) (.cells #[.int .i64 x, str t] 91)))
        refine (keep_any _ g gm _ (cap + k) B _ x t hd2 hk1 (by unfold maxLen; omega) (by unfold maxLen; omega)).mono ?_
        rintro e w2 ⟨rfl, hd3, t3⟩
        have t4 := t2.trans t3
        rw [← HK.out] at hd3
        have HD3 := Lib.hid hd3
        have HT4 := Lib.hid t4
        clear hd2 t2 t3 t4 hd3 HT HD2 e1 e2 hB b1 b0 c0 c1 c2 c3 c4 c5 c6
        go_wp2
        go_roundw
        case rel => exact ⟨k + 1, by omega, by go_num, HD3.out, HT4.out⟩
        case measure => simp [intOf]; omega
    · have hkl : k = l.length := by omega
      subst hkl
      rw [List.take_length] at hd
      obtain ⟨-, -, e3, -⟩ := dev_cells hd
      have q2 := hd.1.frozen 2
      have HD2 := Lib.hid hd
      have HT := Lib.hid ht
      clear hd ht
      go_wp2
      go_end0
      refine ⟨rfl, IsDev.setWaits ⟨HD2.out.1, HD2.out.2.1, OwnW.none _ _, HD2.out.2.2.2.1, HD2.out.2.2.2.2⟩, (HT.out.trans (Touch.of_grown (upd_set _ g 2 _) (.inl rfl))).to_nil⟩
end Go.Proofs.Ytiighehibiijcaa

namespace Go.Proofs.Ytiighehibiijcaa
open Go.RowKit

/-- Flush, of a device that is on. -/
def fluD (d : Dev) : Dev := if goesD d then flushD (stepD d) else { d with on := false }
theorem flush2_any (w : World) : Calls Try.prog 53 #[] w fun e w' => e = .returned (.tuple #[]) ∧ w = w' := by
  go_enter Try.func53, Try.ntmps53
  go_wp2
  go_end0
  exact ⟨rfl, rfl⟩

set_option maxRecDepth 100000 in
set_option maxHeartbeats 2000000 in
theorem step_flush (w : World) (g gm : Nat) (v : Value) (cap B : Nat) (d : Dev) (bd : Nat) (hd : IsDev w g gm v cap B d) (hok : OkD d) (hw : WaitsOk d.waits) (hn : cap + d.waits.length < 4611686018427)
    (h1 : Blk w bd 24 #[.pointer (some ⟨g, 0, none⟩)]) :
    Calls Try.prog 50 #[.pointer (some ⟨g, 0, none⟩), .func (.func 51) #[] #[.pointer (some ⟨bd, 0, none⟩)], .func (.func 53) #[] #[]] w
      fun e w' => e = .returned (.int .i64 (if goesD d then 0 else 14)) ∧ ∃ v' cap', cap' ≤ cap + d.waits.length ∧ IsDev w' g gm v' cap' B (fluD d) ∧ Touch g gm w v w' v' := by
  obtain ⟨n, safe, waits, on, armed, left, steps⟩ := d
  have HD := Lib.hid hd
  have HB1 := Lib.hid h1
  have HW := Lib.hid hw
  obtain ⟨o1, o2, o3, o4, o5⟩ := hok
  simp only [] at o1 o2 o3 o4 o5
  obtain ⟨c0, c1, c2, c3, c4, c5, c6⟩ := dev_cells hd
  clear hd h1 hw
  simp only [] at c0 c1 c2 c3 c4 c5 c6 hn
  cases armed
  · have q6 := HD.out.1.frozen 6
    have hw1 : IntKind.i64.wrap (steps + 1) = steps + 1 := wrap_small _ (by omega) (by omega)
    go_enter Try.func50, Try.ntmps50
    go_wp2_with fail
    obtain ⟨hd1, t1⟩ := IsDev.set (i := 6) (u := .int .i64 (steps + 1)) (d' := ⟨n, safe, waits, on, false, left, steps + 1⟩) HD.out rfl rfl rfl
    refine (flush1_any _ g gm v cap B _ bd hd1 (HD.out.keep t1 HB1.out (by decide) (by decide)) HW.out hn).mono ?_
    rintro e w2 ⟨rfl, hd2, t2⟩
    have HD2 := Lib.hid hd2
    have T2 := Lib.hid (t1.trans t2)
    clear hd1 t1 hd2 t2 c0 c1 c2 c3 c4 c5 c6 q6
    go_wp2
    go_ret
    exact ⟨rfl, _, _, Nat.le_refl _, HD2.out, T2.out⟩
  · by_cases hl : left = 0
    · subst hl
      have q3 := HD.out.1.frozen 3
      go_enter Try.func50, Try.ntmps50
      go_wp2_with fail
      obtain ⟨hd1, t1⟩ := IsDev.set (i := 3) (u := .bool false) (d' := ⟨n, safe, waits, false, true, 0, steps⟩) HD.out rfl rfl rfl
      refine (flush2_any _).mono ?_
      rintro e w2 ⟨rfl, rfl⟩
      have HD2 := Lib.hid hd1
      have T2 := Lib.hid t1
      clear hd1 t1 c0 c1 c2 c3 c4 c5 c6 q3
      go_wp2
      go_ret
      exact ⟨rfl, _, _, Nat.le_add_right _ _, HD2.out, T2.out⟩
    · have q5 := HD.out.1.frozen 5
      have q6 := HD.out.1.frozen 6
      have hw1 : IntKind.i64.wrap (steps + 1) = steps + 1 := wrap_small _ (by omega) (by omega)
      have hw2 : IntKind.i64.wrap (left - 1) = left - 1 := wrap_small _ (by omega) (by omega)
      have hw3 : decide (left = 0) = false := by simpa using hl
      have hg : goesD ⟨n, safe, waits, on, true, left, steps⟩ = true := by simp [goesD, hl]
      unfold fluD
      rw [hg]
      simp only [if_true]
      go_enter Try.func50, Try.ntmps50
      go_wp2_with fail
      obtain ⟨hd0, t0⟩ := IsDev.set (i := 5) (u := .int .i64 (left - 1)) (d' := ⟨n, safe, waits, on, true, left - 1, steps⟩) HD.out rfl rfl rfl
      obtain ⟨hd1, t1⟩ := IsDev.set (i := 6) (u := .int .i64 (steps + 1)) (d' := ⟨n, safe, waits, on, true, left - 1, steps + 1⟩) hd0 rfl rfl rfl
      have t1 := t0.trans t1
      refine (flush1_any _ g gm v cap B _ bd hd1 (HD.out.keep t1 HB1.out (by decide) (by decide)) HW.out hn).mono ?_
      rintro e w2 ⟨rfl, hd2, t2⟩
      have HD2 := Lib.hid hd2
      have T2 := Lib.hid (t1.trans t2)
      clear hd1 t1 hd2 t2 c0 c1 c2 c3 c4 c5 c6 q5 q6 hd0 t0
      go_wp2
      go_ret
      exact ⟨rfl, _, _, Nat.le_refl _, HD2.out, T2.out⟩
end Go.Proofs.Ytiighehibiijcaa

namespace Go.Proofs.Ytiighehibiijcaa
open Go.RowKit

def writeE (d : Dev) (k : Int) (s : List UInt8) : Int := if d.on then (if hasD d.n k then (if s.length = 64 then (if goesD d then 0 else 14) else 1) else 1) else 14
def writeR (d : Dev) (k : Int) (s : List UInt8) : Dev := if d.on then (if hasD d.n k then (if s.length = 64 then writeD d k s else d) else d) else d

set_option maxRecDepth 100000 in
set_option maxHeartbeats 2000000 in
theorem write_any (w : World) (g gm : Nat) (v : Value) (cap B : Nat) (d : Dev) (k : Int) (s : List UInt8) (hd : IsDev w g gm v cap B d) (hok : OkD d) :
    Calls Try.prog 17 #[.pointer (some ⟨g, 0, none⟩), .int .i64 k, str s] w
      fun e w' => e = .returned (.int .i64 (writeE d k s)) ∧ ∃ v', IsDev w' g gm v' cap B (writeR d k s) ∧ Touch g gm w v w' v' := by
  have hb : Below w.heap.size w (((w.alloc (.cells #[.pointer (some ⟨g, 0, none⟩)] 24)).alloc (.cells #[.int .i64 k] 3)).alloc (.cells #[str s] 9)) := (((Below.refl _ _).alloc (Nat.le_refl _) _).alloc (by simp) _).alloc (by simp; omega) _
  have HD1 := Lib.hid (hd.step hb)
  have T1 := Lib.hid (Touch.of_below (g := g) (gm := gm) (v := v) hb)
  have HB1 := Lib.hid (((Blk.new w 24 #[.pointer (some ⟨g, 0, none⟩)]).alloc (.cells #[.int .i64 k] 3)).alloc (.cells #[str s] 9))
  have HB2 := Lib.hid ((Blk.new_at (w := w.alloc (.cells #[.pointer (some ⟨g, 0, none⟩)] 24)) (n := w.heap.size + 1) (by simp) 3 #[.int .i64 k]).alloc (.cells #[str s] 9))
  have HB3 := Lib.hid (Blk.new_at (w := (w.alloc (.cells #[.pointer (some ⟨g, 0, none⟩)] 24)).alloc (.cells #[.int .i64 k] 3)) (n := w.heap.size + 1 + 1) (by simp) 9 #[str s])
  unfold writeE writeR
  have OK := Lib.hid hok
  obtain ⟨-, -, -, c3, -⟩ := dev_cells HD1.out
  obtain ⟨on, hon⟩ : ∃ u, d.on = u := ⟨_, rfl⟩
  rw [hon] at c3 ⊢
  clear hd hok hb hon
  cases on
  · go_enter Try.func17, Try.ntmps17
    go_wp2_with fail
    go_ret
    exact ⟨rfl, v, HD1.out, T1.out⟩
  · obtain ⟨u, hu⟩ : ∃ u, hasD d.n k = u := ⟨_, rfl⟩
    rw [hu]
    have HU := Lib.hid hu
    clear hu
    cases u
    · go_enter Try.func17, Try.ntmps17
      go_wp2_with fail
      refine (has_any _ g gm v cap B d k false HD1.out HU.out).mono ?_
      rintro e w1 ⟨rfl, rfl⟩
      go_wp2_with fail
      go_ret
      exact ⟨rfl, v, HD1.out, T1.out⟩
    · by_cases h64 : s.length = 64
      · have h64' : (s.length : Int) = 64 := by omega
        rw [if_pos h64, if_pos h64]
        simp only [if_true]
        obtain ⟨er, her⟩ : ∃ er, (if goesD d = true then (0 : Int) else 14) = er := ⟨_, rfl⟩
        rw [her]
        have HE := Lib.hid her
        clear her
        go_enter Try.func17, Try.ntmps17
        go_wp2_with fail
        refine (has_any _ g gm v cap B d k true HD1.out HU.out).mono ?_
        rintro e w1 ⟨rfl, rfl⟩
        go_wp2_with fail
        refine (step_put _ g gm v cap B d _ _ _ k s HD1.out OK.out HB1.out HB2.out HB3.out).mono ?_
        rw [HE.out]
        rintro e w2 ⟨rfl, v2, hd2, t2⟩
        have HD2 := Lib.hid hd2
        have T2 := Lib.hid (T1.out.trans t2)
        clear hd2 t2 c3
        go_wp2
        go_ret
        exact ⟨rfl, v2, HD2.out, T2.out⟩
      · have h64' : ¬ (s.length : Int) = 64 := by omega
        rw [if_neg h64, if_neg h64]
        simp only [if_true]
        go_enter Try.func17, Try.ntmps17
        go_wp2_with fail
        refine (has_any _ g gm v cap B d k true HD1.out HU.out).mono ?_
        rintro e w1 ⟨rfl, rfl⟩
        go_wp2_with fail
        go_ret
        exact ⟨rfl, v, HD1.out, T1.out⟩

def flushE (d : Dev) : Int := if d.on then (if goesD d then 0 else 14) else 14
def flushR (d : Dev) : Dev := if d.on then fluD d else d
set_option maxRecDepth 100000 in
set_option maxHeartbeats 2000000 in
theorem flush_any (w : World) (g gm : Nat) (v : Value) (cap B : Nat) (d : Dev) (hd : IsDev w g gm v cap B d) (hok : OkD d) (hw : WaitsOk d.waits) (hn : cap + d.waits.length < 4611686018427) :
    Calls Try.prog 19 #[.pointer (some ⟨g, 0, none⟩)] w
      fun e w' => e = .returned (.int .i64 (flushE d)) ∧ ∃ v' cap', cap' ≤ cap + d.waits.length ∧ IsDev w' g gm v' cap' B (flushR d) ∧ Touch g gm w v w' v' := by
  have hb : Below w.heap.size w (w.alloc (.cells #[.pointer (some ⟨g, 0, none⟩)] 24)) := (Below.refl _ _).alloc (Nat.le_refl _) _
  have HD1 := Lib.hid (hd.step hb)
  have T1 := Lib.hid (Touch.of_below (g := g) (gm := gm) (v := v) hb)
  have HB1 := Lib.hid (Blk.new w 24 #[.pointer (some ⟨g, 0, none⟩)])
  unfold flushE flushR
  have OK := Lib.hid hok
  obtain ⟨-, -, -, c3, -⟩ := dev_cells HD1.out
  obtain ⟨on, hon⟩ : ∃ u, d.on = u := ⟨_, rfl⟩
  rw [hon] at c3 ⊢
  clear hd hok hb hon
  cases on
  · go_enter Try.func19, Try.ntmps19
    go_wp2_with fail
    go_ret
    exact ⟨rfl, v, cap, Nat.le_add_right _ _, HD1.out, T1.out⟩
  · simp only [if_true]
    obtain ⟨er, her⟩ : ∃ er, (if goesD d = true then (0 : Int) else 14) = er := ⟨_, rfl⟩
    rw [her]
    have HE := Lib.hid her
    clear her
    go_enter Try.func19, Try.ntmps19
    go_wp2_with fail
    refine (step_flush _ g gm v cap B d _ HD1.out OK.out hw hn HB1.out).mono ?_
    rw [HE.out]
    rintro e w2 ⟨rfl, v2, cap2, hcap, hd2, t2⟩
    have HD2 := Lib.hid hd2
    have T2 := Lib.hid (T1.out.trans t2)
    clear hd2 t2 c3
    go_wp2
    go_ret
    exact ⟨rfl, v2, cap2, hcap, HD2.out, T2.out⟩
theorem write_nil (w : World) (k : Int) (s : List UInt8) :
    Calls Try.prog 17 #[.pointer none, .int .i64 k, str s] w fun e w' => e = .returned (.int .i64 1) ∧ Below w.heap.size w w' := by
  go_enter Try.func17, Try.ntmps17
  go_wp2_with fail
  go_ret
  exact ⟨rfl, (((Below.refl _ _).alloc (Nat.le_refl _) _).alloc (by simp) _).alloc (by simp; omega) _⟩
theorem flush_nil (w : World) :
    Calls Try.prog 19 #[.pointer none] w fun e w' => e = .returned (.int .i64 1) ∧ Below w.heap.size w w' := by
  go_enter Try.func19, Try.ntmps19
  go_wp2_with fail
  go_ret
  exact ⟨rfl, (Below.refl _ _).alloc (Nat.le_refl _) _⟩
end Go.Proofs.Ytiighehibiijcaa

namespace Go.Proofs.Ytiighehibiijcaa
open Go.RowKit

/-- What waits last for a sector. -/
def lastW (k : Int) : List (Int × List UInt8) → Option (List UInt8)
  | [] => none
  | p :: l => (lastW k l).or (if p.1 = k then some p.2 else none)
theorem lastW_none {k : Int} : ∀ (l : List (Int × List UInt8)), (∀ p ∈ l, p.1 ≠ k) → lastW k l = none := by
  intro l
  induction l with
  | nil => intro _; rfl
  | cons p l ih =>
    intro h
    simp only [lastW]
    rw [ih (fun q hq => h q (by simp [hq])), if_neg (h p (by simp))]
    rfl
theorem lastW_at {k : Int} : ∀ (l : List (Int × List UInt8)) (j : Nat) (hj : j < l.length), l[j].1 = k → (∀ p ∈ l.drop (j + 1), p.1 ≠ k) → lastW k l = some l[j].2 := by
  intro l
  induction l with
  | nil => intro j hj; simp at hj
  | cons p l ih =>
    intro j hj h1 h2
    cases j with
    | zero =>
      simp only [lastW]
      rw [lastW_none l (by simpa using h2), if_pos (by simpa using h1)]
      rfl
    | succ j =>
      simp only [lastW]
      rw [ih j (by simpa using hj) (by simpa using h1) (by simpa using h2)]
      rfl
def readD (d : Dev) (k : Int) : List UInt8 := (lastW k d.waits).getD (safeD d k)
def readS (d : Dev) (k : Int) : List UInt8 := if d.on then (if hasD d.n k then readD d k else []) else []
def readE (d : Dev) (k : Int) : Int := if d.on then (if hasD d.n k then 0 else 1) else 14

set_option maxRecDepth 100000 in
set_option maxHeartbeats 2000000 in
theorem read_any (w : World) (g gm : Nat) (v : Value) (cap B : Nat) (d : Dev) (k : Int) (hd : IsDev w g gm v cap B d) (hk : (Lit.int .i64 k).wf = true) (hn : d.waits.length < 4611686018427) :
    Calls Try.prog 20 #[.pointer (some ⟨g, 0, none⟩), .int .i64 k] w
      fun e w' => e = .returned (.tuple #[str (readS d k), .int .i64 (readE d k)]) ∧ Below w.heap.size w w' := by
  obtain ⟨-, -, c2, c3, -⟩ := dev_cells hd
  have HD := Lib.hid hd
  unfold readS readE
  obtain ⟨on, hon⟩ : ∃ u, d.on = u := ⟨_, rfl⟩
  rw [hon] at c3 ⊢
  clear hd hon
  cases on
  · go_enter Try.func20, Try.ntmps20
    go_wp2_with fail
    go_ret2
    exact ⟨rfl, Below.refl _ _⟩
  · obtain ⟨u, hu⟩ : ∃ u, hasD d.n k = u := ⟨_, rfl⟩
    rw [hu]
    have HU := Lib.hid hu
    clear hu
    cases u
    · go_enter Try.func20, Try.ntmps20
      go_wp2_with fail
      refine (has_any _ g gm v cap B d k false HD.out HU.out).mono ?_
      rintro e w1 ⟨rfl, rfl⟩
      go_wp2_with fail
      go_ret2
      exact ⟨rfl, Below.refl _ _⟩
    · unfold readD
      obtain ⟨l, hl⟩ : ∃ l, d.waits = l := ⟨_, rfl⟩
      obtain ⟨p, c, hv⟩ := HD.out.2.2.1.form
      rw [hl] at hv hn ⊢
      subst hv
      have HL := Lib.hid hl
      clear hl
      have hw0 : IntKind.i64.wrap ((l.length : Int) - 1) = (l.length : Int) - 1 := IntWalk.i64_in _ (by omega)
      simp only [if_true]
      go_enter Try.func20, Try.ntmps20
      go_wp2_with fail
      refine (has_any _ g gm _ cap B d k true HD.out HU.out).mono ?_
      rintro e w1 ⟨rfl, rfl⟩
      go_wp2_with fail
      go_loop [6] (fun i => ∃ j : Nat, j ≤ l.length ∧ i = .int .i64 ((j : Int) - 1) ∧ ∀ q ∈ l.drop j, q.1 ≠ k) (fun i => ((intOf i) + 1).toNat)
      case atStart => exact ⟨l.length, Nat.le_refl _, rfl, by simp⟩
      case round =>
        obtain ⟨j, hj, rfl, hno⟩ := hrel
        cases j with
        | zero =>
          have hz : ((0 : Nat) : Int) - 1 = -1 := rfl
          rw [hz]
          have hno' := lastW_none l (by simpa using hno)
          have HN := Lib.hid hno'
          clear hno hno' hw0 hz
          go_wp2_with fail
          refine (safe_any _ g gm _ cap B d k HD.out hk).mono ?_
          rw [HU.out]
          rintro e w2 ⟨rfl, hb2⟩
          go_wp2_with fail
          go_ret2
          exact ⟨by rw [HN.out]; rfl, hb2⟩
        | succ m =>
          have hz : ((m + 1 : Nat) : Int) - 1 = (m : Int) := by omega
          rw [hz]
          rcases HD.out.2.2.1.read with ⟨-, h2⟩ | ⟨gv, c', heq, -, hgv, -, -, hcell⟩
          · rw [HL.out] at h2
            rw [h2] at hj
            simp at hj
          · rw [HL.out] at hcell
            obtain ⟨e1, e2⟩ := hcell m (by omega)
            injection heq with hp hp1 hp2
            clear hp1 hp2
            subst hp
            rw [Nat.mul_comm] at e1 e2
            obtain ⟨⟨x, t⟩, hx⟩ : ∃ q, l[m] = q := ⟨_, rfl⟩
            rw [hx] at e1 e2
            simp only [] at e1 e2
            have hw1 : IntKind.i64.wrap ((m : Int) - 1) = (m : Int) - 1 := IntWalk.i64_in _ (by omega)
            by_cases hxk : x = k
            · subst hxk
              have hat := lastW_at l m (by omega) (by rw [hx]) hno
              rw [hx] at hat
              have HA := Lib.hid hat
              clear hat hno hx hcell hw0
              go_wp2_with fail
              go_ret2
              exact ⟨by rw [HA.out]; rfl, Below.refl _ _⟩
            · have hno2 : ∀ q ∈ l.drop m, q.1 ≠ k := by
                rw [List.drop_eq_getElem_cons (by omega)]
                intro q hq
                rcases List.mem_cons.1 hq with rfl | hq
                · rw [hx]; exact hxk
                · exact hno q hq
              have HN := Lib.hid hno2
              clear hno hno2 hx hcell hw0
              go_wp2_with fail
              go_round
              case rel => exact ⟨m, by omega, rfl, HN.out⟩
              case measure => simp [intOf]
set_option maxHeartbeats 800000 in
theorem read_nil (w : World) (k : Int) :
    Calls Try.prog 20 #[.pointer none, .int .i64 k] w fun e w' => e = .returned (.tuple #[str [], .int .i64 1]) ∧ w = w' := by
  go_enter Try.func20, Try.ntmps20
  go_wp2_with fail
  go_ret2
  exact ⟨rfl, rfl⟩

def armD (d : Dev) (n : Int) : Dev := { d with armed := true, left := max n 0 }
set_option maxRecDepth 100000 in
set_option maxHeartbeats 800000 in
theorem arm_any (w : World) (g gm : Nat) (v : Value) (cap B : Nat) (d : Dev) (n : Int) (hd : IsDev w g gm v cap B d) :
    Calls Try.prog 26 #[.pointer (some ⟨g, 0, none⟩), .int .i64 n] w
      fun e w' => e = .returned (.tuple #[]) ∧ IsDev w' g gm v cap B (armD d n) ∧ Touch g gm w v w' v := by
  obtain ⟨m, safe, waits, on, armed, left, steps⟩ := d
  have HD := Lib.hid hd
  obtain ⟨c0, c1, c2, c3, c4, c5, c6⟩ := dev_cells hd
  have q4 := hd.1.frozen 4
  have q5 := hd.1.frozen 5
  clear hd
  simp only [] at c0 c1 c2 c3 c4 c5 c6
  unfold armD
  by_cases h0 : 0 ≤ n
  · have hm : max n 0 = n := by omega
    rw [hm]
    go_enter Try.func26, Try.ntmps26
    go_wp2_with fail
    go_end0
    obtain ⟨hd0, t0⟩ := IsDev.set (i := 4) (u := .bool true) (d' := ⟨m, safe, waits, on, true, left, steps⟩) HD.out rfl rfl rfl
    obtain ⟨hd1, t1⟩ := IsDev.set (i := 5) (u := .int .i64 (n)) (d' := ⟨m, safe, waits, on, true, n, steps⟩) hd0 rfl rfl rfl
    exact ⟨rfl, hd1, t0.trans t1⟩
  · have hm : max n 0 = 0 := by omega
    rw [hm]
    go_enter Try.func26, Try.ntmps26
    go_wp2_with fail
    go_end0
    obtain ⟨hd0, t0⟩ := IsDev.set (i := 4) (u := .bool true) (d' := ⟨m, safe, waits, on, true, left, steps⟩) HD.out rfl rfl rfl
    obtain ⟨hd1, t1⟩ := IsDev.set (i := 5) (u := .int .i64 (0)) (d' := ⟨m, safe, waits, on, true, 0, steps⟩) hd0 rfl rfl rfl
    exact ⟨rfl, hd1, t0.trans t1⟩
set_option maxHeartbeats 800000 in
theorem arm_nil (w : World) (k : Int) :
    Calls Try.prog 26 #[.pointer none, .int .i64 k] w fun e w' => e = .returned (.tuple #[]) ∧ w = w' := by
  go_enter Try.func26, Try.ntmps26
  go_wp2_with fail
  go_end0
  exact ⟨rfl, rfl⟩
end Go.Proofs.Ytiighehibiijcaa

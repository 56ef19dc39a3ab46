/-
  What New and Waiting of device.Device do; of a device, and of none. No conditions beside those in each theorem.
  What Crash of device.Device does. No conditions beside those in each theorem.
  What the helper sector of the laws of layer 6 returns. No conditions beside those in each theorem.
  What the example of layer 6 (awake) returns: true. No conditions beside those in each theorem.
  A device that was armed with k steps, behind i of them: the plain law of DeviceArmed. No conditions beside those in each theorem.
  What is safe of a device behind keep, flush and crash; what is read behind a write: plain laws. No conditions beside those in each theorem.
  What a crash may leave of a sector that was flushed and written once more: the plain law of DeviceSafe. No conditions beside those in each theorem.
  What holds of a device behind each of a script's calls. No conditions beside those in each theorem.
  A mark's sector as bytes; what slots.Pack returns. No conditions beside those in each theorem.
-/
import Derived.Test.YtiighehibiijcaaMg1
import Derived.Laws.CopyOwn
import Derived.Laws.MakeOwn
import Derived.Carry
import Derived.Lib.BufferRead
import Derived.Deep.DeepCutAuto
namespace Go.Proofs.Ytiighehibiijcaa
open Go.RowKit

def newD (n : Int) : Dev := ⟨n, fun _ => none, [], true, false, 0, 0⟩
set_option maxRecDepth 100000 in
set_option maxHeartbeats 800000 in
theorem new_any (w : World) (n : Int) (h0 : 1 ≤ n) (h1 : n ≤ 4096) :
    Calls Try.prog 16 #[.int .i64 n] w fun e w' => e = .returned (.pointer (some ⟨w.heap.size + 1, 0, none⟩)) ∧ IsDev w' (w.heap.size + 1) w.heap.size (.slice none 0 0) 0 w.heap.size (newD n) ∧ Below w.heap.size w w' := by
  have d1 : decide (n < 1) = false := by simp; omega
  have d2 : decide (4096 < n) = false := by simp; omega
  have hmm := @run_makeMap Try.prog
  go_enter Try.func16, Try.ntmps16
  go_wp2_with fail
  go_ret
  refine ⟨rfl, ⟨Blk.new_at (by simp) _ _, (MapIs.new w).kept (row := none) (upd_of_below ((Below.refl _ _).alloc (Nat.le_refl _) _) none) (by simp), OwnW.none _ _, by omega, Nat.le_refl _⟩, ((Below.refl _ _).alloc (Nat.le_refl _) _).alloc (by simp) _⟩
set_option maxHeartbeats 800000 in
theorem new_bad (w : World) (n : Int) (h : ¬ (1 ≤ n ∧ n ≤ 4096)) :
    Calls Try.prog 16 #[.int .i64 n] w fun e w' => e = .returned (.pointer none) ∧ w = w' := by
  by_cases h0 : n < 1
  · go_enter Try.func16, Try.ntmps16
    go_wp2_with fail
    go_ret
    exact ⟨rfl, rfl⟩
  · have d2 : 4096 < n := by omega
    go_enter Try.func16, Try.ntmps16
    go_wp2_with fail
    go_ret
    exact ⟨rfl, rfl⟩

/-! Waiting. -/
theorem wpList_copy_run {P : Program} {ops : Array Oper} {o : Oper} {a : Act} {w w1 : World} {Q : Exit → Act → World → Prop} {rest : List Oper} (hg : o.guard = none) (d s : Operand) (t u : TypeId) (hop : o.op = Op.call { callee := Callee.builtin Builtin.copy, args := #[d, s], argTypes := #[t, u] }) {dv sv r : Value} (hd : a.eval d = dv) (hs : a.eval s = sv)
    (hrun : (Builtin.copy_ #[t, u] o.type #[dv, sv]).run P w = .ok r w1) (hK : wpList P ops Q rest (a.put o.dst r) w1) : wpList P ops Q (o :: rest) a w := by
  refine wpList_plain hg fun K' hK' => ?_
  unfold Oper.wp
  simp [execOp, hop, resolve, invoke, builtin, hd, hs, hrun, Result.andThen]
  exact hK' _ _ hK
theorem wcells_one : ∀ l, ∀ u ∈ wcells l, u.oneCell' = true := by
  intro l
  induction l with
  | nil => intro u hu; simp [wcells] at hu
  | cons p l ih =>
    intro u hu
    simp only [wcells, List.mem_cons] at hu
    rcases hu with rfl | rfl | hu
    · rfl
    · rfl
    · exact ih u hu
theorem copyW {w : World} {B h : Nat} {v : Value} {l : List (Int × List UInt8)} {cur : Array Value} {ty : TypeId} (ho : OwnW w B v l) (hb : Blk w h 91 cur) (hc : cur.size = l.length * 2) :
    (Builtin.copy_ #[37, 37] ty #[.slice (some ⟨h, 0, none⟩) l.length l.length, v]).run Try.prog w = .ok (goInt l.length) (w.setRow h (wcells l).toArray) := by
  obtain ⟨i0, hi, hz0, hz1, hz2⟩ : ∃ i, Try.prog.info? 91 = some i ∧ i.zero = some (.agg #[.int .i64 0, .string ByteArray.empty]) ∧ i.size = 2 ∧ i.bytes = 24 := info_parts (by kernel_rfl)
  have hst := run_storeCells_at Try.prog h 0 91 (wcells l) 0 cur w hb (by rw [wcells_length]; omega) (wcells_one l)
  have hlen := wcells_length l
  have hd0 : cur.toList.drop (0 + 0 + (wcells l).length) = [] := by rw [List.drop_eq_nil_iff]; simp; omega
  rw [hd0] at hst
  simp only [Nat.add_zero, List.take_zero, List.nil_append, List.append_nil] at hst
  rcases ho.2 with ⟨rfl, h0⟩ | ⟨gv, cap, cur2, rfl, h2, h3, h4, h5, h6, h7⟩
  · have hl : l = [] := List.eq_nil_of_length_eq_zero h0
    subst hl
    have hst' : (storeCells ⟨h, 0, none⟩ []).run Try.prog w = Result.ok () (w.setRow h #[]) := by simpa [wcells] using hst
    simp [Builtin.copy_, run_underlying Try.underlying37, Builtin.lenOf, Builtin.firstCells, sizeOf, typeInfo, hi]
    rw [hst']
    rfl
  · have hl := run_loadCells_list (P := Try.prog) (w := w) ⟨gv, 0, none⟩ (wcells l) (by
      intro j x hj
      have hjl : j < (wcells l).length := (List.getElem?_eq_some_iff.1 hj).1
      have hadd : (⟨gv, 0, none⟩ : Addr).add j = ⟨gv, j, none⟩ := by unfold Addr.add; split <;> simp_all
      rw [hadd, cell_of_row w gv j cur2 91 (0, 0) h3]
      have h8 : (cur2.toList.take (l.length * 2))[j]? = (wcells l)[j]? := by rw [h7]
      rw [List.getElem?_take, if_pos (by omega)] at h8
      rw [← Array.getElem?_toList, h8, hj])
    rw [hlen] at hl
    simp [Builtin.copy_, run_underlying Try.underlying37, Builtin.lenOf, Builtin.firstCells, sizeOf, typeInfo, hi, hz1, hl, hst]
theorem own_new {w : World} {h B : Nat} {l : List (Int × List UInt8)} {cur : Array Value} (hb : Blk w h 91 cur) (hB : B ≤ h) (hn : l.length ≤ maxLen) :
    OwnW (w.setRow h (wcells l).toArray) B (.slice (some ⟨h, 0, none⟩) l.length l.length) l := by
  refine ⟨wcells_length l, .inr ⟨h, l.length, (wcells l).toArray, rfl, hB, setRow_heap w h cur _ _ _ hb, Nat.le_refl _, hn, by simpa using wcells_length l, ?_⟩⟩
  rw [← wcells_length l]
  simp

set_option maxRecDepth 100000 in
set_option maxHeartbeats 800000 in
theorem waiting_any (w : World) (g gm : Nat) (v : Value) (cap B : Nat) (d : Dev) (hd : IsDev w g gm v cap B d) (hn : d.waits.length < 5000000000000) :
    Calls Try.prog 24 #[.pointer (some ⟨g, 0, none⟩)] w fun e w' => ∃ v', e = .returned v' ∧ OwnW w' w.heap.size v' d.waits ∧ Below w.heap.size w w' := by
  obtain ⟨i0, hi, hz0, hz1, hz2⟩ : ∃ i, Try.prog.info? 91 = some i ∧ i.zero = some (.agg #[.int .i64 0, .string ByteArray.empty]) ∧ i.size = 2 ∧ i.bytes = 24 := info_parts (by kernel_rfl)
  obtain ⟨l, hl⟩ : ∃ l, d.waits = l := ⟨_, rfl⟩
  have hmk := run_make (P := Try.prog) w 37 91 i0 _ Try.underlying37 hi hz0 .i64 .i64 l.length l.length (by omega) (Int.le_refl _) (by rw [hz2, ← hl]; omega) (by rw [← hl]; omega)
  simp only [Int.toNat_natCast] at hmk
  obtain ⟨cur, hcur⟩ : ∃ cur, madeCells (Value.agg #[.int .i64 0, .string ByteArray.empty]).cells (l.length * i0.size) = cur := ⟨_, rfl⟩
  have hcs : cur.size = l.length * 2 := by rw [← hcur, size_madeCells, hz1]
  rw [hcur] at hmk
  have hb1 : Below w.heap.size w (w.alloc (.cells cur 91)) := (Below.refl _ _).alloc (Nat.le_refl _) _
  have ho := hd.2.2.1
  rw [hl] at ho
  have hcp := fun ty => copyW (ty := ty) (ho.alloc (.cells cur 91)) (Blk.new w _ cur) hcs
  have HO := Lib.hid (own_new (B := w.heap.size) (l := l) (Blk.new w 91 cur) (Nat.le_refl _) (by rw [← hl]; unfold maxLen; omega))
  have HB := Lib.hid (hb1.trans (below_setRow (B := w.heap.size) (w0 := w.alloc (.cells cur 91)) (Below.refl _ _) (Nat.le_refl _) (wcells l).toArray))
  obtain ⟨-, -, c2, -⟩ := dev_cells hd
  have l1 : g < w.heap.size := hd.1.lt
  obtain ⟨p, c, hv⟩ := ho.form
  subst hv
  have HM := Lib.hid hmk
  have HC := Lib.hid hcp
  rw [hl]
  clear hmk hcp ho hb1 hd hcur hi hz0 hz1 hz2
  go_enter Try.func24, Try.ntmps24
  go_wp2_with (first | (at_make; refine wpList_make_run rfl _ _ _ rfl rfl rfl HM.out ?_) | (refine wpList_copy_run rfl _ _ _ _ rfl rfl rfl (HC.out _) ?_))
  go_ret
  exact ⟨_, rfl, HO.out, HB.out⟩
set_option maxHeartbeats 800000 in
theorem waiting_nil (w : World) :
    Calls Try.prog 24 #[.pointer none] w fun e w' => e = .returned (.slice none 0 0) ∧ w = w' := by
  go_enter Try.func24, Try.ntmps24
  go_wp2_with fail
  go_ret
  exact ⟨rfl, rfl⟩
end Go.Proofs.Ytiighehibiijcaa

namespace Go.Proofs.Ytiighehibiijcaa
open Go.RowKit
set_option linter.unusedSimpArgs false
set_option linter.unnecessarySimpa false

/-- A row of Bools that a call is handed, and that its work on the device leaves. -/
def KeepIs (w : World) (g gm : Nat) (v kv : Value) (ks : List Bool) : Prop := ks.length ≤ maxLen ∧ ∃ p c, kv = .slice p ks.length c ∧
  (0 < ks.length → ∃ b o, p = some ⟨b, o, none⟩ ∧ b < w.heap.size ∧ ∀ w' v', Touch g gm w v w' v' → ∀ i (h : i < ks.length), w'.cell? ⟨b, o + i, none⟩ = some (.bool ks[i]))
theorem KeepIs.none (w : World) (g gm : Nat) (v : Value) : KeepIs w g gm v (.slice Option.none 0 0) [] := ⟨by simp, Option.none, 0, rfl, fun h => absurd h (by simp)⟩
/-- What a torn sector holds. -/
def tornS (d : Dev) (cc : Nat) (p : Int × List UInt8) : List UInt8 := p.2.take cc ++ (safeD d p.1).drop cc
/-- One of what waits, behind a crash. -/
def crash1 (ks : List Bool) (torn : Int) (cc : Nat) (d : Dev) (i : Nat) (p : Int × List UInt8) : Dev :=
  if ks[i]? = some true then keepD d p.1 (if (i : Int) = torn then tornS d cc p else p.2) else d
/-- The first so many. -/
def crashN (ks : List Bool) (torn : Int) (cc : Nat) (d : Dev) (l : List (Int × List UInt8)) : Nat → Dev
  | 0 => d
  | i + 1 => match l[i]? with
    | some p => crash1 ks torn cc (crashN ks torn cc d l i) i p
    | none => crashN ks torn cc d l i
theorem keepD_fields (d : Dev) (k : Int) (s : List UInt8) : (keepD d k s).n = d.n ∧ (keepD d k s).waits = d.waits ∧ (keepD d k s).on = d.on ∧ (keepD d k s).armed = d.armed ∧ (keepD d k s).left = d.left ∧ (keepD d k s).steps = d.steps := ⟨rfl, rfl, rfl, rfl, rfl, rfl⟩
/-- What is safe has 64 bytes. -/
def SafeOk (d : Dev) : Prop := ∀ k s, d.safe k = some s → s.length = 64
theorem SafeOk.safeD {d : Dev} (h : SafeOk d) (k : Int) : (safeD d k).length = 64 := by
  unfold Go.Proofs.Ytiighehibiijcaa.safeD
  rcases hs : d.safe k with _ | s
  · rfl
  · exact h k s hs
theorem SafeOk.keep {d : Dev} (h : SafeOk d) (k : Int) {s : List UInt8} (hs : s.length = 64) : SafeOk (keepD d k s) := by
  intro j u hu
  unfold keepD at hu
  simp only [] at hu
  split at hu
  · unfold delF setF at hu
    split at hu
    · cases hu
    · exact h j u (by simpa [*] using hu)
  · unfold setF at hu
    split at hu
    · rw [← Option.some.inj hu]; exact hs
    · exact h j u hu
/-- Each of what waits has a sector, and 64 bytes. -/
def WaitOk (n : Int) (l : List (Int × List UInt8)) : Prop := ∀ p ∈ l, (Lit.int .i64 p.1).wf = true ∧ p.2.length = 64 ∧ hasD n p.1 = true
theorem crash1_n (ks : List Bool) (torn : Int) (cc : Nat) (d : Dev) (i : Nat) (p : Int × List UInt8) : (crash1 ks torn cc d i p).n = d.n ∧ (crash1 ks torn cc d i p).waits = d.waits ∧ (crash1 ks torn cc d i p).left = d.left ∧ (crash1 ks torn cc d i p).steps = d.steps := by
  unfold crash1
  split
  · exact ⟨rfl, rfl, rfl, rfl⟩
  · exact ⟨rfl, rfl, rfl, rfl⟩
theorem crashN_n (ks : List Bool) (torn : Int) (cc : Nat) (d : Dev) (l : List (Int × List UInt8)) : ∀ i, (crashN ks torn cc d l i).n = d.n ∧ (crashN ks torn cc d l i).waits = d.waits ∧ (crashN ks torn cc d l i).left = d.left ∧ (crashN ks torn cc d l i).steps = d.steps := by
  intro i
  induction i with
  | zero => exact ⟨rfl, rfl, rfl, rfl⟩
  | succ i ih =>
    unfold crashN
    split
    · obtain ⟨a1, a2, a3, a4⟩ := crash1_n ks torn cc (crashN ks torn cc d l i) i (by assumption)
      exact ⟨a1.trans ih.1, a2.trans ih.2.1, a3.trans ih.2.2.1, a4.trans ih.2.2.2⟩
    · exact ih
theorem tornS_length {d : Dev} (h : SafeOk d) {cc : Nat} (hc : cc ≤ 64) {p : Int × List UInt8} (hp : p.2.length = 64) : (tornS d cc p).length = 64 := by
  unfold tornS
  rw [List.length_append, List.length_take, List.length_drop, h.safeD, hp]
  omega
theorem crashN_safe {ks : List Bool} {torn : Int} {cc : Nat} {d : Dev} {l : List (Int × List UInt8)} (h : SafeOk d) (hc : cc ≤ 64) (hw : WaitOk d.n l) : ∀ i, SafeOk (crashN ks torn cc d l i) := by
  intro i
  induction i with
  | zero => exact h
  | succ i ih =>
    unfold crashN
    split
    · rename_i p hp
      have hpl := (hw p (List.mem_of_getElem? hp)).2.1
      unfold crash1
      split
      · refine ih.keep _ ?_
        split
        · exact tornS_length ih hc hpl
        · exact hpl
      · exact ih
    · exact ih
theorem crashN_succ {ks : List Bool} {torn : Int} {cc : Nat} {d : Dev} {l : List (Int × List UInt8)} {i : Nat} {p : Int × List UInt8} (h : l[i]? = some p) : crashN ks torn cc d l (i + 1) = crash1 ks torn cc (crashN ks torn cc d l i) i p := by
  rw [crashN, h]
theorem blk_ne {w : World} {g x : Nat} {t u : TypeId} {cs ds : Array Value} (h : Blk w g t cs) (k : Blk w x u ds) (hne : t ≠ u) : g ≠ x := by
  rintro rfl
  unfold Blk at h k
  rw [h] at k
  injection k with k
  injection k with _ k _
  exact hne k
theorem IsDev.setFar {w : World} {g gm x : Nat} {v : Value} {cap B : Nat} {d : Dev} {cs : Array Value} (hd : IsDev w g gm v cap B d) (hx : Blk w x 91 cs) (hv : v.ownBlock ≠ some x) (i : Nat) (u : Value) : IsDev (w.setCell ⟨x, i, none⟩ u) g gm v cap B d := by
  have hg := upd_set w x i u
  exact ⟨hd.1.grown hg (by simpa using blk_ne hd.1 hx (by decide)), hd.2.1.kept hg (by simpa using fun e => (hd.2.1.ne hx) e.symm), hd.2.2.1.grown hg (.inr hv), hd.2.2.2.1, hd.2.2.2.2⟩
theorem Touch.setNew {w w2 : World} {g gm x : Nat} {v v2 : Value} (h : Touch g gm w v w2 v2) (hx : w.heap.size ≤ x) (i : Nat) (u : Value) : Touch g gm w v (w2.setCell ⟨x, i, none⟩ u) v2 :=
  ⟨h.os, h.tape, h.output, by simpa [World.setCell] using h.size, fun k hk h1 h2 h3 => (Below.heap_setCell w2 ⟨x, i, none⟩ u k (by simp; omega)).trans (h.block k hk h1 h2 h3), h.own⟩
def crashD (ks : List Bool) (torn : Int) (cc : Nat) (d : Dev) : Dev := { crashN ks torn cc d d.waits d.waits.length with waits := [], on := true, armed := false }

set_option maxRecDepth 100000 in
set_option maxHeartbeats 4000000 in
theorem crash_mid (w : World) (g gm : Nat) (v kv : Value) (cap B : Nat) (d : Dev) (ks : List Bool) (torn cut : Int) (cc : Nat) (hcc : cut = (cc : Int)) (hcl : cc ≤ 64) (hd : IsDev w g gm v cap B d) (hkv : KeepIs w g gm v kv ks) (hs : SafeOk d) (hw : WaitOk d.n d.waits) (hn0 : d.n ≠ 0) (hn : cap + d.waits.length < 4611686018427) :
    Calls Try.prog 25 #[.pointer (some ⟨g, 0, none⟩), kv, .int .i64 torn, .int .i64 cut] w
      fun e w' => e = .returned (.tuple #[]) ∧ ∃ cap', cap' ≤ cap + d.waits.length ∧ IsDev w' g gm (.slice none 0 0) cap' B (crashD ks torn cc d) ∧ Touch g gm w v w' (.slice none 0 0) := by
  subst hcc
  have hc64 : cc ≤ 64 := by omega
  obtain ⟨l, hl⟩ : ∃ l, d.waits = l := ⟨_, rfl⟩
  unfold crashD
  rw [hl] at hw hn ⊢
  obtain ⟨hkl, kp, kc, rfl, hkcell⟩ := hkv
  have hkl' : ks.length < 9223372036854775808 := by unfold maxLen at hkl; omega
  have HKC := Lib.hid hkcell
  have HD := Lib.hid hd
  have HL := Lib.hid hl
  have HW := Lib.hid hw
  have HS := Lib.hid hs
  have hz : (d.n == 0) = false := by simpa using hn0
  obtain ⟨c0, c1, c2, c3, c4, c5, c6⟩ := dev_cells hd
  obtain ⟨p, c, hv⟩ := hd.2.2.1.form
  rw [hl] at hv
  subst hv
  clear hd hl hw hs hkcell
  go_enter Try.func25, Try.ntmps25
  go_wp2_with fail
  go_loopw [27] (fun i wr => ∃ (j cap' : Nat), j ≤ l.length ∧ i = .int .i64 j ∧ cap' ≤ cap + j ∧ IsDev wr g gm (.slice p l.length c) cap' B (crashN ks torn cc d l j) ∧ Touch g gm w (.slice p l.length c) wr (.slice p l.length c)) (fun i _ => l.length - (intOf i).toNat)
  case atStart => exact ⟨0, cap, Nat.zero_le _, rfl, by omega, HD.out, Touch.refl _ _ _ _⟩
  case round =>
    obtain ⟨j, cap', hj, rfl, hcap, hd, ht⟩ := hrel
    have hwt : (crashN ks torn cc d l j).waits = l := by rw [(crashN_n _ _ _ _ _ _).2.1, HL.out]
    by_cases hlt : j < l.length
    · have hst : crashN ks torn cc d l (j + 1) = crash1 ks torn cc (crashN ks torn cc d l j) j l[j] := crashN_succ (List.getElem?_eq_getElem hlt)
      obtain ⟨hk1, hk2, hk3⟩ := HW.out l[j] (List.getElem_mem hlt)
      have hso := crashN_safe (ks := ks) (torn := torn) HS.out hc64 HW.out j
      rcases hd.2.2.1.read with ⟨-, h2⟩ | ⟨gv, c', heq, -, hgv, -, -, hcell⟩
      · rw [hwt] at h2
        rw [h2] at hlt
        simp at hlt
      · rw [hwt] at hcell
        obtain ⟨e1, e2⟩ := hcell j hlt
        injection heq with hp hp1 hp2
        clear hp1 hp2
        subst hp
        rw [Nat.mul_comm] at e1 e2
        obtain ⟨⟨k, t⟩, hx⟩ : ∃ q, l[j] = q := ⟨_, rfl⟩
        rw [hx] at e1 e2 hst hk1 hk2 hk3
        simp only [] at e1 e2 hk1 hk2 hk3
        have hnn : hasD (crashN ks torn cc d l j).n k = true := by rw [(crashN_n _ _ _ _ _ _).1]; exact hk3
        have hzl := hso.safeD k
        have hd1 := hd.step ((Below.refl wr.heap.size wr).alloc (Nat.le_refl _) (.cells #[.int .i64 k, str t] 91))
        have t1 := ht.trans (Touch.of_below (g := g) (gm := gm) (v := .slice (some ⟨gv, 0, none⟩) l.length c) ((Below.refl wr.heap.size wr).alloc (Nat.le_refl _) (.cells #[.int .i64 k, str t] 91)))
        have hsz := ht.size
        have X1 := Lib.hid (Blk.new wr 91 #[.int .i64 k, str t])
        by_cases hjk : j < ks.length
        · obtain ⟨b, o, hkp, hbw, hkc⟩ := HKC.out (by omega)
          subst hkp
          have kcell : wr.cell? ⟨b, o + j, none⟩ = some (.bool ks[j]) := hkc wr _ ht j hjk
          have lt1 : b < wr.heap.size := Nat.lt_of_lt_of_le hbw ht.size
          obtain ⟨u, hu⟩ : ∃ u, ks[j] = u := ⟨_, rfl⟩
          rw [hu] at kcell
          cases u
          · skip
            have hst2 : crashN ks torn cc d l (j + 1) = crashN ks torn cc d l j := by
              rw [hst]
              unfold crash1
              rw [List.getElem?_eq_getElem hjk, hu]
              rfl
            rw [← hst2] at hd1
            have HD1 := Lib.hid hd1
            have T1 := Lib.hid t1
            clear hst hst2 hd hd1 t1 ht hx hu hcell hkc hso hzl c0 c1 c2 c3 c4 c5 c6 X1 hnn
            go_wp2_with fail
            go_roundw
            case rel => exact ⟨j + 1, cap', by omega, by go_num, by omega, HD1.out, T1.out⟩
            case measure => simp [intOf]; omega
          · by_cases htorn : (j : Int) = torn
            · subst htorn
              have hst2 : crashN ks (j : Int) cc d l (j + 1) = keepD (crashN ks (j : Int) cc d l j) k (tornS (crashN ks (j : Int) cc d l j) cc (k, t)) := by
                rw [hst]
                unfold crash1
                rw [List.getElem?_eq_getElem hjk, hu, if_pos rfl, if_pos rfl]
              unfold tornS at hst2
              obtain ⟨z, hz0⟩ : ∃ z, safeD (crashN ks (j : Int) cc d l j) k = z := ⟨_, rfl⟩
              simp only [] at hst2
              rw [hz0] at hst2 hzl
              obtain ⟨X, hX⟩ : ∃ X, List.take cc t = X := ⟨_, rfl⟩
              obtain ⟨Y, hY⟩ : ∃ Y, List.take (64 - cc) (List.drop cc z) = Y := ⟨_, rfl⟩
              have hci : (cc : Int) ≤ 64 := by omega
              have hzY : z.drop cc = Y := by rw [← hY, List.take_of_length_le]; rw [List.length_drop, hzl]; omega
              have hXY : ¬ 9223372036854775807 < X.length + Y.length := by rw [← hX, ← hzY, List.length_take, List.length_drop]; omega
              have hXYl : (X ++ Y).length = 64 := by rw [← hX, ← hzY, List.length_append, List.length_take, List.length_drop]; omega
              rw [hX, hzY] at hst2
              have HXY := Lib.hid hXYl
              clear hzY hXYl
              obtain ⟨D, hD⟩ : ∃ D, crashN ks (j : Int) cc d l j = D := ⟨_, rfl⟩
              rw [hD] at hst2 hd1 hz0 hnn
              have HS2 := Lib.hid hst2
              have HD1 := Lib.hid hd1
              have T1 := Lib.hid t1
              have HZ := Lib.hid hz0
              have HH := Lib.hid hnn
              clear hst hst2 hd hd1 t1 ht hx hu hcell hkc hso c0 c1 c2 c3 c4 c5 c6 hD hz0 hnn
              go_wp2_with fail
              have hwx := hsz
              have hgx := hgv
              generalize wr.alloc (.cells #[.int .i64 k, str t] 91) = w1 at *
              generalize wr.heap.size = x at *
              refine until_begin 12 (fun w' => w'.cell? ⟨x, 0, none⟩ = some (.int .i64 k) ∧ w'.cell? ⟨x, 1, none⟩ = some (str t)) (by kernel_rfl) ⟨X1.out.cell 0, X1.out.cell 1⟩ (fun hS => ?_)
              refine until_take 0 (some 46) (u := ?_) rfl rfl (by kernel_rfl) (by kernel_rfl) (by kernel_rfl) (by kernel_rfl) (fun _ _ _ h => h) (by rfl) (fun wS hv => ?_) hS ?_
              rotate_left
              · clear hv
                go_simp
                all_goals with_reducible rfl
              try simp only [Act.put, List.setIfInBounds_toArray, List.set]
              refine until_take 1 (some 47) (u := ?_) rfl rfl (by kernel_rfl) (by kernel_rfl) (by kernel_rfl) (by kernel_rfl) (fun _ _ _ h => h) (by rfl) (fun wS hv => ?_) hS ?_
              rotate_left
              · obtain ⟨k1, k2⟩ := hv
                go_simp
                all_goals with_reducible rfl
              try simp only [Act.put, List.setIfInBounds_toArray, List.set]
              refine until_take 2 (some 48) (u := ?_) rfl rfl (by kernel_rfl) (by kernel_rfl) (by kernel_rfl) (by kernel_rfl) (fun _ _ _ h => h) (by rfl) (fun wS hv => ?_) hS ?_
              rotate_left
              · clear hv
                go_simp
                all_goals with_reducible rfl
              try simp only [Act.put, List.setIfInBounds_toArray, List.set]
              refine until_take 3 (some 49) (u := ?_) rfl rfl (by kernel_rfl) (by kernel_rfl) (by kernel_rfl) (by kernel_rfl) (fun _ _ _ h => h) (by rfl) (fun wS hv => ?_) hS ?_
              rotate_left
              · clear hv
                go_simp
                all_goals with_reducible rfl
              try simp only [Act.put, List.setIfInBounds_toArray, List.set]
              refine until_take 4 (some 50) (u := ?_) rfl rfl (by kernel_rfl) (by kernel_rfl) (by kernel_rfl) (by kernel_rfl) (fun _ _ _ h => h) (by rfl) (fun wS hv => ?_) hS ?_
              rotate_left
              · clear hv
                go_simp
                all_goals with_reducible rfl
              try simp only [Act.put, List.setIfInBounds_toArray, List.set]
              refine until_take 5 (some 51) (u := ?_) rfl rfl (by kernel_rfl) (by kernel_rfl) (by kernel_rfl) (by kernel_rfl) (fun _ _ _ h => h) (by rfl) (fun wS hv => ?_) hS ?_
              rotate_left
              · clear hv
                go_simp
                all_goals with_reducible rfl
              try simp only [Act.put, List.setIfInBounds_toArray, List.set]
              refine until_take 6 (some 52) (u := ?_) rfl rfl (by kernel_rfl) (by kernel_rfl) (by kernel_rfl) (by kernel_rfl) (fun _ _ _ h => h) (by rfl) (fun wS hv => ?_) hS ?_
              rotate_left
              · obtain ⟨k1, k2⟩ := hv
                go_simp
                all_goals with_reducible rfl
              try simp only [Act.put, List.setIfInBounds_toArray, List.set]
              refine until_take 8 (some 54) (u := ?_) rfl rfl (by kernel_rfl) (by kernel_rfl) (by kernel_rfl) (by kernel_rfl) (fun _ _ _ h => h) (by rfl) (fun wS hv => ?_) hS ?_
              rotate_left
              · clear hv
                go_simp
                all_goals with_reducible rfl
              try simp only [Act.put, List.setIfInBounds_toArray, List.set]
              refine until_one 7 (by kernel_rfl) rfl (fun K hK => ?_)
              go_simp
              refine (safe_any _ g gm _ _ B _ k (HD1.out.drew 1) hk1).mono ?_
              rw [HH.out]
              rintro e w2 ⟨rfl, hb2⟩
              have X2 := Lib.hid (X1.out.drew.step hb2)
              have HD2 := Lib.hid ((HD1.out.drew 1).step hb2)
              have T2 := Lib.hid (T1.out.drew.trans (Touch.of_below (g := g) (gm := gm) hb2))
              rw [HZ.out]
              refine hK.out _ _ ⟨X2.out.cell 0, X2.out.cell 1⟩ (fun hS => ?_)
              clear hK K
              try simp only [Act.put, List.setIfInBounds_toArray, List.set]
              refine until_take 9 (some 55) (u := ?_) rfl rfl (by kernel_rfl) (by kernel_rfl) (by kernel_rfl) (by kernel_rfl) (fun _ _ _ h => h) (by rfl) (fun wS hv => ?_) hS ?_
              rotate_left
              · clear hv
                go_simp
                all_goals with_reducible rfl
              try simp only [Act.put, List.setIfInBounds_toArray, List.set]
              refine until_take 10 (some 56) (u := ?_) rfl rfl (by kernel_rfl) (by kernel_rfl) (by kernel_rfl) (by kernel_rfl) (fun _ _ _ h => h) (by rfl) (fun wS hv => ?_) hS ?_
              rotate_left
              · clear hv
                go_simp
                all_goals with_reducible rfl
              try simp only [Act.put, List.setIfInBounds_toArray, List.set]
              refine until_take 11 (some 57) (u := ?_) rfl rfl (by kernel_rfl) (by kernel_rfl) (by kernel_rfl) (by kernel_rfl) (fun _ _ _ h => h) (by rfl) (fun wS hv => ?_) hS ?_
              rotate_left
              · clear hv
                go_simp
                all_goals with_reducible rfl
              try simp only [Act.put, List.setIfInBounds_toArray, List.set]
              refine until_last (by kernel_rfl) rfl (by kernel_rfl) (fun K hK => ?_)
              have q0 := X2.out.frozen 1
              go_simp
              refine hK.out _ _ ?_
              clear hK K
              have hd3 := IsDev.setFar HD2.out X2.out (by simp [Value.ownBlock]; omega) 1 (str (X ++ Y))
              have t3 := Touch.setNew T2.out hwx 1 (str (X ++ Y))
              have X3 : Blk (w2.setCell ⟨x, 1, none⟩ (str (X ++ Y))) x 91 #[.int .i64 k, str (X ++ Y)] := X2.out.set_ 1 (str (X ++ Y))
              generalize w2.setCell ⟨x, 1, none⟩ (str (X ++ Y)) = w3 at *
              have x0 : w3.cell? ⟨x, 0, none⟩ = some (.int .i64 k) := X3.cell 0
              have x1 : w3.cell? ⟨x, 1, none⟩ = some (str (X ++ Y)) := X3.cell 1
              have HD4 := Lib.hid hd3
              have T4 := Lib.hid t3
              clear hd3 t3 X3 hS hci hXY
              go_wp2_with fail
              refine (keep_any _ g gm _ cap' B _ k (X ++ Y) HD4.out hk1 (by rw [HXY.out]; decide) (by unfold maxLen; omega)).mono ?_
              rintro e w4 ⟨rfl, hd5, t5⟩
              have t6 := T4.out.trans t5
              rw [← HS2.out] at hd5
              have HD5 := Lib.hid hd5
              have HT6 := Lib.hid t6
              clear HD4 T4 hd5 t5 t6 e1 e2 kcell x0 x1 HD2 T2 X2 HD1 T1 X1
              go_wp2
              go_roundw
              case rel => exact ⟨j + 1, cap' + 1, by omega, by go_num, by omega, HD5.out, HT6.out⟩
              case measure => simp [intOf]; omega
            · have hst2 : crashN ks torn cc d l (j + 1) = keepD (crashN ks torn cc d l j) k t := by
                rw [hst]
                unfold crash1
                rw [List.getElem?_eq_getElem hjk, hu, if_pos rfl, if_neg htorn]
              have HS2 := Lib.hid hst2
              have HD1 := Lib.hid hd1
              have T1 := Lib.hid t1
              clear hst hst2 hd hd1 t1 ht hx hu hcell hkc hso hzl c0 c1 c2 c3 c4 c5 c6 X1 hnn
              go_wp2_with fail
              refine (keep_any _ g gm _ cap' B _ k t HD1.out hk1 (by unfold maxLen; omega) (by unfold maxLen; omega)).mono ?_
              rintro e w2 ⟨rfl, hd3, t3⟩
              have t4 := T1.out.trans t3
              rw [← HS2.out] at hd3
              have HD3 := Lib.hid hd3
              have HT4 := Lib.hid t4
              clear HD1 T1 hd3 t3 t4 e1 e2 kcell
              go_wp2
              go_roundw
              case rel => exact ⟨j + 1, cap' + 1, by omega, by go_num, by omega, HD3.out, HT4.out⟩
              case measure => simp [intOf]; omega
        · have hst2 : crashN ks torn cc d l (j + 1) = crashN ks torn cc d l j := by
            rw [hst]
            unfold crash1
            rw [List.getElem?_eq_none (by omega)]
            rfl
          rw [← hst2] at hd1
          have HD1 := Lib.hid hd1
          have T1 := Lib.hid t1
          clear hst hst2 hd hd1 t1 ht hx hcell hso hzl c0 c1 c2 c3 c4 c5 c6 X1 hnn
          go_wp2_with fail
          go_roundw
          case rel => exact ⟨j + 1, cap', by omega, by go_num, by omega, HD1.out, T1.out⟩
          case measure => simp [intOf]; omega
    · have hjl : j = l.length := by omega
      subst hjl
      obtain ⟨-, -, e3, e4, e5, -⟩ := dev_cells hd
      have q2 := hd.1.frozen 2
      have q3 := hd.1.frozen 3
      have q4 := hd.1.frozen 4
      have HD2 := Lib.hid hd
      have HT := Lib.hid ht
      clear hd ht c0 c1 c2 c3 c4 c5 c6
      go_wp2
      go_end0
      have hd3 := IsDev.setWaits (v2 := .slice none 0 0) (L := []) ⟨HD2.out.1, HD2.out.2.1, OwnW.none _ _, HD2.out.2.2.2.1, HD2.out.2.2.2.2⟩
      have t3 := HT.out.trans (Touch.of_grown (g := g) (gm := gm) (v := .slice p l.length c) (upd_set wr g 2 (.slice none 0 0)) (.inl rfl))
      obtain ⟨hd4, t4⟩ := IsDev.set (i := 3) (u := .bool true) (d' := { crashN ks torn cc d l l.length with waits := [], on := true }) hd3 rfl rfl rfl
      obtain ⟨hd5, t5⟩ := IsDev.set (i := 4) (u := .bool false) (d' := { crashN ks torn cc d l l.length with waits := [], on := true, armed := false }) hd4 rfl rfl rfl
      exact ⟨rfl, cap', hcap, hd5, (t3.to_nil.trans t4).trans t5⟩

set_option maxRecDepth 100000 in
set_option maxHeartbeats 4000000 in
theorem crash_low (w : World) (g gm : Nat) (v kv : Value) (cap B : Nat) (d : Dev) (ks : List Bool) (torn cut : Int) (cc : Nat) (hcc : cc = 0) (hcl : cut < 0) (hd : IsDev w g gm v cap B d) (hkv : KeepIs w g gm v kv ks) (hs : SafeOk d) (hw : WaitOk d.n d.waits) (hn0 : d.n ≠ 0) (hn : cap + d.waits.length < 4611686018427) :
    Calls Try.prog 25 #[.pointer (some ⟨g, 0, none⟩), kv, .int .i64 torn, .int .i64 cut] w
      fun e w' => e = .returned (.tuple #[]) ∧ ∃ cap', cap' ≤ cap + d.waits.length ∧ IsDev w' g gm (.slice none 0 0) cap' B (crashD ks torn cc d) ∧ Touch g gm w v w' (.slice none 0 0) := by
  have HCC := Lib.hid hcc
  have hcc64 : cc ≤ 64 := by omega
  clear hcc
  have hc64 : cc ≤ 64 := by omega
  obtain ⟨l, hl⟩ : ∃ l, d.waits = l := ⟨_, rfl⟩
  unfold crashD
  rw [hl] at hw hn ⊢
  obtain ⟨hkl, kp, kc, rfl, hkcell⟩ := hkv
  have hkl' : ks.length < 9223372036854775808 := by unfold maxLen at hkl; omega
  have HKC := Lib.hid hkcell
  have HD := Lib.hid hd
  have HL := Lib.hid hl
  have HW := Lib.hid hw
  have HS := Lib.hid hs
  have hz : (d.n == 0) = false := by simpa using hn0
  obtain ⟨c0, c1, c2, c3, c4, c5, c6⟩ := dev_cells hd
  obtain ⟨p, c, hv⟩ := hd.2.2.1.form
  rw [hl] at hv
  subst hv
  clear hd hl hw hs hkcell
  go_enter Try.func25, Try.ntmps25
  go_wp2_with fail
  have hcc2 : (0 : Int) = (cc : Int) := by have := HCC.out; omega
  rw [hcc2]
  clear hcc2
  go_loopw [27] (fun i wr => ∃ (j cap' : Nat), j ≤ l.length ∧ i = .int .i64 j ∧ cap' ≤ cap + j ∧ IsDev wr g gm (.slice p l.length c) cap' B (crashN ks torn cc d l j) ∧ Touch g gm w (.slice p l.length c) wr (.slice p l.length c)) (fun i _ => l.length - (intOf i).toNat)
  case atStart => exact ⟨0, cap, Nat.zero_le _, (by rw [HCC.out]), by omega, HD.out, Touch.refl _ _ _ _⟩
  case round =>
    obtain ⟨j, cap', hj, rfl, hcap, hd, ht⟩ := hrel
    have hwt : (crashN ks torn cc d l j).waits = l := by rw [(crashN_n _ _ _ _ _ _).2.1, HL.out]
    by_cases hlt : j < l.length
    · have hst : crashN ks torn cc d l (j + 1) = crash1 ks torn cc (crashN ks torn cc d l j) j l[j] := crashN_succ (List.getElem?_eq_getElem hlt)
      obtain ⟨hk1, hk2, hk3⟩ := HW.out l[j] (List.getElem_mem hlt)
      have hso := crashN_safe (ks := ks) (torn := torn) HS.out hc64 HW.out j
      rcases hd.2.2.1.read with ⟨-, h2⟩ | ⟨gv, c', heq, -, hgv, -, -, hcell⟩
      · rw [hwt] at h2
        rw [h2] at hlt
        simp at hlt
      · rw [hwt] at hcell
        obtain ⟨e1, e2⟩ := hcell j hlt
        injection heq with hp hp1 hp2
        clear hp1 hp2
        subst hp
        rw [Nat.mul_comm] at e1 e2
        obtain ⟨⟨k, t⟩, hx⟩ : ∃ q, l[j] = q := ⟨_, rfl⟩
        rw [hx] at e1 e2 hst hk1 hk2 hk3
        simp only [] at e1 e2 hk1 hk2 hk3
        have hnn : hasD (crashN ks torn cc d l j).n k = true := by rw [(crashN_n _ _ _ _ _ _).1]; exact hk3
        have hzl := hso.safeD k
        have hd1 := hd.step ((Below.refl wr.heap.size wr).alloc (Nat.le_refl _) (.cells #[.int .i64 k, str t] 91))
        have t1 := ht.trans (Touch.of_below (g := g) (gm := gm) (v := .slice (some ⟨gv, 0, none⟩) l.length c) ((Below.refl wr.heap.size wr).alloc (Nat.le_refl _) (.cells #[.int .i64 k, str t] 91)))
        have hsz := ht.size
        have X1 := Lib.hid (Blk.new wr 91 #[.int .i64 k, str t])
        by_cases hjk : j < ks.length
        · obtain ⟨b, o, hkp, hbw, hkc⟩ := HKC.out (by omega)
          subst hkp
          have kcell : wr.cell? ⟨b, o + j, none⟩ = some (.bool ks[j]) := hkc wr _ ht j hjk
          have lt1 : b < wr.heap.size := Nat.lt_of_lt_of_le hbw ht.size
          obtain ⟨u, hu⟩ : ∃ u, ks[j] = u := ⟨_, rfl⟩
          rw [hu] at kcell
          cases u
          · skip
            have hst2 : crashN ks torn cc d l (j + 1) = crashN ks torn cc d l j := by
              rw [hst]
              unfold crash1
              rw [List.getElem?_eq_getElem hjk, hu]
              rfl
            rw [← hst2] at hd1
            have HD1 := Lib.hid hd1
            have T1 := Lib.hid t1
            clear hst hst2 hd hd1 t1 ht hx hu hcell hkc hso hzl c0 c1 c2 c3 c4 c5 c6 X1 hnn
            go_wp2_with fail
            go_roundw
            case rel => exact ⟨j + 1, cap', by omega, by go_num, by omega, HD1.out, T1.out⟩
            case measure => simp [intOf]; omega
          · by_cases htorn : (j : Int) = torn
            · subst htorn
              have hst2 : crashN ks (j : Int) cc d l (j + 1) = keepD (crashN ks (j : Int) cc d l j) k (tornS (crashN ks (j : Int) cc d l j) cc (k, t)) := by
                rw [hst]
                unfold crash1
                rw [List.getElem?_eq_getElem hjk, hu, if_pos rfl, if_pos rfl]
              unfold tornS at hst2
              obtain ⟨z, hz0⟩ : ∃ z, safeD (crashN ks (j : Int) cc d l j) k = z := ⟨_, rfl⟩
              simp only [] at hst2
              rw [hz0] at hst2 hzl
              obtain ⟨X, hX⟩ : ∃ X, List.take cc t = X := ⟨_, rfl⟩
              obtain ⟨Y, hY⟩ : ∃ Y, List.take (64 - cc) (List.drop cc z) = Y := ⟨_, rfl⟩
              have hci : (cc : Int) ≤ 64 := by omega
              have hzY : z.drop cc = Y := by rw [← hY, List.take_of_length_le]; rw [List.length_drop, hzl]; omega
              have hXY : ¬ 9223372036854775807 < X.length + Y.length := by rw [← hX, ← hzY, List.length_take, List.length_drop]; omega
              have hXYl : (X ++ Y).length = 64 := by rw [← hX, ← hzY, List.length_append, List.length_take, List.length_drop]; omega
              rw [hX, hzY] at hst2
              have HXY := Lib.hid hXYl
              clear hzY hXYl
              obtain ⟨D, hD⟩ : ∃ D, crashN ks (j : Int) cc d l j = D := ⟨_, rfl⟩
              rw [hD] at hst2 hd1 hz0 hnn
              have HS2 := Lib.hid hst2
              have HD1 := Lib.hid hd1
              have T1 := Lib.hid t1
              have HZ := Lib.hid hz0
              have HH := Lib.hid hnn
              clear hst hst2 hd hd1 t1 ht hx hu hcell hkc hso c0 c1 c2 c3 c4 c5 c6 hD hz0 hnn
              go_wp2_with fail
              have hwx := hsz
              have hgx := hgv
              generalize wr.alloc (.cells #[.int .i64 k, str t] 91) = w1 at *
              generalize wr.heap.size = x at *
              refine until_begin 12 (fun w' => w'.cell? ⟨x, 0, none⟩ = some (.int .i64 k) ∧ w'.cell? ⟨x, 1, none⟩ = some (str t)) (by kernel_rfl) ⟨X1.out.cell 0, X1.out.cell 1⟩ (fun hS => ?_)
              refine until_take 0 (some 46) (u := ?_) rfl rfl (by kernel_rfl) (by kernel_rfl) (by kernel_rfl) (by kernel_rfl) (fun _ _ _ h => h) (by rfl) (fun wS hv => ?_) hS ?_
              rotate_left
              · clear hv
                go_simp
                all_goals with_reducible rfl
              try simp only [Act.put, List.setIfInBounds_toArray, List.set]
              refine until_take 1 (some 47) (u := ?_) rfl rfl (by kernel_rfl) (by kernel_rfl) (by kernel_rfl) (by kernel_rfl) (fun _ _ _ h => h) (by rfl) (fun wS hv => ?_) hS ?_
              rotate_left
              · obtain ⟨k1, k2⟩ := hv
                go_simp
                all_goals with_reducible rfl
              try simp only [Act.put, List.setIfInBounds_toArray, List.set]
              refine until_take 2 (some 48) (u := ?_) rfl rfl (by kernel_rfl) (by kernel_rfl) (by kernel_rfl) (by kernel_rfl) (fun _ _ _ h => h) (by rfl) (fun wS hv => ?_) hS ?_
              rotate_left
              · clear hv
                go_simp
                all_goals with_reducible rfl
              try simp only [Act.put, List.setIfInBounds_toArray, List.set]
              refine until_take 3 (some 49) (u := ?_) rfl rfl (by kernel_rfl) (by kernel_rfl) (by kernel_rfl) (by kernel_rfl) (fun _ _ _ h => h) (by rfl) (fun wS hv => ?_) hS ?_
              rotate_left
              · clear hv
                go_simp
                all_goals with_reducible rfl
              try simp only [Act.put, List.setIfInBounds_toArray, List.set]
              refine until_take 4 (some 50) (u := ?_) rfl rfl (by kernel_rfl) (by kernel_rfl) (by kernel_rfl) (by kernel_rfl) (fun _ _ _ h => h) (by rfl) (fun wS hv => ?_) hS ?_
              rotate_left
              · clear hv
                go_simp
                all_goals with_reducible rfl
              try simp only [Act.put, List.setIfInBounds_toArray, List.set]
              refine until_take 5 (some 51) (u := ?_) rfl rfl (by kernel_rfl) (by kernel_rfl) (by kernel_rfl) (by kernel_rfl) (fun _ _ _ h => h) (by rfl) (fun wS hv => ?_) hS ?_
              rotate_left
              · clear hv
                go_simp
                all_goals with_reducible rfl
              try simp only [Act.put, List.setIfInBounds_toArray, List.set]
              refine until_take 6 (some 52) (u := ?_) rfl rfl (by kernel_rfl) (by kernel_rfl) (by kernel_rfl) (by kernel_rfl) (fun _ _ _ h => h) (by rfl) (fun wS hv => ?_) hS ?_
              rotate_left
              · obtain ⟨k1, k2⟩ := hv
                go_simp
                all_goals with_reducible rfl
              try simp only [Act.put, List.setIfInBounds_toArray, List.set]
              refine until_take 8 (some 54) (u := ?_) rfl rfl (by kernel_rfl) (by kernel_rfl) (by kernel_rfl) (by kernel_rfl) (fun _ _ _ h => h) (by rfl) (fun wS hv => ?_) hS ?_
              rotate_left
              · clear hv
                go_simp
                all_goals with_reducible rfl
              try simp only [Act.put, List.setIfInBounds_toArray, List.set]
              refine until_one 7 (by kernel_rfl) rfl (fun K hK => ?_)
              go_simp
              refine (safe_any _ g gm _ _ B _ k (HD1.out.drew 1) hk1).mono ?_
              rw [HH.out]
              rintro e w2 ⟨rfl, hb2⟩
              have X2 := Lib.hid (X1.out.drew.step hb2)
              have HD2 := Lib.hid ((HD1.out.drew 1).step hb2)
              have T2 := Lib.hid (T1.out.drew.trans (Touch.of_below (g := g) (gm := gm) hb2))
              rw [HZ.out]
              refine hK.out _ _ ⟨X2.out.cell 0, X2.out.cell 1⟩ (fun hS => ?_)
              clear hK K
              try simp only [Act.put, List.setIfInBounds_toArray, List.set]
              refine until_take 9 (some 55) (u := ?_) rfl rfl (by kernel_rfl) (by kernel_rfl) (by kernel_rfl) (by kernel_rfl) (fun _ _ _ h => h) (by rfl) (fun wS hv => ?_) hS ?_
              rotate_left
              · clear hv
                go_simp
                all_goals with_reducible rfl
              try simp only [Act.put, List.setIfInBounds_toArray, List.set]
              refine until_take 10 (some 56) (u := ?_) rfl rfl (by kernel_rfl) (by kernel_rfl) (by kernel_rfl) (by kernel_rfl) (fun _ _ _ h => h) (by rfl) (fun wS hv => ?_) hS ?_
              rotate_left
              · clear hv
                go_simp
                all_goals with_reducible rfl
              try simp only [Act.put, List.setIfInBounds_toArray, List.set]
              refine until_take 11 (some 57) (u := ?_) rfl rfl (by kernel_rfl) (by kernel_rfl) (by kernel_rfl) (by kernel_rfl) (fun _ _ _ h => h) (by rfl) (fun wS hv => ?_) hS ?_
              rotate_left
              · clear hv
                go_simp
                all_goals with_reducible rfl
              try simp only [Act.put, List.setIfInBounds_toArray, List.set]
              refine until_last (by kernel_rfl) rfl (by kernel_rfl) (fun K hK => ?_)
              have q0 := X2.out.frozen 1
              go_simp
              refine hK.out _ _ ?_
              clear hK K
              have hd3 := IsDev.setFar HD2.out X2.out (by simp [Value.ownBlock]; omega) 1 (str (X ++ Y))
              have t3 := Touch.setNew T2.out hwx 1 (str (X ++ Y))
              have X3 : Blk (w2.setCell ⟨x, 1, none⟩ (str (X ++ Y))) x 91 #[.int .i64 k, str (X ++ Y)] := X2.out.set_ 1 (str (X ++ Y))
              generalize w2.setCell ⟨x, 1, none⟩ (str (X ++ Y)) = w3 at *
              have x0 : w3.cell? ⟨x, 0, none⟩ = some (.int .i64 k) := X3.cell 0
              have x1 : w3.cell? ⟨x, 1, none⟩ = some (str (X ++ Y)) := X3.cell 1
              have HD4 := Lib.hid hd3
              have T4 := Lib.hid t3
              clear hd3 t3 X3 hS hci hXY
              go_wp2_with fail
              refine (keep_any _ g gm _ cap' B _ k (X ++ Y) HD4.out hk1 (by rw [HXY.out]; decide) (by unfold maxLen; omega)).mono ?_
              rintro e w4 ⟨rfl, hd5, t5⟩
              have t6 := T4.out.trans t5
              rw [← HS2.out] at hd5
              have HD5 := Lib.hid hd5
              have HT6 := Lib.hid t6
              clear HD4 T4 hd5 t5 t6 e1 e2 kcell x0 x1 HD2 T2 X2 HD1 T1 X1
              go_wp2
              go_roundw
              case rel => exact ⟨j + 1, cap' + 1, by omega, by go_num, by omega, HD5.out, HT6.out⟩
              case measure => simp [intOf]; omega
            · have hst2 : crashN ks torn cc d l (j + 1) = keepD (crashN ks torn cc d l j) k t := by
                rw [hst]
                unfold crash1
                rw [List.getElem?_eq_getElem hjk, hu, if_pos rfl, if_neg htorn]
              have HS2 := Lib.hid hst2
              have HD1 := Lib.hid hd1
              have T1 := Lib.hid t1
              clear hst hst2 hd hd1 t1 ht hx hu hcell hkc hso hzl c0 c1 c2 c3 c4 c5 c6 X1 hnn
              go_wp2_with fail
              refine (keep_any _ g gm _ cap' B _ k t HD1.out hk1 (by unfold maxLen; omega) (by unfold maxLen; omega)).mono ?_
              rintro e w2 ⟨rfl, hd3, t3⟩
              have t4 := T1.out.trans t3
              rw [← HS2.out] at hd3
              have HD3 := Lib.hid hd3
              have HT4 := Lib.hid t4
              clear HD1 T1 hd3 t3 t4 e1 e2 kcell
              go_wp2
              go_roundw
              case rel => exact ⟨j + 1, cap' + 1, by omega, by go_num, by omega, HD3.out, HT4.out⟩
              case measure => simp [intOf]; omega
        · have hst2 : crashN ks torn cc d l (j + 1) = crashN ks torn cc d l j := by
            rw [hst]
            unfold crash1
            rw [List.getElem?_eq_none (by omega)]
            rfl
          rw [← hst2] at hd1
          have HD1 := Lib.hid hd1
          have T1 := Lib.hid t1
          clear hst hst2 hd hd1 t1 ht hx hcell hso hzl c0 c1 c2 c3 c4 c5 c6 X1 hnn
          go_wp2_with fail
          go_roundw
          case rel => exact ⟨j + 1, cap', by omega, by go_num, by omega, HD1.out, T1.out⟩
          case measure => simp [intOf]; omega
    · have hjl : j = l.length := by omega
      subst hjl
      obtain ⟨-, -, e3, e4, e5, -⟩ := dev_cells hd
      have q2 := hd.1.frozen 2
      have q3 := hd.1.frozen 3
      have q4 := hd.1.frozen 4
      have HD2 := Lib.hid hd
      have HT := Lib.hid ht
      clear hd ht c0 c1 c2 c3 c4 c5 c6
      go_wp2
      go_end0
      have hd3 := IsDev.setWaits (v2 := .slice none 0 0) (L := []) ⟨HD2.out.1, HD2.out.2.1, OwnW.none _ _, HD2.out.2.2.2.1, HD2.out.2.2.2.2⟩
      have t3 := HT.out.trans (Touch.of_grown (g := g) (gm := gm) (v := .slice p l.length c) (upd_set wr g 2 (.slice none 0 0)) (.inl rfl))
      obtain ⟨hd4, t4⟩ := IsDev.set (i := 3) (u := .bool true) (d' := { crashN ks torn cc d l l.length with waits := [], on := true }) hd3 rfl rfl rfl
      obtain ⟨hd5, t5⟩ := IsDev.set (i := 4) (u := .bool false) (d' := { crashN ks torn cc d l l.length with waits := [], on := true, armed := false }) hd4 rfl rfl rfl
      exact ⟨rfl, cap', hcap, hd5, (t3.to_nil.trans t4).trans t5⟩

set_option maxRecDepth 100000 in
set_option maxHeartbeats 4000000 in
theorem crash_high (w : World) (g gm : Nat) (v kv : Value) (cap B : Nat) (d : Dev) (ks : List Bool) (torn cut : Int) (cc : Nat) (hcc : cc = 64) (hcl : 64 < cut) (hd : IsDev w g gm v cap B d) (hkv : KeepIs w g gm v kv ks) (hs : SafeOk d) (hw : WaitOk d.n d.waits) (hn0 : d.n ≠ 0) (hn : cap + d.waits.length < 4611686018427) :
    Calls Try.prog 25 #[.pointer (some ⟨g, 0, none⟩), kv, .int .i64 torn, .int .i64 cut] w
      fun e w' => e = .returned (.tuple #[]) ∧ ∃ cap', cap' ≤ cap + d.waits.length ∧ IsDev w' g gm (.slice none 0 0) cap' B (crashD ks torn cc d) ∧ Touch g gm w v w' (.slice none 0 0) := by
  have HCC := Lib.hid hcc
  have hcc64 : cc ≤ 64 := by omega
  clear hcc
  have hc64 : cc ≤ 64 := by omega
  obtain ⟨l, hl⟩ : ∃ l, d.waits = l := ⟨_, rfl⟩
  unfold crashD
  rw [hl] at hw hn ⊢
  obtain ⟨hkl, kp, kc, rfl, hkcell⟩ := hkv
  have hkl' : ks.length < 9223372036854775808 := by unfold maxLen at hkl; omega
  have HKC := Lib.hid hkcell
  have HD := Lib.hid hd
  have HL := Lib.hid hl
  have HW := Lib.hid hw
  have HS := Lib.hid hs
  have hz : (d.n == 0) = false := by simpa using hn0
  obtain ⟨c0, c1, c2, c3, c4, c5, c6⟩ := dev_cells hd
  obtain ⟨p, c, hv⟩ := hd.2.2.1.form
  rw [hl] at hv
  subst hv
  clear hd hl hw hs hkcell
  go_enter Try.func25, Try.ntmps25
  go_wp2_with fail
  have hcc2 : (64 : Int) = (cc : Int) := by have := HCC.out; omega
  rw [hcc2]
  clear hcc2
  go_loopw [27] (fun i wr => ∃ (j cap' : Nat), j ≤ l.length ∧ i = .int .i64 j ∧ cap' ≤ cap + j ∧ IsDev wr g gm (.slice p l.length c) cap' B (crashN ks torn cc d l j) ∧ Touch g gm w (.slice p l.length c) wr (.slice p l.length c)) (fun i _ => l.length - (intOf i).toNat)
  case atStart => exact ⟨0, cap, Nat.zero_le _, rfl, by omega, HD.out, Touch.refl _ _ _ _⟩
  case round =>
    obtain ⟨j, cap', hj, rfl, hcap, hd, ht⟩ := hrel
    have hwt : (crashN ks torn cc d l j).waits = l := by rw [(crashN_n _ _ _ _ _ _).2.1, HL.out]
    by_cases hlt : j < l.length
    · have hst : crashN ks torn cc d l (j + 1) = crash1 ks torn cc (crashN ks torn cc d l j) j l[j] := crashN_succ (List.getElem?_eq_getElem hlt)
      obtain ⟨hk1, hk2, hk3⟩ := HW.out l[j] (List.getElem_mem hlt)
      have hso := crashN_safe (ks := ks) (torn := torn) HS.out hc64 HW.out j
      rcases hd.2.2.1.read with ⟨-, h2⟩ | ⟨gv, c', heq, -, hgv, -, -, hcell⟩
      · rw [hwt] at h2
        rw [h2] at hlt
        simp at hlt
      · rw [hwt] at hcell
        obtain ⟨e1, e2⟩ := hcell j hlt
        injection heq with hp hp1 hp2
        clear hp1 hp2
        subst hp
        rw [Nat.mul_comm] at e1 e2
        obtain ⟨⟨k, t⟩, hx⟩ : ∃ q, l[j] = q := ⟨_, rfl⟩
        rw [hx] at e1 e2 hst hk1 hk2 hk3
        simp only [] at e1 e2 hk1 hk2 hk3
        have hnn : hasD (crashN ks torn cc d l j).n k = true := by rw [(crashN_n _ _ _ _ _ _).1]; exact hk3
        have hzl := hso.safeD k
        have hd1 := hd.step ((Below.refl wr.heap.size wr).alloc (Nat.le_refl _) (.cells #[.int .i64 k, str t] 91))
        have t1 := ht.trans (Touch.of_below (g := g) (gm := gm) (v := .slice (some ⟨gv, 0, none⟩) l.length c) ((Below.refl wr.heap.size wr).alloc (Nat.le_refl _) (.cells #[.int .i64 k, str t] 91)))
        have hsz := ht.size
        have X1 := Lib.hid (Blk.new wr 91 #[.int .i64 k, str t])
        by_cases hjk : j < ks.length
        · obtain ⟨b, o, hkp, hbw, hkc⟩ := HKC.out (by omega)
          subst hkp
          have kcell : wr.cell? ⟨b, o + j, none⟩ = some (.bool ks[j]) := hkc wr _ ht j hjk
          have lt1 : b < wr.heap.size := Nat.lt_of_lt_of_le hbw ht.size
          obtain ⟨u, hu⟩ : ∃ u, ks[j] = u := ⟨_, rfl⟩
          rw [hu] at kcell
          cases u
          · skip
            have hst2 : crashN ks torn cc d l (j + 1) = crashN ks torn cc d l j := by
              rw [hst]
              unfold crash1
              rw [List.getElem?_eq_getElem hjk, hu]
              rfl
            rw [← hst2] at hd1
            have HD1 := Lib.hid hd1
            have T1 := Lib.hid t1
            clear hst hst2 hd hd1 t1 ht hx hu hcell hkc hso hzl c0 c1 c2 c3 c4 c5 c6 X1 hnn
            go_wp2_with fail
            go_roundw
            case rel => exact ⟨j + 1, cap', by omega, by go_num, by omega, HD1.out, T1.out⟩
            case measure => simp [intOf]; omega
          · by_cases htorn : (j : Int) = torn
            · subst htorn
              have hst2 : crashN ks (j : Int) cc d l (j + 1) = keepD (crashN ks (j : Int) cc d l j) k (tornS (crashN ks (j : Int) cc d l j) cc (k, t)) := by
                rw [hst]
                unfold crash1
                rw [List.getElem?_eq_getElem hjk, hu, if_pos rfl, if_pos rfl]
              unfold tornS at hst2
              obtain ⟨z, hz0⟩ : ∃ z, safeD (crashN ks (j : Int) cc d l j) k = z := ⟨_, rfl⟩
              simp only [] at hst2
              rw [hz0] at hst2 hzl
              obtain ⟨X, hX⟩ : ∃ X, List.take cc t = X := ⟨_, rfl⟩
              obtain ⟨Y, hY⟩ : ∃ Y, List.take (64 - cc) (List.drop cc z) = Y := ⟨_, rfl⟩
              have hci : (cc : Int) ≤ 64 := by omega
              have hzY : z.drop cc = Y := by rw [← hY, List.take_of_length_le]; rw [List.length_drop, hzl]; omega
              have hXY : ¬ 9223372036854775807 < X.length + Y.length := by rw [← hX, ← hzY, List.length_take, List.length_drop]; omega
              have hXYl : (X ++ Y).length = 64 := by rw [← hX, ← hzY, List.length_append, List.length_take, List.length_drop]; omega
              rw [hX, hzY] at hst2
              have HXY := Lib.hid hXYl
              clear hzY hXYl
              obtain ⟨D, hD⟩ : ∃ D, crashN ks (j : Int) cc d l j = D := ⟨_, rfl⟩
              rw [hD] at hst2 hd1 hz0 hnn
              have HS2 := Lib.hid hst2
              have HD1 := Lib.hid hd1
              have T1 := Lib.hid t1
              have HZ := Lib.hid hz0
              have HH := Lib.hid hnn
              clear hst hst2 hd hd1 t1 ht hx hu hcell hkc hso c0 c1 c2 c3 c4 c5 c6 hD hz0 hnn
              go_wp2_with fail
              have hwx := hsz
              have hgx := hgv
              generalize wr.alloc (.cells #[.int .i64 k, str t] 91) = w1 at *
              generalize wr.heap.size = x at *
              refine until_begin 12 (fun w' => w'.cell? ⟨x, 0, none⟩ = some (.int .i64 k) ∧ w'.cell? ⟨x, 1, none⟩ = some (str t)) (by kernel_rfl) ⟨X1.out.cell 0, X1.out.cell 1⟩ (fun hS => ?_)
              refine until_take 0 (some 46) (u := ?_) rfl rfl (by kernel_rfl) (by kernel_rfl) (by kernel_rfl) (by kernel_rfl) (fun _ _ _ h => h) (by rfl) (fun wS hv => ?_) hS ?_
              rotate_left
              · clear hv
                go_simp
                all_goals with_reducible rfl
              try simp only [Act.put, List.setIfInBounds_toArray, List.set]
              refine until_take 1 (some 47) (u := ?_) rfl rfl (by kernel_rfl) (by kernel_rfl) (by kernel_rfl) (by kernel_rfl) (fun _ _ _ h => h) (by rfl) (fun wS hv => ?_) hS ?_
              rotate_left
              · obtain ⟨k1, k2⟩ := hv
                go_simp
                all_goals with_reducible rfl
              try simp only [Act.put, List.setIfInBounds_toArray, List.set]
              refine until_take 2 (some 48) (u := ?_) rfl rfl (by kernel_rfl) (by kernel_rfl) (by kernel_rfl) (by kernel_rfl) (fun _ _ _ h => h) (by rfl) (fun wS hv => ?_) hS ?_
              rotate_left
              · clear hv
                go_simp
                all_goals with_reducible rfl
              try simp only [Act.put, List.setIfInBounds_toArray, List.set]
              refine until_take 3 (some 49) (u := ?_) rfl rfl (by kernel_rfl) (by kernel_rfl) (by kernel_rfl) (by kernel_rfl) (fun _ _ _ h => h) (by rfl) (fun wS hv => ?_) hS ?_
              rotate_left
              · clear hv
                go_simp
                all_goals with_reducible rfl
              try simp only [Act.put, List.setIfInBounds_toArray, List.set]
              refine until_take 4 (some 50) (u := ?_) rfl rfl (by kernel_rfl) (by kernel_rfl) (by kernel_rfl) (by kernel_rfl) (fun _ _ _ h => h) (by rfl) (fun wS hv => ?_) hS ?_
              rotate_left
              · clear hv
                go_simp
                all_goals with_reducible rfl
              try simp only [Act.put, List.setIfInBounds_toArray, List.set]
              refine until_take 5 (some 51) (u := ?_) rfl rfl (by kernel_rfl) (by kernel_rfl) (by kernel_rfl) (by kernel_rfl) (fun _ _ _ h => h) (by rfl) (fun wS hv => ?_) hS ?_
              rotate_left
              · clear hv
                go_simp
                all_goals with_reducible rfl
              try simp only [Act.put, List.setIfInBounds_toArray, List.set]
              refine until_take 6 (some 52) (u := ?_) rfl rfl (by kernel_rfl) (by kernel_rfl) (by kernel_rfl) (by kernel_rfl) (fun _ _ _ h => h) (by rfl) (fun wS hv => ?_) hS ?_
              rotate_left
              · obtain ⟨k1, k2⟩ := hv
                go_simp
                all_goals with_reducible rfl
              try simp only [Act.put, List.setIfInBounds_toArray, List.set]
              refine until_take 8 (some 54) (u := ?_) rfl rfl (by kernel_rfl) (by kernel_rfl) (by kernel_rfl) (by kernel_rfl) (fun _ _ _ h => h) (by rfl) (fun wS hv => ?_) hS ?_
              rotate_left
              · clear hv
                go_simp
                all_goals with_reducible rfl
              try simp only [Act.put, List.setIfInBounds_toArray, List.set]
              refine until_one 7 (by kernel_rfl) rfl (fun K hK => ?_)
              go_simp
              refine (safe_any _ g gm _ _ B _ k (HD1.out.drew 1) hk1).mono ?_
              rw [HH.out]
              rintro e w2 ⟨rfl, hb2⟩
              have X2 := Lib.hid (X1.out.drew.step hb2)
              have HD2 := Lib.hid ((HD1.out.drew 1).step hb2)
              have T2 := Lib.hid (T1.out.drew.trans (Touch.of_below (g := g) (gm := gm) hb2))
              rw [HZ.out]
              refine hK.out _ _ ⟨X2.out.cell 0, X2.out.cell 1⟩ (fun hS => ?_)
              clear hK K
              try simp only [Act.put, List.setIfInBounds_toArray, List.set]
              refine until_take 9 (some 55) (u := ?_) rfl rfl (by kernel_rfl) (by kernel_rfl) (by kernel_rfl) (by kernel_rfl) (fun _ _ _ h => h) (by rfl) (fun wS hv => ?_) hS ?_
              rotate_left
              · clear hv
                go_simp
                all_goals with_reducible rfl
              try simp only [Act.put, List.setIfInBounds_toArray, List.set]
              refine until_take 10 (some 56) (u := ?_) rfl rfl (by kernel_rfl) (by kernel_rfl) (by kernel_rfl) (by kernel_rfl) (fun _ _ _ h => h) (by rfl) (fun wS hv => ?_) hS ?_
              rotate_left
              · clear hv
                go_simp
                all_goals with_reducible rfl
              try simp only [Act.put, List.setIfInBounds_toArray, List.set]
              refine until_take 11 (some 57) (u := ?_) rfl rfl (by kernel_rfl) (by kernel_rfl) (by kernel_rfl) (by kernel_rfl) (fun _ _ _ h => h) (by rfl) (fun wS hv => ?_) hS ?_
              rotate_left
              · clear hv
                go_simp
                all_goals with_reducible rfl
              try simp only [Act.put, List.setIfInBounds_toArray, List.set]
              refine until_last (by kernel_rfl) rfl (by kernel_rfl) (fun K hK => ?_)
              have q0 := X2.out.frozen 1
              go_simp
              refine hK.out _ _ ?_
              clear hK K
              have hd3 := IsDev.setFar HD2.out X2.out (by simp [Value.ownBlock]; omega) 1 (str (X ++ Y))
              have t3 := Touch.setNew T2.out hwx 1 (str (X ++ Y))
              have X3 : Blk (w2.setCell ⟨x, 1, none⟩ (str (X ++ Y))) x 91 #[.int .i64 k, str (X ++ Y)] := X2.out.set_ 1 (str (X ++ Y))
              generalize w2.setCell ⟨x, 1, none⟩ (str (X ++ Y)) = w3 at *
              have x0 : w3.cell? ⟨x, 0, none⟩ = some (.int .i64 k) := X3.cell 0
              have x1 : w3.cell? ⟨x, 1, none⟩ = some (str (X ++ Y)) := X3.cell 1
              have HD4 := Lib.hid hd3
              have T4 := Lib.hid t3
              clear hd3 t3 X3 hS hci hXY
              go_wp2_with fail
              refine (keep_any _ g gm _ cap' B _ k (X ++ Y) HD4.out hk1 (by rw [HXY.out]; decide) (by unfold maxLen; omega)).mono ?_
              rintro e w4 ⟨rfl, hd5, t5⟩
              have t6 := T4.out.trans t5
              rw [← HS2.out] at hd5
              have HD5 := Lib.hid hd5
              have HT6 := Lib.hid t6
              clear HD4 T4 hd5 t5 t6 e1 e2 kcell x0 x1 HD2 T2 X2 HD1 T1 X1
              go_wp2
              go_roundw
              case rel => exact ⟨j + 1, cap' + 1, by omega, by go_num, by omega, HD5.out, HT6.out⟩
              case measure => simp [intOf]; omega
            · have hst2 : crashN ks torn cc d l (j + 1) = keepD (crashN ks torn cc d l j) k t := by
                rw [hst]
                unfold crash1
                rw [List.getElem?_eq_getElem hjk, hu, if_pos rfl, if_neg htorn]
              have HS2 := Lib.hid hst2
              have HD1 := Lib.hid hd1
              have T1 := Lib.hid t1
              clear hst hst2 hd hd1 t1 ht hx hu hcell hkc hso hzl c0 c1 c2 c3 c4 c5 c6 X1 hnn
              go_wp2_with fail
              refine (keep_any _ g gm _ cap' B _ k t HD1.out hk1 (by unfold maxLen; omega) (by unfold maxLen; omega)).mono ?_
              rintro e w2 ⟨rfl, hd3, t3⟩
              have t4 := T1.out.trans t3
              rw [← HS2.out] at hd3
              have HD3 := Lib.hid hd3
              have HT4 := Lib.hid t4
              clear HD1 T1 hd3 t3 t4 e1 e2 kcell
              go_wp2
              go_roundw
              case rel => exact ⟨j + 1, cap' + 1, by omega, by go_num, by omega, HD3.out, HT4.out⟩
              case measure => simp [intOf]; omega
        · have hst2 : crashN ks torn cc d l (j + 1) = crashN ks torn cc d l j := by
            rw [hst]
            unfold crash1
            rw [List.getElem?_eq_none (by omega)]
            rfl
          rw [← hst2] at hd1
          have HD1 := Lib.hid hd1
          have T1 := Lib.hid t1
          clear hst hst2 hd hd1 t1 ht hx hcell hso hzl c0 c1 c2 c3 c4 c5 c6 X1 hnn
          go_wp2_with fail
          go_roundw
          case rel => exact ⟨j + 1, cap', by omega, by go_num, by omega, HD1.out, T1.out⟩
          case measure => simp [intOf]; omega
    · have hjl : j = l.length := by omega
      subst hjl
      obtain ⟨-, -, e3, e4, e5, -⟩ := dev_cells hd
      have q2 := hd.1.frozen 2
      have q3 := hd.1.frozen 3
      have q4 := hd.1.frozen 4
      have HD2 := Lib.hid hd
      have HT := Lib.hid ht
      clear hd ht c0 c1 c2 c3 c4 c5 c6
      go_wp2
      go_end0
      have hd3 := IsDev.setWaits (v2 := .slice none 0 0) (L := []) ⟨HD2.out.1, HD2.out.2.1, OwnW.none _ _, HD2.out.2.2.2.1, HD2.out.2.2.2.2⟩
      have t3 := HT.out.trans (Touch.of_grown (g := g) (gm := gm) (v := .slice p l.length c) (upd_set wr g 2 (.slice none 0 0)) (.inl rfl))
      obtain ⟨hd4, t4⟩ := IsDev.set (i := 3) (u := .bool true) (d' := { crashN ks torn cc d l l.length with waits := [], on := true }) hd3 rfl rfl rfl
      obtain ⟨hd5, t5⟩ := IsDev.set (i := 4) (u := .bool false) (d' := { crashN ks torn cc d l l.length with waits := [], on := true, armed := false }) hd4 rfl rfl rfl
      exact ⟨rfl, cap', hcap, hd5, (t3.to_nil.trans t4).trans t5⟩

theorem crash_any (w : World) (g gm : Nat) (v kv : Value) (cap B : Nat) (d : Dev) (ks : List Bool) (torn cut : Int) (hd : IsDev w g gm v cap B d) (hkv : KeepIs w g gm v kv ks) (hs : SafeOk d) (hw : WaitOk d.n d.waits) (hn0 : d.n ≠ 0) (hn : cap + d.waits.length < 4611686018427) :
    Calls Try.prog 25 #[.pointer (some ⟨g, 0, none⟩), kv, .int .i64 torn, .int .i64 cut] w
      fun e w' => e = .returned (.tuple #[]) ∧ ∃ cap', cap' ≤ cap + d.waits.length ∧ IsDev w' g gm (.slice none 0 0) cap' B (crashD ks torn (min (max cut 0) 64).toNat d) ∧ Touch g gm w v w' (.slice none 0 0) := by
  by_cases h0 : cut < 0
  · rw [show (min (max cut 0) 64).toNat = 0 by omega]
    exact crash_low w g gm v kv cap B d ks torn cut 0 rfl h0 hd hkv hs hw hn0 hn
  · by_cases h1 : cut ≤ 64
    · rw [show (min (max cut 0) 64).toNat = cut.toNat by omega]
      exact crash_mid w g gm v kv cap B d ks torn cut cut.toNat (by omega) (by omega) hd hkv hs hw hn0 hn
    · rw [show (min (max cut 0) 64).toNat = 64 by omega]
      exact crash_high w g gm v kv cap B d ks torn cut 64 rfl (by omega) hd hkv hs hw hn0 hn
set_option maxHeartbeats 800000 in
theorem crash_nil (w : World) (kv : Value) (torn cut : Int) :
    Calls Try.prog 25 #[.pointer none, kv, .int .i64 torn, .int .i64 cut] w fun e w' => e = .returned (.tuple #[]) ∧ w = w' := by
  go_enter Try.func25, Try.ntmps25
  go_wp2_with fail
  (try simp only [Exit.inBlock, Exit.then]); refine bodyPost_ret (results_none rfl _ _ _) rfl ?_
  exact ⟨rfl, rfl⟩
end Go.Proofs.Ytiighehibiijcaa

namespace Go.Proofs.Ytiighehibiijcaa
open Go.RowKit
set_option linter.unusedSimpArgs false
set_option linter.unnecessarySimpa false

/-- j bytes c, then zeros: 64 in all. -/
def rowC (c : UInt8) (j : Nat) : List UInt8 := List.replicate j c ++ List.replicate (64 - j) 0
theorem rowC_length (c : UInt8) {j : Nat} (h : j ≤ 64) : (rowC c j).length = 64 := by simp [rowC]; omega
theorem rowC_at (c : UInt8) {j : Nat} (h : j < 64) : (Lib.byteCells (rowC c j))[j]? = some (.int .u8 0) := by
  unfold rowC Lib.byteCells
  obtain ⟨m, hm⟩ : ∃ m, 64 - j = m + 1 := ⟨64 - j - 1, by omega⟩
  rw [hm]
  simp
theorem rowC_set (c : UInt8) {j : Nat} (h : j < 64) : (Lib.byteCells (rowC c j)).set j (.int .u8 c.toNat) = Lib.byteCells (rowC c (j + 1)) := by
  unfold rowC Lib.byteCells
  obtain ⟨m, hm⟩ : ∃ m, 64 - j = m + 1 := ⟨64 - j - 1, by omega⟩
  have hm2 : 64 - (j + 1) = m := by omega
  rw [hm, hm2, List.replicate_succ' (n := j)]
  simp [List.replicate_succ]
theorem row64_rowC (c : UInt8) : row64.toList = Lib.byteCells (rowC c 0) := by simp [row64, rowC, Lib.byteCells]
def secB (c : UInt8) : List UInt8 := List.replicate 64 c
theorem secB_length (c : UInt8) : (secB c).length = 64 := List.length_replicate

theorem run_str_own {P : Program} {w : World} {src dst e : TypeId} {base : Nat} {v : Value} {n : Nat} {l : List UInt8} (hs : P.underlying src = some (.slice e)) (he : P.underlying e = some (.int .u8)) (hd : P.underlying dst = some .string)
    (hown : w.ownsRow base e 1 v n (Lib.byteCells l)) : (convert src dst v).run P w = .ok (.string ⟨l.toArray⟩) w := by
  have hl : l.length = n := by have := hown.1; simpa [Lib.byteCells] using this
  rcases hown.2 with ⟨rfl, h0⟩ | ⟨g, cap, cur, rfl, hb, hg, hn, hc, hcs, htk⟩
  · have : l = [] := by cases l with
      | nil => rfl
      | cons a l => simp at hl; omega
    subst this
    exact Lib.run_convert_nil_bytes w src dst e 0 hs he hd
  · subst hl
    exact run_convert_bytes_back w src dst e ⟨g, 0, none⟩ cap l hs he hd (Lib.bytes_of_row hg (by simpa using htk))

set_option maxRecDepth 100000 in
set_option maxHeartbeats 800000 in
theorem sector_any (c : UInt8) (w : World) : Calls Try.prog 18 #[.int .u8 c.toNat] w fun e w' => e = .returned (str (secB c)) ∧ Below w.heap.size w w' := by
  have hmk := make64 w
  have HM := Lib.hid hmk
  clear hmk
  go_enter Try.func18, Try.ntmps18
  go_wp2_with (at_make; refine wpList_make_run rfl _ _ _ rfl rfl rfl HM.out ?_)
  have hown : (w.alloc (.cells row64 5)).ownsRow w.heap.size 5 1 (.slice (some ⟨w.heap.size, 0, none⟩) 64 64) 64 (Lib.byteCells (rowC c 0)) := by
    rw [← row64_rowC]
    exact World.ownsRow_lit w _ 64 (Nat.le_refl _) (by unfold maxLen; omega) (by simp [row64])
  have hn2 : Below w.heap.size w (w.alloc (.cells row64 5)) := (Below.refl _ _).alloc (Nat.le_refl _) _
  obtain ⟨g, hg⟩ : ∃ g, g = w.heap.size := ⟨_, rfl⟩
  rw [← hg] at hown ⊢
  have hgB : w.heap.size ≤ g := by omega
  clear HM hg
  go_loopw [4] (fun i wr => ∃ j : Nat, j ≤ 64 ∧ i = .int .i64 j ∧ wr.ownsRow g 5 1 (.slice (some ⟨g, 0, none⟩) 64 64) 64 (Lib.byteCells (rowC c j)) ∧ Below w.heap.size w wr)
    (fun i _ => 64 - (intOf i).toNat)
  case atStart => exact ⟨0, Nat.zero_le _, rfl, hown, hn2⟩
  case round =>
    obtain ⟨j, hj, rfl, hown, hnx⟩ := hrel
    have Hown := Lib.hid hown
    by_cases hlt : j < 64
    · have hc := hown.cellAt j (by omega)
      rw [rowC_at _ hlt] at hc
      have hf := hown.frozenAt j
      have hji : (j : Int) < 64 := by omega
      clear hown
      go_wp2
      go_roundw
      case rel => exact ⟨j + 1, by omega, by go_num, by have := (Hown.out.stored j (.int .u8 c.toNat)).1; rw [rowC_set _ hlt] at this; exact this, hnx.setCell hgB _⟩
      case measure => simp [intOf]; omega
    · obtain rfl : j = 64 := by omega
      have kc := run_str_own (P := Try.prog) (w := wr) (v := .slice (some ⟨g, 0, none⟩) 64 64) (src := 40) (dst := 9) Try.underlying40 Try.underlying5 Try.underlying9 hown
      clear hown
      go_wp2_with fail
      go_ret
      exact ⟨by simp [rowC, secB], hnx⟩
end Go.Proofs.Ytiighehibiijcaa

namespace Go.Proofs.Ytiighehibiijcaa
open Go.RowKit
set_option linter.unusedSimpArgs false
set_option linter.unnecessarySimpa false

theorem KeepIs.ofBlk {w : World} {g gm b : Nat} {v : Value} {cap B : Nat} {d : Dev} {ks : List Bool} {n c : Nat} (hd : IsDev w g gm v cap B d) (hb : Blk w b 4 (ks.map Value.bool).toArray) (hl : ks.length ≤ maxLen) (hn : n = ks.length) :
    KeepIs w g gm v (.slice (some ⟨b, 0, Option.none⟩) n c) ks := by
  subst hn
  refine ⟨hl, _, c, rfl, fun _ => ⟨b, 0, rfl, hb.lt, fun w' v' ht i hi => ?_⟩⟩
  have h := (hd.keep ht hb (by decide) (by decide)).cell (0 + i)
  rw [h]
  simp [hi]
theorem goes_free {d : Dev} (h : d.armed = false) : goesD d = true := by simp [goesD, h]
theorem ok_small {d : Dev} (h1 : d.left = 0) (h2 : 0 ≤ d.steps) (h3 : d.steps ≤ 1000000) (h4 : d.waits.length ≤ 1000000) : OkD d := ⟨by omega, by omega, h2, by omega, by omega⟩
def aw1 : Dev := ⟨4, fun _ => none, [(0, secB 97)], true, false, 0, 1⟩
def aw2 : Dev := ⟨4, fun _ => none, [(0, secB 97), (1, secB 98)], true, false, 0, 2⟩
def aw3 : Dev := crashD [false, true] (-1) (min (max (0 : Int) 0) 64).toNat aw2
theorem aw1_is : writeR (newD 4) 0 (secB 97) = aw1 := rfl
theorem aw2_is : writeR aw1 1 (secB 98) = aw2 := rfl
theorem aw1_e : writeE (newD 4) 0 (secB 97) = 0 := rfl
theorem aw2_e : writeE aw1 1 (secB 98) = 0 := rfl
theorem aw3_e0 : readE aw3 0 = 0 := rfl
theorem aw3_e1 : readE aw3 1 = 0 := rfl
theorem aw1_ok : OkD aw1 := ok_small rfl (by decide) (by decide) (by decide)
theorem aw0_ok : OkD (newD 4) := ok_small rfl (by decide) (by decide) (by decide)
theorem aw2_safe : SafeOk aw2 := fun k s h => by cases h
theorem aw2_n : aw2.n ≠ 0 := by decide
theorem aw3_wl : aw3.waits.length < 4611686018427 := by decide
theorem aw2_wl (n : Nat) (h : n ≤ 1000) : n + aw2.waits.length < 4611686018427 := by have : aw2.waits.length = 2 := rfl; omega
theorem aw3_0 : readS aw3 0 = secB 0 := rfl
theorem aw3_1 : readS aw3 1 = secB 98 := rfl
theorem aw2_wait : WaitOk aw2.n aw2.waits := by
  intro p hp
  simp only [aw2, List.mem_cons, List.not_mem_nil, or_false] at hp
  rcases hp with rfl | rfl
  · exact ⟨rfl, secB_length _, rfl⟩
  · exact ⟨rfl, secB_length _, rfl⟩

set_option maxRecDepth 100000 in
set_option maxHeartbeats 1600000 in
theorem awake06_any (w : World) : Calls Try.prog 15 #[] w fun e w' => e = .returned (.bool true) ∧ Below w.heap.size w w' := by
  go_enter Try.func15, Try.ntmps15
  go_wp2_with fail
  refine (new_any _ 4 (by omega) (by omega)).mono ?_
  rintro e w1 ⟨rfl, hd1, hb1⟩
  have z1 := hb1.size
  obtain ⟨g, hg⟩ : ∃ g, w.heap.size + 1 = g := ⟨_, rfl⟩
  obtain ⟨gm, hgm⟩ : ∃ gm, w.heap.size = gm := ⟨_, rfl⟩
  have T1 := Lib.hid (Touch.refl g gm w1 (.slice none 0 0))
  rw [hg] at hd1 ⊢
  have HD1 := Lib.hid hd1
  rw [hgm] at HD1
  clear hg hd1
  go_wp2_with fail
  refine (sector_any 97 _).mono ?_
  rintro e w2 ⟨rfl, hb2⟩
  have HD2 := Lib.hid (HD1.out.step hb2)
  have T2 := Lib.hid (T1.out.trans (Touch.of_below (v := .slice none 0 0) hb2))
  go_wp2_with fail
  refine (write_any _ g gm _ _ _ _ 0 (secB 97) HD2.out aw0_ok).mono ?_
  rw [aw1_is, aw1_e]
  rintro e w3 ⟨rfl, v3, hd3, t3⟩
  have HD3 := Lib.hid hd3
  have T3 := Lib.hid (T2.out.trans t3)
  clear hd3 t3
  go_wp2_with fail
  refine (sector_any 98 _).mono ?_
  rintro e w4 ⟨rfl, hb4⟩
  have HD4 := Lib.hid (HD3.out.step hb4)
  have T4 := Lib.hid (T3.out.trans (Touch.of_below (v := v3) hb4))
  go_wp2_with fail
  refine (write_any _ g gm _ _ _ _ 1 (secB 98) HD4.out aw1_ok).mono ?_
  rw [aw2_is, aw2_e]
  rintro e w5 ⟨rfl, v5, hd5, t5⟩
  have HD5 := Lib.hid (hd5.step ((Below.refl w5.heap.size w5).alloc (Nat.le_refl _) (.cells #[.bool false, .bool true] 4)))
  have T5 := Lib.hid ((T4.out.trans t5).trans (Touch.of_below (g := g) (gm := gm) (v := v5) ((Below.refl w5.heap.size w5).alloc (Nat.le_refl _) (.cells #[.bool false, .bool true] 4))))
  have K5 := Lib.hid (KeepIs.ofBlk (n := 2) (c := 2) (ks := [false, true]) HD5.out (Blk.new w5 4 #[.bool false, .bool true]) (by decide) rfl)
  clear hd5 t5
  go_wp2_with fail
  refine (crash_any _ g gm _ _ _ _ _ [false, true] (-1) 0 HD5.out K5.out aw2_safe aw2_wait aw2_n (aw2_wl 0 (by decide))).mono ?_
  rintro e w6 ⟨rfl, cap6, hc6, hd6, t6⟩
  have HD6 := Lib.hid (show IsDev w6 g gm (.slice none 0 0) cap6 _ aw3 from hd6)
  have T6 := Lib.hid (T5.out.trans t6)
  clear hd6 t6
  go_wp2_with fail
  refine (read_any _ g gm _ _ _ _ 0 HD6.out rfl aw3_wl).mono ?_
  rw [aw3_0, aw3_e0]
  rintro e w7 ⟨rfl, hb7⟩
  have HD7 := Lib.hid (HD6.out.step hb7)
  have T7 := Lib.hid (T6.out.trans (Touch.of_below (g := g) (gm := gm) (v := .slice none 0 0) hb7))
  go_wp2_with fail
  refine (read_any _ g gm _ _ _ _ 1 HD7.out rfl aw3_wl).mono ?_
  rw [aw3_1, aw3_e1]
  rintro e w8 ⟨rfl, hb8⟩
  have T8 := Lib.hid (T7.out.trans (Touch.of_below (g := g) (gm := gm) (v := .slice none 0 0) hb8))
  go_wp2_with fail
  refine (sector_any 0 _).mono ?_
  rintro e w9 ⟨rfl, hb9⟩
  have T9 := Lib.hid (T8.out.trans (Touch.of_below (g := g) (gm := gm) (v := .slice none 0 0) hb9))
  go_wp2_with fail
  refine (sector_any 98 _).mono ?_
  rintro e w10 ⟨rfl, hb10⟩
  have T10 := Lib.hid (T9.out.trans (Touch.of_below (g := g) (gm := gm) (v := .slice none 0 0) hb10))
  go_wp2_with fail
  go_ret
  exact ⟨rfl, hb1.trans (by rw [hgm]; exact HD1.out.below T10.out (Nat.le_refl _) (by rw [← hgm]; exact z1))⟩
end Go.Proofs.Ytiighehibiijcaa

namespace Go.Proofs.Ytiighehibiijcaa
open Go.RowKit

def ArmI (k i : Nat) (d : Dev) : Prop := d.n = 4 ∧ d.on = true ∧ d.armed = true ∧ d.left = (k : Int) - i ∧ d.steps = i ∧ WaitOk 4 d.waits ∧ d.waits.length ≤ i ∧ SafeOk d
theorem keepAll_fields : ∀ (l : List (Int × List UInt8)) (d : Dev), (keepAll d l).n = d.n ∧ (keepAll d l).on = d.on ∧ (keepAll d l).armed = d.armed ∧ (keepAll d l).left = d.left ∧ (keepAll d l).steps = d.steps := by
  intro l
  induction l with
  | nil => intro d; exact ⟨rfl, rfl, rfl, rfl, rfl⟩
  | cons p l ih => intro d; exact ih (keepD d p.1 p.2)
theorem WaitOk.weak {n : Int} {l : List (Int × List UInt8)} (h : WaitOk n l) : WaitsOk l := fun p hp => ⟨(h p hp).1, by have := (h p hp).2.1; omega⟩
theorem keepAll_safe {n : Int} : ∀ (l : List (Int × List UInt8)) (d : Dev), WaitOk n l → SafeOk d → SafeOk (keepAll d l) := by
  intro l
  induction l with
  | nil => intro d _ h; exact h
  | cons p l ih => intro d hw h; exact ih (keepD d p.1 p.2) (fun q hq => hw q (by simp [hq])) (h.keep _ (hw p (by simp)).2.1)
theorem ArmI.start (k : Nat) : ArmI k 0 (armD (newD 4) k) := by
  refine ⟨rfl, rfl, rfl, ?_, rfl, by intro p hp; simp [armD, newD] at hp, Nat.le_refl _, fun k s h => by cases h⟩
  show max (k : Int) 0 = _
  omega
theorem ArmI.ok {k i : Nat} {d : Dev} (h : ArmI k i d) (hi : i ≤ k) (hk : k ≤ 31) : OkD d := by
  obtain ⟨h1, h2, h3, h4, h5, h6, h7, h8⟩ := h
  exact ⟨by omega, by omega, by omega, by omega, by omega⟩
theorem ArmI.goes {k i : Nat} {d : Dev} (h : ArmI k i d) (hi : i < k) : goesD d = true := by
  have := h.2.2.2.1
  have hne : ¬ d.left = 0 := by omega
  simp [goesD, hne]
theorem ArmI.stops {k : Nat} {d : Dev} (h : ArmI k k d) : goesD d = false := by
  have := h.2.2.2.1
  have he : d.left = 0 := by omega
  simp [goesD, he, h.2.2.1]
theorem ArmI.flush {k i : Nat} {d : Dev} (h : ArmI k i d) (hi : i < k) : flushE d = 0 ∧ ArmI k (i + 1) (flushR d) := by
  have hg := h.goes hi
  obtain ⟨h1, h2, h3, h4, h5, h6, h7, h8⟩ := h
  refine ⟨by simp [flushE, h2, hg], ?_⟩
  obtain ⟨f1, f2, f3, f4, f5⟩ := keepAll_fields (stepD d).waits (stepD d)
  unfold flushR fluD flushD
  rw [h2, hg]
  simp only [if_true]
  refine ⟨f1.trans ?_, f2.trans ?_, f3.trans ?_, f4.trans ?_, f5.trans ?_, by intro p hp; simp at hp, Nat.zero_le _, keepAll_safe (n := 4) _ _ (by unfold stepD; rw [h3]; exact h6) (by unfold stepD; rw [h3]; exact h8)⟩
  all_goals simp only [stepD, h3, if_true, h1, h2, h4, h5]
  · omega
  · omega
theorem ArmI.write {k i : Nat} {d : Dev} {s : List UInt8} {j : Int} (h : ArmI k i d) (hi : i < k) (hs : s.length = 64) (hj : hasD 4 j = true) (hw : (Lit.int .i64 j).wf = true) : writeE d j s = 0 ∧ ArmI k (i + 1) (writeR d j s) := by
  have hg := h.goes hi
  obtain ⟨h1, h2, h3, h4, h5, h6, h7, h8⟩ := h
  refine ⟨by simp [writeE, h1, h2, hj, hs, hg], ?_⟩
  unfold writeR writeD
  rw [h2, h1, hj, hg]
  simp only [if_true, hs]
  refine ⟨?_, ?_, ?_, ?_, ?_, ?_, ?_, by unfold stepD; rw [h3]; exact h8⟩
  all_goals simp only [stepD, h3, if_true, h1, h2, h4, h5, List.length_append, List.length_cons, List.length_nil]
  · omega
  · omega
  · intro p hp
    rcases List.mem_append.1 hp with hp | hp
    · exact h6 p hp
    · simp only [List.mem_cons, List.not_mem_nil, or_false] at hp
      subst hp
      exact ⟨hw, hs, hj⟩
  · omega
end Go.Proofs.Ytiighehibiijcaa

namespace Go.Proofs.Ytiighehibiijcaa
open Go.RowKit
set_option linter.unusedSimpArgs false

theorem safeD_keep (d : Dev) (k : Int) (s : List UInt8) (j : Int) : safeD (keepD d k s) j = if j = k then s else safeD d j := by
  unfold safeD keepD
  simp only []
  by_cases hz : (s == zero64) = true
  · rw [if_pos hz]
    unfold delF setF
    by_cases hj : j = k
    · rw [if_pos hj, if_pos hj]
      exact (eq_of_beq hz).symm
    · rw [if_neg hj, if_neg hj, if_neg hj]
  · rw [if_neg hz]
    unfold setF
    by_cases hj : j = k
    · rw [if_pos hj, if_pos hj]; rfl
    · rw [if_neg hj, if_neg hj]
theorem safeD_same {d d' : Dev} (h : d'.safe = d.safe) (j : Int) : safeD d' j = safeD d j := by unfold safeD; rw [h]
theorem lastW_append (j : Int) : ∀ (l m : List (Int × List UInt8)), lastW j (l ++ m) = (lastW j m).or (lastW j l) := by
  intro l
  induction l with
  | nil => intro m; simp [lastW]
  | cons p l ih =>
    intro m
    simp only [List.cons_append, lastW, ih]
    rw [Option.or_assoc]
theorem lastW_push (j k : Int) (s : List UInt8) (l : List (Int × List UInt8)) : lastW j (l ++ [(k, s)]) = if k = j then some s else lastW j l := by
  rw [lastW_append]
  simp only [lastW]
  by_cases h : k = j
  · simp [h]
  · simp [h]
theorem safeD_keepAll (j : Int) : ∀ (l : List (Int × List UInt8)) (d : Dev), safeD (keepAll d l) j = (lastW j l).getD (safeD d j) := by
  intro l
  induction l with
  | nil => intro d; rfl
  | cons p l ih =>
    intro d
    show safeD (keepAll (keepD d p.1 p.2) l) j = _
    rw [ih, safeD_keep]
    simp only [lastW]
    rcases lastW j l with _ | s
    · by_cases h : j = p.1
      · simp [h]
      · rw [if_neg h, if_neg (fun e => h e.symm)]; rfl
    · rfl
theorem keepAll_safeOk {d : Dev} {n : Int} (hs : SafeOk d) {l : List (Int × List UInt8)} (hw : WaitOk n l) : SafeOk (keepAll d l) := keepAll_safe l d hw hs

/-! A device that is on, and goes. -/
theorem writeR_on {d : Dev} {k : Int} {s : List UInt8} (h1 : d.on = true) (h2 : hasD d.n k = true) (h3 : s.length = 64) : writeR d k s = writeD d k s := by simp [writeR, h1, h2, h3]
theorem stepD_safe (d : Dev) : (stepD d).safe = d.safe := by unfold stepD; split <;> rfl
theorem stepD_waits (d : Dev) : (stepD d).waits = d.waits := by unfold stepD; split <;> rfl
theorem stepD_n (d : Dev) : (stepD d).n = d.n := by unfold stepD; split <;> rfl
theorem stepD_on (d : Dev) : (stepD d).on = d.on := by unfold stepD; split <;> rfl
theorem writeD_safe (d : Dev) (k : Int) (s : List UInt8) : (writeD d k s).safe = d.safe := by
  unfold writeD
  simp only []
  split
  · exact stepD_safe d
  · rfl
theorem writeD_waits (d : Dev) (k : Int) (s : List UInt8) : (writeD d k s).waits = d.waits ++ [(k, s)] := rfl
theorem readD_write (d : Dev) (k j : Int) (s : List UInt8) : readD (writeD d k s) j = if k = j then s else readD d j := by
  unfold readD
  rw [writeD_waits, lastW_push, safeD_same (writeD_safe d k s)]
  split <;> rfl
theorem flushD_safeD (d : Dev) (j : Int) : safeD (flushD (stepD d)) j = readD d j := by
  have h : safeD (flushD (stepD d)) j = safeD (keepAll (stepD d) (stepD d).waits) j := safeD_same rfl j
  rw [h, safeD_keepAll, stepD_waits, safeD_same (stepD_safe d)]
  rfl
theorem flushD_readD (d : Dev) (j : Int) : readD (flushD (stepD d)) j = readD d j := by
  conv => lhs; unfold readD
  rw [flushD_safeD]
  rfl

/-- A device that is on and not armed: so many steps at most, so many that wait at most. -/
def OnD (n : Int) (i j : Nat) (d : Dev) : Prop := d.n = n ∧ d.on = true ∧ d.armed = false ∧ d.left = 0 ∧ 0 ≤ d.steps ∧ d.steps ≤ i ∧ d.waits.length ≤ j ∧ WaitOk n d.waits ∧ SafeOk d
theorem OnD.new (n : Int) : OnD n 0 0 (newD n) := ⟨rfl, rfl, rfl, rfl, Int.le_refl _, Int.le_refl _, Nat.le_refl _, (by intro p hp; cases hp), fun k s h => by cases h⟩
theorem OnD.ok {n : Int} {i j : Nat} {d : Dev} (h : OnD n i j d) (hi : i ≤ 1000000) (hj : j ≤ 1000000) : OkD d := by
  obtain ⟨-, -, -, h4, h5, h6, h7, -, -⟩ := h
  exact ok_small h4 h5 (by omega) (by omega)
theorem OnD.goes {n : Int} {i j : Nat} {d : Dev} (h : OnD n i j d) : goesD d = true := goes_free h.2.2.1
theorem OnD.writeE {n : Int} {i j : Nat} {d : Dev} {k : Int} {s : List UInt8} (h : OnD n i j d) (hk : hasD n k = true) (hs : s.length = 64) : writeE d k s = 0 := by
  unfold Go.Proofs.Ytiighehibiijcaa.writeE
  rw [h.2.1, h.1, hk, h.goes]
  simp [hs]
theorem OnD.write {n : Int} {i j : Nat} {d : Dev} {k : Int} {s : List UInt8} (h : OnD n i j d) (hk : hasD n k = true) (hw : (Lit.int .i64 k).wf = true) (hs : s.length = 64) :
    OnD n (i + 1) (j + 1) (writeR d k s) ∧ (∀ q, readD (writeR d k s) q = if k = q then s else readD d q) ∧ ∀ q, safeD (writeR d k s) q = safeD d q := by
  have hg := h.goes
  obtain ⟨h1, h2, h3, h4, h5, h6, h7, h8, h9⟩ := h
  rw [writeR_on h2 (by rw [h1]; exact hk) hs]
  refine ⟨?_, fun q => readD_write d k q s, safeD_same (writeD_safe d k s)⟩
  have hw2 : WaitOk n (d.waits ++ [(k, s)]) := by
    intro p hp
    rcases List.mem_append.1 hp with hp | hp
    · exact h8 p hp
    · simp only [List.mem_cons, List.not_mem_nil, or_false] at hp
      subst hp
      exact ⟨hw, hs, hk⟩
  have hst : stepD d = { d with steps := d.steps + 1 } := by simp [stepD, h3]
  have hwr : writeD d k s = { d with steps := d.steps + 1, waits := d.waits ++ [(k, s)] } := by unfold writeD; rw [hg, if_pos rfl, hst]
  rw [hwr]
  exact ⟨h1, h2, h3, h4, by simp only []; omega, by simp only []; omega, by simp; omega, hw2, h9⟩
theorem OnD.flushE {n : Int} {i j : Nat} {d : Dev} (h : OnD n i j d) : flushE d = 0 := by
  unfold Go.Proofs.Ytiighehibiijcaa.flushE
  rw [h.2.1, h.goes]
  rfl
theorem OnD.flush {n : Int} {i j : Nat} {d : Dev} (h : OnD n i j d) :
    OnD n (i + 1) 0 (flushR d) ∧ (∀ q, readD (flushR d) q = readD d q) ∧ (∀ q, safeD (flushR d) q = readD d q) ∧ (flushR d).waits = [] := by
  have hg := h.goes
  obtain ⟨h1, h2, h3, h4, h5, h6, h7, h8, h9⟩ := h
  have hf : flushR d = flushD (stepD d) := by simp [flushR, fluD, h2, hg]
  rw [hf]
  refine ⟨?_, flushD_readD d, flushD_safeD d, rfl⟩
  obtain ⟨f1, f2, f3, f4, f5⟩ := keepAll_fields (stepD d).waits (stepD d)
  have hst : stepD d = { d with steps := d.steps + 1 } := by simp [stepD, h3]
  have hs9 : SafeOk (keepAll (stepD d) (stepD d).waits) := keepAll_safe (n := n) _ _ (by rw [stepD_waits]; exact h8) (fun k s hk => h9 k s (by rw [← stepD_safe]; exact hk))
  unfold flushD
  refine ⟨f1.trans ?_, f2.trans ?_, f3.trans ?_, f4.trans ?_, ?_, ?_, Nat.le_refl _, (by intro p hp; cases hp), hs9⟩
  · rw [hst]; exact h1
  · rw [hst]; exact h2
  · rw [hst]; exact h3
  · rw [hst]; exact h4
  · simp only []; rw [f5, hst]; simp only []; omega
  · simp only []; rw [f5, hst]; simp only []; omega
theorem OnD.read {n : Int} {i j : Nat} {d : Dev} {k : Int} (h : OnD n i j d) (hk : hasD n k = true) : readE d k = 0 ∧ readS d k = readD d k := by
  unfold readE readS
  rw [h.2.1, h.1, hk]
  exact ⟨rfl, rfl⟩
theorem OnD.weak {n : Int} {i j i' j' : Nat} {d : Dev} (h : OnD n i j d) (hi : i ≤ i') (hj : j ≤ j') : OnD n i' j' d := by
  obtain ⟨h1, h2, h3, h4, h5, h6, h7, h8, h9⟩ := h
  exact ⟨h1, h2, h3, h4, h5, by omega, by omega, h8, h9⟩

/-! Behind a crash. -/
theorem crashN_none {ks : List Bool} {torn : Int} {cc : Nat} {d : Dev} {l : List (Int × List UInt8)} {k : Int} : ∀ i, (∀ p ∈ l.take i, p.1 ≠ k) → safeD (crashN ks torn cc d l i) k = safeD d k := by
  intro i
  induction i with
  | zero => intro _; rfl
  | succ i ih =>
    intro h
    unfold crashN
    split
    · rename_i p hp
      have hlt : i < l.length := (List.getElem?_eq_some_iff.1 hp).1
      have hpe : l[i] = p := (List.getElem?_eq_some_iff.1 hp).2
      have h0 : ∀ q ∈ l.take i, q.1 ≠ k := fun q hq => h q (by rw [List.take_add_one]; exact List.mem_append_left _ hq)
      have h1 : p.1 ≠ k := h p (by rw [List.take_add_one, hp]; simp)
      unfold crash1
      split
      · rw [safeD_keep, if_neg (fun e => h1 e.symm)]
        exact ih h0
      · exact ih h0
    · exact ih (fun q hq => h q (by rw [List.take_add_one]; exact List.mem_append_left _ hq))
/-- What a sector is behind a crash: as it was, or as one that waited for it, or that one's beginning over what it was when its turn came. -/
theorem crash_safeD (ks : List Bool) (torn : Int) (cc : Nat) (d : Dev) (k : Int) : safeD (crashD ks torn cc d) k = safeD (crashN ks torn cc d d.waits d.waits.length) k := safeD_same rfl k
end Go.Proofs.Ytiighehibiijcaa

namespace Go.Proofs.Ytiighehibiijcaa
open Go.RowKit
set_option linter.unusedSimpArgs false

/-- What waits: of the first k sectors those whose byte is not 0. -/
def waitsG (G : Nat → UInt8) : Nat → List (Int × List UInt8)
  | 0 => []
  | k + 1 => waitsG G k ++ (if G k = 0 then [] else [((k : Int), secB (G k))])
theorem waitsG_mem {G : Nat → UInt8} : ∀ {k : Nat} {p : Int × List UInt8}, p ∈ waitsG G k → ∃ i : Nat, i < k ∧ p = ((i : Int), secB (G i)) ∧ G i ≠ 0 := by
  intro k
  induction k with
  | zero => intro p hp; cases hp
  | succ k ih =>
    intro p hp
    rcases List.mem_append.1 hp with h | h
    · obtain ⟨i, h1, h2⟩ := ih h
      exact ⟨i, by omega, h2⟩
    · split at h
      · cases h
      · simp only [List.mem_cons, List.not_mem_nil, or_false] at h
        exact ⟨k, by omega, h, by assumption⟩
theorem waitsG_apart (G : Nat → UInt8) : ∀ k, (waitsG G k).Pairwise (fun a b => a.1 ≠ b.1) := by
  intro k
  induction k with
  | zero => exact List.Pairwise.nil
  | succ k ih =>
    refine List.pairwise_append.2 ⟨ih, ?_, ?_⟩
    · split
      · exact List.Pairwise.nil
      · exact List.pairwise_singleton _ _
    · intro a ha b hb
      obtain ⟨i, h1, rfl, -⟩ := waitsG_mem ha
      split at hb
      · cases hb
      · simp only [List.mem_cons, List.not_mem_nil, or_false] at hb
        subst hb
        simp only []
        omega
theorem waitsG_length (G : Nat → UInt8) : ∀ k, (waitsG G k).length ≤ k := by
  intro k
  induction k with
  | zero => exact Nat.le_refl _
  | succ k ih =>
    unfold waitsG
    rw [List.length_append]
    split
    · simp; omega
    · simp; omega
/-- Behind i of what waits: a sector is as it was, or begins as one that waited for it. -/
theorem crash_cases {ks : List Bool} {torn : Int} {cc : Nat} (hcc : cc ≤ 64) {d : Dev} {l : List (Int × List UInt8)} (hp : l.Pairwise (fun a b => a.1 ≠ b.1)) (hl : ∀ p ∈ l, p.2.length = 64) (hs : SafeOk d) :
    ∀ i, i ≤ l.length → ∀ q, safeD (crashN ks torn cc d l i) q = safeD d q ∨ ∃ p ∈ l, p.1 = q ∧ ∃ c, c ≤ 64 ∧ safeD (crashN ks torn cc d l i) q = p.2.take c ++ (safeD d q).drop c := by
  intro i
  induction i with
  | zero => intro _ q; exact .inl rfl
  | succ i ih =>
    intro hi q
    have hlt : i < l.length := by omega
    obtain ⟨p, hpe⟩ : ∃ p, l[i]? = some p := ⟨_, List.getElem?_eq_getElem hlt⟩
    have hpm : p ∈ l := List.mem_of_getElem? hpe
    rw [crashN_succ hpe]
    unfold crash1
    split
    · rw [safeD_keep]
      by_cases hq : q = p.1
      · subst hq
        rw [if_pos rfl]
        refine .inr ⟨p, hpm, rfl, ?_⟩
        have hno : safeD (crashN ks torn cc d l i) p.1 = safeD d p.1 := by
          refine crashN_none i fun p' hp' => ?_
          obtain ⟨j, hj, hje⟩ := List.mem_iff_getElem.1 hp'
          have hjl : j < i := by simpa using Nat.lt_of_lt_of_le hj (by simp; omega)
          have h1 : l[j]'(by omega) = p' := by rw [← hje, List.getElem_take]
          have h2 : l[i] = p := (List.getElem?_eq_some_iff.1 hpe).2
          rw [← h1, ← h2]
          exact List.pairwise_iff_getElem.1 hp j i (by omega) hlt hjl
        split
        · exact ⟨cc, hcc, by unfold tornS; rw [hno]⟩
        · refine ⟨64, Nat.le_refl _, ?_⟩
          rw [List.take_of_length_le (by rw [hl p hpm]; omega), List.drop_eq_nil_of_le (by rw [hs.safeD]; omega), List.append_nil]
      · rw [if_neg hq]
        exact ih (by omega) q
    · exact ih (by omega) q
/-- c bytes of the one, then the other one's: 64 in all. -/
def mixB (a b : UInt8) (c : Nat) : List UInt8 := List.replicate c a ++ List.replicate (64 - c) b
theorem mixB_length {a b : UInt8} {c : Nat} (h : c ≤ 64) : (mixB a b c).length = 64 := by simp [mixB]; omega
theorem mixB_zero (a b : UInt8) : mixB a b 0 = secB b := by simp [mixB, secB]
theorem mixB_at {a b : UInt8} {c k : Nat} (hc : c ≤ 64) (hk : k < 64) : (mixB a b c)[k]'(by rw [mixB_length hc]; exact hk) = if k < c then a else b := by
  unfold mixB
  split
  · rename_i h
    rw [List.getElem_append_left (by simpa using h), List.getElem_replicate]
  · rename_i h
    rw [List.getElem_append_right (by simpa using Nat.le_of_not_lt h), List.getElem_replicate]
theorem mix_of {a b : UInt8} {c : Nat} (hc : c ≤ 64) : (secB a).take c ++ (secB b).drop c = mixB a b c := by
  unfold secB mixB
  rw [List.take_replicate, List.drop_replicate, Nat.min_eq_left hc]
theorem safe_mix {G old : Nat → UInt8} {k : Nat} {ks : List Bool} {torn : Int} {cc : Nat} (hcc : cc ≤ 64) {d : Dev} (hw : d.waits = waitsG G k) (hs : SafeOk d) (hold : ∀ q : Nat, q < 8 → safeD d q = secB (old q)) {q : Nat} (hq : q < 8) :
    ∃ c, c ≤ 64 ∧ safeD (crashD ks torn cc d) q = mixB (if q < k then G q else 0) (old q) c ∧ ((if q < k then G q else 0) = 0 → c = 0) := by
  rw [crash_safeD, hw]
  rcases crash_cases (ks := ks) (torn := torn) hcc (waitsG_apart G k) (fun p hp => by obtain ⟨i, -, rfl, -⟩ := waitsG_mem hp; exact secB_length _) hs _ (Nat.le_refl _) (q : Int) with h | ⟨p, hp, hpq, c, hc, h⟩
  · exact ⟨0, Nat.zero_le _, by rw [h, hold q hq, mixB_zero], fun _ => rfl⟩
  · obtain ⟨i, hi, rfl, hg⟩ := waitsG_mem hp
    have hiq : i = q := by simp only [] at hpq; omega
    subst hiq
    refine ⟨c, hc, ?_, fun e => ?_⟩
    · rw [h, hold i hq, if_pos hi]
      exact mix_of hc
    · rw [if_pos hi] at e
      exact absurd e hg
theorem OnD.crash {n : Int} {i j : Nat} {d : Dev} (h : OnD n i j d) (ks : List Bool) (torn : Int) {cc : Nat} (hcc : cc ≤ 64) : OnD n i 0 (crashD ks torn cc d) := by
  obtain ⟨h1, h2, h3, h4, h5, h6, h7, h8, h9⟩ := h
  obtain ⟨a1, a2, a3, a4⟩ := crashN_n ks torn cc d d.waits d.waits.length
  have hs := crashN_safe (ks := ks) (torn := torn) h9 hcc (h1 ▸ h8) d.waits.length
  exact ⟨a1.trans h1, rfl, rfl, a3.trans h4, by show 0 ≤ (crashN ks torn cc d d.waits d.waits.length).steps; rw [a4]; exact h5, by show (crashN ks torn cc d d.waits d.waits.length).steps ≤ _; rw [a4]; exact h6, Nat.le_refl _, (by intro p hp; cases hp), hs⟩
theorem crashD_readD (ks : List Bool) (torn : Int) (cc : Nat) (d : Dev) (q : Int) : readD (crashD ks torn cc d) q = safeD (crashD ks torn cc d) q := rfl
end Go.Proofs.Ytiighehibiijcaa

namespace Go.Proofs.Ytiighehibiijcaa
open Go.RowKit
set_option linter.unusedSimpArgs false
set_option linter.unnecessarySimpa false
set_option linter.unusedVariables false

/-- A device as a script finds it: j calls at most. -/
def OkP (n : Int) (j : Nat) (d : Dev) : Prop := d.n = n ∧ 0 ≤ d.left ∧ d.left ≤ 100 ∧ 0 ≤ d.steps ∧ d.steps ≤ j ∧ d.waits.length ≤ j ∧ WaitOk n d.waits ∧ SafeOk d
section
variable {n : Int} {j : Nat} {d : Dev}
theorem OkP.new (n : Int) : OkP n 0 (newD n) := ⟨rfl, Int.le_refl _, by show (0 : Int) ≤ 100; decide, Int.le_refl _, Int.le_refl _, Nat.le_refl _, (by intro p hp; cases hp), fun k s h => by cases h⟩
theorem OkP.ok (h : OkP n j d) (hj : j ≤ 1000000) : OkD d := by
  obtain ⟨-, h2, h3, h4, h5, h6, -, -⟩ := h
  exact ⟨h2, by omega, h4, by omega, by omega⟩
theorem OkP.more (h : OkP n j d) : OkP n (j + 1) d := by
  obtain ⟨h1, h2, h3, h4, h5, h6, h7, h8⟩ := h
  exact ⟨h1, h2, h3, h4, by omega, by omega, h7, h8⟩
theorem step_bounds (h : OkP n j d) (hg : goesD d = true) : OkP n (j + 1) (stepD d) := by
  obtain ⟨h1, h2, h3, h4, h5, h6, h7, h8⟩ := h
  refine ⟨(stepD_n d).trans h1, ?_, ?_, ?_, ?_, by rw [stepD_waits]; omega, by rw [stepD_waits]; exact h7, fun k s hk => h8 k s (by rw [← stepD_safe]; exact hk)⟩
  all_goals unfold stepD
  all_goals split
  all_goals simp only []
  · rename_i ha
    simp [goesD, ha] at hg
    omega
  · omega
  · omega
  · omega
  · omega
  · omega
  · omega
  · omega
theorem OkP.off (h : OkP n j d) : OkP n (j + 1) { d with on := false } := by
  obtain ⟨h1, h2, h3, h4, h5, h6, h7, h8⟩ := h
  exact ⟨h1, h2, h3, h4, by simp only []; omega, by simp only []; omega, h7, h8⟩
theorem OkP.push (h : OkP n (j + 1) d) {k : Int} {s : List UInt8} (hl : d.waits.length ≤ j) (hk : hasD n k = true) (hw : (Lit.int .i64 k).wf = true) (hs : s.length = 64) : OkP n (j + 1) { d with waits := d.waits ++ [(k, s)] } := by
  obtain ⟨h1, h2, h3, h4, h5, h6, h7, h8⟩ := h
  refine ⟨h1, h2, h3, h4, h5, by simp; omega, ?_, h8⟩
  intro p hp
  rcases List.mem_append.1 hp with hp | hp
  · exact h7 p hp
  · simp only [List.mem_cons, List.not_mem_nil, or_false] at hp
    subst hp
    exact ⟨hw, hs, hk⟩
theorem OkP.write (h : OkP n j d) {k : Int} {s : List UInt8} (hw : (Lit.int .i64 k).wf = true) : OkP n (j + 1) (writeR d k s) := by
  unfold writeR
  split
  · split
    · rename_i hk
      split
      · rename_i hs
        unfold writeD
        rcases hg : goesD d with _ | _
        · exact (h.off).push (d := { d with on := false }) h.2.2.2.2.2.1 (h.1 ▸ hk) hw hs
        · have h2 := (step_bounds h hg).push (k := k) (s := s) (by rw [stepD_waits]; exact h.2.2.2.2.2.1) (h.1 ▸ hk) hw hs
          rw [stepD_waits] at h2
          exact h2
      · exact h.more
    · exact h.more
  · exact h.more
theorem OkP.flush (h : OkP n j d) : OkP n (j + 1) (flushR d) := by
  unfold flushR
  split
  · unfold fluD
    split
    · rename_i hg
      obtain ⟨h1, h2, h3, h4, h5, h6, h7, h8⟩ := step_bounds h hg
      obtain ⟨f1, f2, f3, f4, f5⟩ := keepAll_fields (stepD d).waits (stepD d)
      unfold flushD
      exact ⟨f1.trans h1, by simp only []; rw [f4]; exact h2, by simp only []; rw [f4]; exact h3, by simp only []; rw [f5]; exact h4, by simp only []; rw [f5]; exact h5, by simp, (by intro p hp; cases hp), keepAll_safe (n := n) _ _ h7 h8⟩
    · exact h.off
  · exact h.more
theorem OkP.arm (h : OkP n j d) {k : Int} (hk : k ≤ 100) : OkP n (j + 1) (armD d k) := by
  obtain ⟨h1, h2, h3, h4, h5, h6, h7, h8⟩ := h
  exact ⟨h1, by simp only [armD]; omega, by simp only [armD]; omega, h4, by simp only [armD]; omega, by simp only [armD]; omega, h7, h8⟩
theorem OkP.crash (h : OkP n j d) (ks : List Bool) (torn : Int) {cc : Nat} (hcc : cc ≤ 64) : OkP n (j + 1) (crashD ks torn cc d) := by
  obtain ⟨h1, h2, h3, h4, h5, h6, h7, h8⟩ := h
  obtain ⟨a1, a2, a3, a4⟩ := crashN_n ks torn cc d d.waits d.waits.length
  have hs := crashN_safe (ks := ks) (torn := torn) h8 hcc (h1 ▸ h7) d.waits.length
  exact ⟨a1.trans h1, by show 0 ≤ (crashN ks torn cc d d.waits d.waits.length).left; rw [a3]; exact h2, by show (crashN ks torn cc d d.waits d.waits.length).left ≤ 100; rw [a3]; exact h3, by show 0 ≤ (crashN ks torn cc d d.waits d.waits.length).steps; rw [a4]; exact h4, by show (crashN ks torn cc d d.waits d.waits.length).steps ≤ _; rw [a4]; omega, Nat.zero_le _, (by intro p hp; cases hp), hs⟩
end
end Go.Proofs.Ytiighehibiijcaa

namespace Go.Proofs.Ytiighehibiijcaa
open Go.RowKit
set_option linter.unusedSimpArgs false
set_option linter.unnecessarySimpa false
set_option linter.unusedVariables false

/-- Byte number r (the least first) of a number that is not below 0. -/
def byteR (n : Int) (r : Nat) : UInt8 := byt (max n 0 / 2 ^ (8 * r) % 256)
/-- What a sector holds when the numbers ahead of i, and the k least bytes of that one, are laid. -/
def packAt (ns : Nat → Int) (i k p : Nat) : UInt8 := if p / 8 < i ∨ (p / 8 = i ∧ 7 - p % 8 < k) then byteR (ns (p / 8)) (7 - p % 8) else 0
def packL (ns : Nat → Int) (i k : Nat) : List UInt8 := (List.range 64).map (packAt ns i k)
theorem packL_length (ns : Nat → Int) (i k : Nat) : (packL ns i k).length = 64 := by simp [packL]
theorem packL_at (ns : Nat → Int) (i k : Nat) {p : Nat} (hp : p < (packL ns i k).length) : (packL ns i k)[p] = packAt ns i k p := by simp [packL]
theorem packL_set (ns : Nat → Int) {i k : Nat} (hi : i < 3) (hk : k < 8) : (packL ns i k).set ((i + 1) * 8 - 1 - k) (byteR (ns i) k) = packL ns i (k + 1) := by
  refine List.ext_getElem (by simp [packL_length]) fun p h1 h2 => ?_
  rw [List.getElem_set, packL_at ns i (k + 1) h2]
  have hp : p < 64 := by simpa [packL_length] using h2
  by_cases e : (i + 1) * 8 - 1 - k = p
  · rw [if_pos e]
    unfold packAt
    have e1 : p / 8 = i := by omega
    have e2 : 7 - p % 8 = k := by omega
    rw [e1, e2, if_pos (by omega)]
  · rw [if_neg e, packL_at]
    unfold packAt
    by_cases c : p / 8 < i ∨ (p / 8 = i ∧ 7 - p % 8 < k)
    · rw [if_pos c, if_pos (by omega)]
    · rw [if_neg c, if_neg (by omega)]
theorem packL_next (ns : Nat → Int) (i : Nat) : packL ns i 8 = packL ns (i + 1) 0 := by
  unfold packL
  refine List.map_congr_left fun p _ => ?_
  unfold packAt
  by_cases c : p / 8 < i ∨ (p / 8 = i ∧ 7 - p % 8 < 8)
  · rw [if_pos c, if_pos (by omega)]
  · rw [if_neg c, if_neg (by omega)]
theorem packL_zero (ns : Nat → Int) : packL ns 0 0 = zero64 := by
  refine List.ext_getElem (by simp [packL_length, zero64_length]) fun p h1 h2 => ?_
  rw [packL_at]
  unfold packAt
  rw [if_neg (by omega)]
  exact (List.getElem_replicate (a := (0 : UInt8)) (n := 64) h2).symm
theorem byteR_if (n : Int) (k : Nat) : (if n < 0 then 0 else n) / 2 ^ (8 * k) % 256 = ((byteR n k).toNat : Int) := by
  have hm : (if n < 0 then 0 else n) = max n 0 := by split <;> omega
  rw [hm]
  unfold byteR
  rw [byt_toNat]
  · exact Int.emod_nonneg _ (by decide)
  · have := Int.emod_lt_of_pos (max n 0 / 2 ^ (8 * k)) (show (0 : Int) < 256 by decide)
    omega
/-- A row of bytes in a block. -/
def rowB (l : List UInt8) : Array Value := (Lib.byteCells l).toArray
theorem rowB_get {l : List UInt8} {p : Nat} (hp : p < l.length) : (rowB l)[p]? = some (.int .u8 l[p].toNat) := by simp [rowB, Lib.byteCells, hp]
theorem rowB_set {l : List UInt8} (p : Nat) (c : UInt8) : (rowB l).setIfInBounds p (.int .u8 c.toNat) = rowB (l.set p c) := by simp [rowB, Lib.byteCells, List.map_set]
def markN (e b c : Int) : Nat → Int := fun i => if i = 0 then e else if i = 1 then b else c
/-- A mark's sector. -/
def packS (e b c : Int) : List UInt8 := (packL (markN e b c) 3 0).take 56 ++ (packL (markN e b c) 3 0).take 8

theorem wpList_index {P : Program} {ops : Array Oper} {o : Oper} {a : Act} {w : World} {Q : Exit → Act → World → Prop} {rest : List Oper} (hg : o.guard = none) (x i : Operand) (t : TypeId) (hop : o.op = Op.index t x i) {xv iv r : Value} (hx : a.eval x = xv) (hi : a.eval i = iv)
    (hrun : (Instr.index t xv iv).run P w = .ok r w) (hK : wpList P ops Q rest (a.put o.dst r) w) : wpList P ops Q (o :: rest) a w := by
  refine wpList_plain hg fun K' hK' => ?_
  unfold Oper.wp
  simp [execOp, hop, hx, hi, hrun, Result.andThen]
  exact hK' _ _ hK
theorem idx30 (e b c : Int) (w : World) : (Instr.index 96 (.agg #[.int .i64 e, .int .i64 b, .int .i64 c]) (.int .i64 ((0 : Nat) : Int))).run Try.prog w = .ok (.int .i64 e) w := by kernel_rfl
theorem idx31 (e b c : Int) (w : World) : (Instr.index 96 (.agg #[.int .i64 e, .int .i64 b, .int .i64 c]) (.int .i64 ((1 : Nat) : Int))).run Try.prog w = .ok (.int .i64 b) w := by kernel_rfl
theorem idx32 (e b c : Int) (w : World) : (Instr.index 96 (.agg #[.int .i64 e, .int .i64 b, .int .i64 c]) (.int .i64 ((2 : Nat) : Int))).run Try.prog w = .ok (.int .i64 c) w := by kernel_rfl
theorem idx3 (e b c : Int) {j : Nat} (hj : j < 3) (w : World) : (Instr.index 96 (.agg #[.int .i64 e, .int .i64 b, .int .i64 c]) (.int .i64 (j : Int))).run Try.prog w = .ok (.int .i64 (markN e b c j)) w := by
  have h3 : j = 0 ∨ j = 1 ∨ j = 2 := by omega
  rcases h3 with rfl | rfl | rfl
  · exact idx30 e b c w
  · exact idx31 e b c w
  · exact idx32 e b c w

set_option maxRecDepth 100000 in
set_option maxHeartbeats 3200000 in
theorem pack_any (e0 b0 c0 : Int) (w : World) :
    Calls Try.prog 36 #[.agg #[.int .i64 e0, .int .i64 b0, .int .i64 c0]] w fun e w' => e = .returned (str (packS e0 b0 c0)) ∧ Below w.heap.size w w' := by
  go_enter Try.func36, Try.ntmps36
  go_wp2_with fail
  obtain ⟨ns, hns⟩ : ∃ ns, markN e0 b0 c0 = ns := ⟨_, rfl⟩
  have X0 : Blk ((w.alloc (.cells #[.int .i64 e0, .int .i64 b0, .int .i64 c0] 62)).alloc (.cells (rowB (packL ns 0 0)) 95)) (w.heap.size + 1) 95 (rowB (packL ns 0 0)) := Blk.new_at (by simp) _ _
  have B0 : Below w.heap.size w ((w.alloc (.cells #[.int .i64 e0, .int .i64 b0, .int .i64 c0] 62)).alloc (.cells (rowB (packL ns 0 0)) 95)) := ((Below.refl _ _).alloc (Nat.le_refl _) _).alloc (by simp) _
  have hz : rowB (packL ns 0 0) = ((List.replicate 64 (0 : Int)).map (Value.int .u8)).toArray := by rw [packL_zero]; rfl
  rw [hz] at X0 B0
  change Code.wp _ _ _ _ ((w.alloc (.cells #[.int .i64 e0, .int .i64 b0, .int .i64 c0] 62)).alloc (.cells ((List.replicate 64 (0 : Int)).map (Value.int .u8)).toArray 95))
  generalize (w.alloc (.cells #[.int .i64 e0, .int .i64 b0, .int .i64 c0] 62)).alloc (.cells ((List.replicate 64 (0 : Int)).map (Value.int .u8)).toArray 95) = w1 at X0 B0 ⊢
  rw [← hz] at X0
  obtain ⟨g, hg⟩ : ∃ g, w.heap.size + 1 = g := ⟨_, rfl⟩
  rw [hg] at X0 ⊢
  have hgB : w.heap.size ≤ g := by omega
  have HX0 := Lib.hid X0
  have HB0 := Lib.hid B0
  have HNS := Lib.hid hns
  clear X0 B0 hz hg hns
  go_loopw [14] (fun i wr => ∃ j : Nat, j ≤ 3 ∧ i = .int .i64 j ∧ Blk wr g 95 (rowB (packL ns j 0)) ∧ Below w.heap.size w wr) (fun i _ => 3 - (intOf i).toNat)
  case atStart => exact ⟨0, Nat.zero_le _, rfl, HX0.out, HB0.out⟩
  case round =>
    obtain ⟨j, hj, rfl, hx, hb⟩ := hrel
    have HX := Lib.hid hx
    have HB := Lib.hid hb
    clear hx hb
    by_cases hlt : j < 3
    · have hji : (j : Int) < 3 := by omega
      · have hix := fun w => idx3 e0 b0 c0 hlt w
        rw [HNS.out] at hix
        have HIX := Lib.hid hix
        clear hix
        go_wp2_with (refine wpList_index rfl _ _ _ rfl rfl rfl (HIX.out _) ?_)
        go_loopw [18] (fun i wr => ∃ k : Nat, k ≤ 8 ∧ i = .int .i64 k ∧ Blk wr g 95 (rowB (packL ns j k)) ∧ Below w.heap.size w wr) (fun i _ => 8 - (intOf i).toNat)
        case atStart => exact ⟨0, Nat.zero_le _, rfl, HX.out, HB.out⟩
        case round =>
          obtain ⟨k, hk, rfl, hx, hb⟩ := hrel
          by_cases hk8 : k < 8
          · have hki : (k : Int) < 8 := by omega
            have hp : (j + 1) * 8 - 1 - k < (packL ns j k).length := by rw [packL_length]; omega
            have hc := (hx.cell ((j + 1) * 8 - 1 - k)).trans (rowB_get hp)
            have hf := hx.frozen ((j + 1) * 8 - 1 - k)
            have HX2 := Lib.hid hx
            have HB2 := Lib.hid hb
            clear hx hb
            have hv := byteR_if (ns j) k
            go_wp2_with fail
            clear hv
            have hx3 := HX2.out.set_ ((j + 1) * 8 - 1 - k) (.int .u8 ((byteR (ns j) k).toNat : Int))
            rw [rowB_set, packL_set ns hlt hk8] at hx3
            have HX3 := Lib.hid hx3
            have HB3 := Lib.hid (HB2.out.setCell (p := ⟨g, (j + 1) * 8 - 1 - k, none⟩) hgB (.int .u8 ((byteR (ns j) k).toNat : Int)))
            go_roundw
            case rel => exact ⟨k + 1, by omega, by go_num, HX3.out, HB3.out⟩
            case measure => simp [intOf]; omega
          · obtain rfl : k = 8 := by omega
            rw [packL_next] at hx
            have HX2 := Lib.hid hx
            have HB2 := Lib.hid hb
            clear hx hb
            go_wp2_with fail
            go_roundw
            case rel => exact ⟨j + 1, by omega, by go_num, HX2.out, HB2.out⟩
            case measure => simp [intOf]; omega
    · obtain rfl : j = 3 := by omega
      go_wp2_with fail
      obtain ⟨L, hL⟩ : ∃ L, packL ns 3 0 = L := ⟨_, rfl⟩
      have hLl : L.length = 64 := by rw [← hL]; exact packL_length _ _ _
      rw [hL] at HX
      have hn8 : (Lib.byteCells (L.take 8)).length = Nat.min 8 8 := by simp [Lib.byteCells, hLl]
      have hfit : 56 + (Lib.byteCells (L.take 8)).length ≤ (Lib.byteCells L).length := by rw [hn8]; simp [Lib.byteCells, hLl]
      have hsrc : ∀ (j : Nat) (v : Value), (Lib.byteCells (L.take 8))[j]? = some v → wr.drew.cell? ((⟨g, 0, none⟩ : Addr).add j) = some v := by
        intro q v hq
        have hql : q < 8 := by
          have := (List.getElem?_eq_some_iff.1 hq).1
          simp [Lib.byteCells] at this
          omega
        have ha : (⟨g, 0, none⟩ : Addr).add q = ⟨g, q, none⟩ := by unfold Addr.add; split <;> simp_all
        rw [ha]
        refine ((Blk.drew HX.out).cell q).trans ?_
        rw [rowB_get (by omega)]
        rw [← hq]
        simp [Lib.byteCells, hLl, hql]
      refine until_begin 3 (fun _ => True) (by kernel_rfl) trivial (fun hS => ?_)
      refine until_take 0 (some 36) (u := ?_) rfl rfl (by kernel_rfl) (by kernel_rfl) (by kernel_rfl) (by kernel_rfl) (fun _ _ _ h => h) (by rfl) (fun wS hv => ?_) hS ?_
      rotate_left
      · clear hv
        go_simp
        all_goals with_reducible rfl
      try simp only [Act.put, List.setIfInBounds_toArray, List.set]
      refine until_take 1 (some 37) (u := ?_) rfl rfl (by kernel_rfl) (by kernel_rfl) (by kernel_rfl) (by kernel_rfl) (fun _ _ _ h => h) (by rfl) (fun wS hv => ?_) hS ?_
      rotate_left
      · clear hv
        go_simp
        all_goals with_reducible rfl
      try simp only [Act.put, List.setIfInBounds_toArray, List.set]
      refine until_one 2 (by kernel_rfl) rfl (fun K hK => ?_)
      refine step_copy_splice rfl (.tmp 36) (.tmp 37) 40 40 rfl 5 Try.underlying40 (by kernel_rfl) (some ⟨g, 56, none⟩) (some ⟨g, 0, none⟩) 8 8 8 64 rfl rfl g 56 (Lib.byteCells L) 95 HX.out (Lib.byteCells (L.take 8)) hn8 (fun _ => ⟨rfl, _, rfl, hsrc⟩) hfit (by intro v hv; unfold Lib.byteCells at hv; obtain ⟨b, -, rfl⟩ := List.mem_map.1 hv; rfl) w.heap.size w HB.out.drew hgB ?_
      intro w4 hg4 hb4
      have HG4 := hg4
      have HB4 := Lib.hid hb4
      clear hg4 hb4
      refine hK.out _ _ trivial (fun hS => ?_)
      clear hK K
      try simp only [Act.put, List.setIfInBounds_toArray, List.set]
      refine until_done (by kernel_rfl) ?_
      have hsp : splice (Lib.byteCells L) 56 (Lib.byteCells (L.take 8)) = Lib.byteCells (L.take 56 ++ L.take 8) := by
        unfold splice Lib.byteCells
        simp [hLl, List.map_take]
      have hpk : L.take 56 ++ L.take 8 = packS e0 b0 c0 := by unfold packS; rw [HNS.out, hL]
      have hpl : (packS e0 b0 c0).length = 64 := by rw [← hpk]; simp [hLl]
      rw [hsp, hpk] at HG4
      have kc := run_convert_bytes_back (P := Try.prog) w4 40 9 5 ⟨g, 0, none⟩ 64 (packS e0 b0 c0) Try.underlying40 Try.underlying5 Try.underlying9 (Lib.bytes_of_row HG4.out (List.take_of_length_le (l := Lib.byteCells (packS e0 b0 c0)) (by simp [Lib.byteCells])))
      rw [hpl] at kc
      clear hS hsrc hfit hn8 hsp hpk hL HX hLl
      go_wp2_with fail
      go_ret
      exact ⟨rfl, HB4.out⟩
end Go.Proofs.Ytiighehibiijcaa

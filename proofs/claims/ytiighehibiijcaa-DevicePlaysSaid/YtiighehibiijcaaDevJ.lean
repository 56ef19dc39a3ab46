/-
  What New and Waiting of device.Device do; of a device, and of none. No conditions beside those in each theorem.
-/
import Derived.Test.YtiighehibiijcaaDevI
import Derived.Laws.CopyOwn
import Derived.Laws.MakeOwn
import Derived.Carry
namespace Go.Proofs.Ytiighehibiijcaa
open Go.RowKit

def newD (n : Int) : Dev := ⟨n, fun _ => none, [], true, false, 0, 0⟩
set_option maxRecDepth 100000 in
set_option maxHeartbeats 800000 in
theorem new_any (w : World) (n : Int) (h0 : 1 ≤ n) (h1 : n ≤ 4096) :
    Calls Try.prog 16 #[.int .i64 n] w fun e w' => e = .returned (.pointer (some ⟨w.heap.size + 1, 0, none⟩)) ∧ IsDev w' (w.heap.size + 1) w.heap.size (.slice none 0 0) 0 w.heap.size (newD n) ∧ Below w.heap.size w w' := by
  have d1 : decide (n < 1) = false := by simp; omega
  have d2 : decide (4096 < n) = false := by simp; omega
  have hmm := @run_makeMap Try.prog
  go_enter Try.func16, Try.ntmps16
  go_wp2_with fail
  go_ret
  refine ⟨rfl, ⟨Blk.new_at (by simp) _ _, (MapIs.new w).kept (row := none) (upd_of_below ((Below.refl _ _).alloc (Nat.le_refl _) _) none) (by simp), OwnW.none _ _, by omega, Nat.le_refl _⟩, ((Below.refl _ _).alloc (Nat.le_refl _) _).alloc (by simp) _⟩
set_option maxHeartbeats 800000 in
theorem new_bad (w : World) (n : Int) (h : ¬ (1 ≤ n ∧ n ≤ 4096)) :
    Calls Try.prog 16 #[.int .i64 n] w fun e w' => e = .returned (.pointer none) ∧ w = w' := by
  by_cases h0 : n < 1
  · go_enter Try.func16, Try.ntmps16
    go_wp2_with fail
    go_ret
    exact ⟨rfl, rfl⟩
  · have d2 : 4096 < n := by omega
    go_enter Try.func16, Try.ntmps16
    go_wp2_with fail
    go_ret
    exact ⟨rfl, rfl⟩

/-! Waiting. -/
theorem wpList_copy_run {P : Program} {ops : Array Oper} {o : Oper} {a : Act} {w w1 : World} {Q : Exit → Act → World → Prop} {rest : List Oper} (hg : o.guard = none) (d s : Operand) (t u : TypeId) (hop : o.op = Op.call { callee := Callee.builtin Builtin.copy, args := #[d, s], argTypes := #[t, u] }) {dv sv r : Value} (hd : a.eval d = dv) (hs : a.eval s = sv)
    (hrun : (Builtin.copy_ #[t, u] o.type #[dv, sv]).run P w = .ok r w1) (hK : wpList P ops Q rest (a.put o.dst r) w1) : wpList P ops Q (o :: rest) a w := by
  refine wpList_plain hg fun K' hK' => ?_
  unfold Oper.wp
  simp [execOp, hop, resolve, invoke, builtin, hd, hs, hrun, Result.andThen]
  exact hK' _ _ hK
theorem wcells_one : ∀ l, ∀ u ∈ wcells l, u.oneCell' = true := by
  intro l
  induction l with
  | nil => intro u hu; simp [wcells] at hu
  | cons p l ih =>
    intro u hu
    simp only [wcells, List.mem_cons] at hu
    rcases hu with rfl | rfl | hu
    · rfl
    · rfl
    · exact ih u hu
theorem copyW {w : World} {B h : Nat} {v : Value} {l : List (Int × List UInt8)} {cur : Array Value} {ty : TypeId} (ho : OwnW w B v l) (hb : Blk w h 91 cur) (hc : cur.size = l.length * 2) :
    (Builtin.copy_ #[37, 37] ty #[.slice (some ⟨h, 0, none⟩) l.length l.length, v]).run Try.prog w = .ok (goInt l.length) (w.setRow h (wcells l).toArray) := by
  obtain ⟨i0, hi, hz0, hz1, hz2⟩ : ∃ i, Try.prog.info? 91 = some i ∧ i.zero = some (.agg #[.int .i64 0, .string ByteArray.empty]) ∧ i.size = 2 ∧ i.bytes = 24 := info_parts (by kernel_rfl)
  have hst := run_storeCells_at Try.prog h 0 91 (wcells l) 0 cur w hb (by rw [wcells_length]; omega) (wcells_one l)
  have hlen := wcells_length l
  have hd0 : cur.toList.drop (0 + 0 + (wcells l).length) = [] := by rw [List.drop_eq_nil_iff]; simp; omega
  rw [hd0] at hst
  simp only [Nat.add_zero, List.take_zero, List.nil_append, List.append_nil] at hst
  rcases ho.2 with ⟨rfl, h0⟩ | ⟨gv, cap, cur2, rfl, h2, h3, h4, h5, h6, h7⟩
  · have hl : l = [] := List.eq_nil_of_length_eq_zero h0
    subst hl
    have hst' : (storeCells ⟨h, 0, none⟩ []).run Try.prog w = Result.ok () (w.setRow h #[]) := by simpa [wcells] using hst
    simp [Builtin.copy_, run_underlying Try.underlying37, Builtin.lenOf, Builtin.firstCells, sizeOf, typeInfo, hi]
    rw [hst']
    rfl
  · have hl := run_loadCells_list (P := Try.prog) (w := w) ⟨gv, 0, none⟩ (wcells l) (by
      intro j x hj
      have hjl : j < (wcells l).length := (List.getElem?_eq_some_iff.1 hj).1
      have hadd : (⟨gv, 0, none⟩ : Addr).add j = ⟨gv, j, none⟩ := by unfold Addr.add; split <;> simp_all
      rw [hadd, cell_of_row w gv j cur2 91 (0, 0) h3]
      have h8 : (cur2.toList.take (l.length * 2))[j]? = (wcells l)[j]? := by rw [h7]
      rw [List.getElem?_take, if_pos (by omega)] at h8
      rw [← Array.getElem?_toList, h8, hj])
    rw [hlen] at hl
    simp [Builtin.copy_, run_underlying Try.underlying37, Builtin.lenOf, Builtin.firstCells, sizeOf, typeInfo, hi, hz1, hl, hst]
theorem own_new {w : World} {h B : Nat} {l : List (Int × List UInt8)} {cur : Array Value} (hb : Blk w h 91 cur) (hB : B ≤ h) (hn : l.length ≤ maxLen) :
    OwnW (w.setRow h (wcells l).toArray) B (.slice (some ⟨h, 0, none⟩) l.length l.length) l := by
  refine ⟨wcells_length l, .inr ⟨h, l.length, (wcells l).toArray, rfl, hB, setRow_heap w h cur _ _ _ hb, Nat.le_refl _, hn, by simpa using wcells_length l, ?_⟩⟩
  rw [← wcells_length l]
  simp

set_option maxRecDepth 100000 in
set_option maxHeartbeats 800000 in
theorem waiting_any (w : World) (g gm : Nat) (v : Value) (cap B : Nat) (d : Dev) (hd : IsDev w g gm v cap B d) (hn : d.waits.length < 5000000000000) :
    Calls Try.prog 24 #[.pointer (some ⟨g, 0, none⟩)] w fun e w' => ∃ v', e = .returned v' ∧ OwnW w' w.heap.size v' d.waits ∧ Below w.heap.size w w' := by
  obtain ⟨i0, hi, hz0, hz1, hz2⟩ : ∃ i, Try.prog.info? 91 = some i ∧ i.zero = some (.agg #[.int .i64 0, .string ByteArray.empty]) ∧ i.size = 2 ∧ i.bytes = 24 := info_parts (by kernel_rfl)
  obtain ⟨l, hl⟩ : ∃ l, d.waits = l := ⟨_, rfl⟩
  have hmk := run_make (P := Try.prog) w 37 91 i0 _ Try.underlying37 hi hz0 .i64 .i64 l.length l.length (by omega) (Int.le_refl _) (by rw [hz2, ← hl]; omega) (by rw [← hl]; omega)
  simp only [Int.toNat_natCast] at hmk
  obtain ⟨cur, hcur⟩ : ∃ cur, madeCells (Value.agg #[.int .i64 0, .string ByteArray.empty]).cells (l.length * i0.size) = cur := ⟨_, rfl⟩
  have hcs : cur.size = l.length * 2 := by rw [← hcur, size_madeCells, hz1]
  rw [hcur] at hmk
  have hb1 : Below w.heap.size w (w.alloc (.cells cur 91)) := (Below.refl _ _).alloc (Nat.le_refl _) _
  have ho := hd.2.2.1
  rw [hl] at ho
  have hcp := fun ty => copyW (ty := ty) (ho.alloc (.cells cur 91)) (Blk.new w _ cur) hcs
  have HO := Lib.hid (own_new (B := w.heap.size) (l := l) (Blk.new w 91 cur) (Nat.le_refl _) (by rw [← hl]; unfold maxLen; omega))
  have HB := Lib.hid (hb1.trans (below_setRow (B := w.heap.size) (w0 := w.alloc (.cells cur 91)) (Below.refl _ _) (Nat.le_refl _) (wcells l).toArray))
  obtain ⟨-, -, c2, -⟩ := dev_cells hd
  have l1 : g < w.heap.size := hd.1.lt
  obtain ⟨p, c, hv⟩ := ho.form
  subst hv
  have HM := Lib.hid hmk
  have HC := Lib.hid hcp
  rw [hl]
  clear hmk hcp ho hb1 hd hcur hi hz0 hz1 hz2
  go_enter Try.func24, Try.ntmps24
  go_wp2_with (first | (at_make; refine wpList_make_run rfl _ _ _ rfl rfl rfl HM.out ?_) | (refine wpList_copy_run rfl _ _ _ _ rfl rfl rfl (HC.out _) ?_))
  go_ret
  exact ⟨_, rfl, HO.out, HB.out⟩
set_option maxHeartbeats 800000 in
theorem waiting_nil (w : World) :
    Calls Try.prog 24 #[.pointer none] w fun e w' => e = .returned (.slice none 0 0) ∧ w = w' := by
  go_enter Try.func24, Try.ntmps24
  go_wp2_with fail
  go_ret
  exact ⟨rfl, rfl⟩
end Go.Proofs.Ytiighehibiijcaa

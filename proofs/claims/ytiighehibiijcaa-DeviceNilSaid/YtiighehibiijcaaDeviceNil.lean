/-
  The walk of DeviceNil: it returns true for every place. No conditions beside those in each theorem.
-/
import Derived.Test.YtiighehibiijcaaArmPlain
namespace Go.Proofs.Ytiighehibiijcaa
open Go.RowKit
set_option linter.unusedSimpArgs false
set_option linter.unnecessarySimpa false
set_option linter.unusedVariables false

def zeroCells : Array Value := #[.int .i64 0, .map none, .slice none 0 0, .bool false, .bool false, .int .i64 0, .int .i64 0]
/-- A zero device. -/
def IsZ (w : World) (g : Nat) : Prop := Blk w g 60 zeroCells
section
variable {w w' : World} {g : Nat}
theorem IsZ.step (h : IsZ w g) (hb : Below w.heap.size w w') : IsZ w' g := Blk.step h hb
theorem IsZ.cells (h : IsZ w g) : w.cell? ⟨g, 0, none⟩ = some (.int .i64 0) ∧ w.cell? ⟨g, 1, none⟩ = some (.map none) ∧ w.cell? ⟨g, 2, none⟩ = some (.slice none 0 0) ∧ w.cell? ⟨g, 3, none⟩ = some (.bool false) ∧
    w.cell? ⟨g, 4, none⟩ = some (.bool false) ∧ w.cell? ⟨g, 5, none⟩ = some (.int .i64 0) ∧ w.cell? ⟨g, 6, none⟩ = some (.int .i64 0) := ⟨Blk.cell h 0, Blk.cell h 1, Blk.cell h 2, Blk.cell h 3, Blk.cell h 4, Blk.cell h 5, Blk.cell h 6⟩
end
set_option maxHeartbeats 800000 in
theorem read_zero (w : World) (g : Nat) (k : Int) (hz : IsZ w g) :
    Calls Try.prog 20 #[.pointer (some ⟨g, 0, none⟩), .int .i64 k] w fun e w' => e = .returned (.tuple #[str [], .int .i64 14]) ∧ w = w' := by
  obtain ⟨-, -, -, c3, -⟩ := hz.cells
  clear hz
  go_enter Try.func20, Try.ntmps20
  go_wp2_with fail
  go_ret2
  exact ⟨rfl, rfl⟩
set_option maxHeartbeats 800000 in
theorem crash_zero (w : World) (g : Nat) (kv : Value) (torn cut : Int) (hz : IsZ w g) :
    Calls Try.prog 25 #[.pointer (some ⟨g, 0, none⟩), kv, .int .i64 torn, .int .i64 cut] w fun e w' => e = .returned (.tuple #[]) ∧ w = w' := by
  obtain ⟨c0, -⟩ := hz.cells
  clear hz
  go_enter Try.func25, Try.ntmps25
  go_wp2_with fail
  (try simp only [Exit.inBlock, Exit.then]); refine bodyPost_ret (results_none rfl _ _ _) rfl ?_
  exact ⟨rfl, rfl⟩
set_option maxHeartbeats 800000 in
theorem flush_zero (w : World) (g : Nat) (hz : IsZ w g) :
    Calls Try.prog 19 #[.pointer (some ⟨g, 0, none⟩)] w fun e w' => e = .returned (.int .i64 14) ∧ Below w.heap.size w w' := by
  obtain ⟨-, -, -, c3, -⟩ := hz.cells
  have lg := Blk.lt hz
  clear hz
  go_enter Try.func19, Try.ntmps19
  go_wp2_with fail
  go_ret
  exact ⟨rfl, (Below.refl _ _).alloc (Nat.le_refl _) _⟩
set_option maxHeartbeats 800000 in
theorem sectors_zero (w : World) (g : Nat) (hz : IsZ w g) :
    Calls Try.prog 22 #[.pointer (some ⟨g, 0, none⟩)] w fun e w' => e = .returned (.int .i64 0) ∧ w = w' := by
  obtain ⟨c0, -⟩ := hz.cells
  clear hz
  go_enter Try.func22, Try.ntmps22
  go_wp2_with fail
  go_ret
  exact ⟨rfl, rfl⟩
set_option maxHeartbeats 800000 in
theorem on_zero (w : World) (g : Nat) (hz : IsZ w g) :
    Calls Try.prog 27 #[.pointer (some ⟨g, 0, none⟩)] w fun e w' => e = .returned (.bool false) ∧ w = w' := by
  obtain ⟨-, -, -, c3, -⟩ := hz.cells
  clear hz
  go_enter Try.func27, Try.ntmps27
  go_wp2_with fail
  go_ret
  exact ⟨rfl, rfl⟩
set_option maxHeartbeats 800000 in
theorem has_zero (w : World) (g : Nat) (k : Int) (hz : IsZ w g) :
    Calls Try.prog 48 #[.pointer (some ⟨g, 0, none⟩), .int .i64 k] w fun e w' => e = .returned (.bool false) ∧ w = w' := by
  obtain ⟨c0, -⟩ := hz.cells
  clear hz
  by_cases h0 : 0 ≤ k
  · have h2 : decide (k < 0) = false := by simpa using h0
    go_enter Try.func48, Try.ntmps48
    go_wp2
    go_ret
    exact ⟨rfl, rfl⟩
  · have h2 : decide (0 ≤ k) = false := by simpa using h0
    go_enter Try.func48, Try.ntmps48
    go_wp2
    go_ret
    exact ⟨rfl, rfl⟩
set_option maxHeartbeats 800000 in
theorem safe_zero (w : World) (g : Nat) (k : Int) (hz : IsZ w g) :
    Calls Try.prog 21 #[.pointer (some ⟨g, 0, none⟩), .int .i64 k] w fun e w' => e = .returned (str []) ∧ w = w' := by
  have HZ := Lib.hid hz
  clear hz
  go_enter Try.func21, Try.ntmps21
  go_wp2_with fail
  refine (has_zero _ g k HZ.out).mono ?_
  rintro e w1 ⟨rfl, rfl⟩
  go_wp2
  go_ret
  exact ⟨rfl, rfl⟩
set_option maxHeartbeats 800000 in
theorem safe_nil (w : World) (k : Int) :
    Calls Try.prog 21 #[.pointer none, .int .i64 k] w fun e w' => e = .returned (str []) ∧ w = w' := by
  go_enter Try.func21, Try.ntmps21
  go_wp2_with fail
  refine (has_nil _ k).mono ?_
  rintro e w1 ⟨rfl, rfl⟩
  go_wp2
  go_ret
  exact ⟨rfl, rfl⟩
set_option maxRecDepth 100000 in
set_option maxHeartbeats 800000 in
theorem waiting_zero (w : World) (g : Nat) (hz : IsZ w g) :
    Calls Try.prog 24 #[.pointer (some ⟨g, 0, none⟩)] w fun e w' => e = .returned (.slice (some ⟨w.heap.size, 0, none⟩) 0 0) ∧ Below w.heap.size w w' := by
  obtain ⟨i0, hi, hz0, hz1, hz2⟩ : ∃ i, Try.prog.info? 91 = some i ∧ i.zero = some (.agg #[.int .i64 0, .string ByteArray.empty]) ∧ i.size = 2 ∧ i.bytes = 24 := info_parts (by kernel_rfl)
  have hmk := run_make (P := Try.prog) w 37 91 i0 _ Try.underlying37 hi hz0 .i64 .i64 0 0 (by omega) (Int.le_refl _) (by rw [hz2]; omega) (by omega)
  simp only [Int.toNat_zero, Nat.zero_mul] at hmk
  obtain ⟨cur, hcur⟩ : ∃ cur, madeCells (Value.agg #[.int .i64 0, .string ByteArray.empty]).cells 0 = cur := ⟨_, rfl⟩
  have hcs : cur.size = ([] : List (Int × List UInt8)).length * 2 := by rw [← hcur, size_madeCells]; rfl
  rw [hcur] at hmk
  have hb1 : Below w.heap.size w (w.alloc (.cells cur 91)) := (Below.refl _ _).alloc (Nat.le_refl _) _
  have hcp := fun ty => copyW (ty := ty) ((OwnW.none w w.heap.size).alloc (.cells cur 91)) (Blk.new w _ cur) hcs
  have HB := Lib.hid (hb1.trans (below_setRow (B := w.heap.size) (w0 := w.alloc (.cells cur 91)) (Below.refl _ _) (Nat.le_refl _) (wcells []).toArray))
  obtain ⟨-, -, c2, -⟩ := hz.cells
  have l1 : g < w.heap.size := Blk.lt hz
  simp only [List.length_nil] at hcp
  have HM := Lib.hid hmk
  have HC := Lib.hid hcp
  clear hmk hcp hb1 hz hcur hi hz0 hz1 hz2
  go_enter Try.func24, Try.ntmps24
  go_wp2_with (first | (at_make; refine wpList_make_run rfl _ _ _ rfl rfl rfl HM.out ?_) | (refine wpList_copy_run rfl _ _ _ _ rfl rfl rfl (HC.out _) ?_))
  go_ret
  exact ⟨rfl, HB.out⟩

set_option maxRecDepth 100000 in
set_option maxHeartbeats 8000000 in
theorem deviceNil_walk (k : Int) (w : World) :
    Calls Try.prog 8 #[.int .i64 k] w fun e w' => e = .returned (.bool true) ∧ Below w.heap.size w w' := by
  go_enter Try.func8, Try.ntmps8
  go_wp2_with fail
  have Z0 := Lib.hid (show IsZ (w.alloc (.cells zeroCells 60)) w.heap.size from Blk.new w _ _)
  have B0 := Lib.hid ((Below.refl w.heap.size w).alloc (Nat.le_refl _) (.cells zeroCells 60))
  change Calls _ _ _ (w.alloc (.cells zeroCells 60)) _
  generalize w.alloc (.cells zeroCells 60) = w1 at Z0 B0 ⊢
  obtain ⟨g, hg⟩ : ∃ g, w.heap.size = g := ⟨_, rfl⟩
  rw [hg] at Z0 ⊢
  have HG := Lib.hid hg
  clear hg
  refine (read_nil _ k).mono ?_
  rintro e w2 ⟨rfl, rfl⟩
  go_wp2_with fail
  refine (read_zero _ g k Z0.out).mono ?_
  rintro e w2 ⟨rfl, rfl⟩
  go_wp2_with fail
  refine (arm_nil _ k).mono ?_
  rintro e w2 ⟨rfl, rfl⟩
  go_wp2_with fail
  refine (crash_nil _ _ 0 0).mono ?_
  rintro e w2 ⟨rfl, rfl⟩
  go_wp2_with fail
  refine (crash_zero _ g _ 0 0 Z0.out).mono ?_
  rintro e w2 ⟨rfl, rfl⟩
  go_wp2_with fail
  refine (awake06_any _).mono ?_
  rintro e w2 ⟨rfl, hb2⟩
  have Z2 := Lib.hid (Z0.out.step hb2)
  have B2 := Lib.hid (bel_step B0.out hb2)
  go_wp2_with fail
  refine (write_nil _ k []).mono ?_
  rintro e w3 ⟨rfl, hb3⟩
  have Z3 := Lib.hid (Z2.out.step hb3)
  have B3 := Lib.hid (bel_step B2.out hb3)
  go_wp2_with fail
  refine (flush_nil _).mono ?_
  rintro e w4 ⟨rfl, hb4⟩
  have Z4 := Lib.hid (Z3.out.step hb4)
  have B4 := Lib.hid (bel_step B3.out hb4)
  go_wp2_with fail
  refine (flush_zero _ g Z4.out).mono ?_
  rintro e w5 ⟨rfl, hb5⟩
  have Z5 := Lib.hid (Z4.out.step hb5)
  have B5 := Lib.hid (bel_step B4.out hb5)
  go_wp2_with fail
  refine (sectors_nil _).mono ?_
  rintro e w6 ⟨rfl, rfl⟩
  go_wp2_with fail
  refine (steps_nil _).mono ?_
  rintro e w6 ⟨rfl, rfl⟩
  go_wp2_with fail
  refine (waiting_nil _).mono ?_
  rintro e w6 ⟨rfl, rfl⟩
  go_wp2_with fail
  refine (sectors_zero _ g Z5.out).mono ?_
  rintro e w6 ⟨rfl, rfl⟩
  go_wp2_with fail
  refine (waiting_zero _ g Z5.out).mono ?_
  rintro e w6 ⟨rfl, hb6⟩
  have Z6 := Lib.hid (Z5.out.step hb6)
  have B6 := Lib.hid (bel_step B5.out hb6)
  go_wp2_with fail
  refine (on_nil _).mono ?_
  rintro e w7 ⟨rfl, rfl⟩
  go_wp2_with fail
  refine (on_zero _ g Z6.out).mono ?_
  rintro e w7 ⟨rfl, rfl⟩
  go_wp2_with fail
  refine (safe_nil _ k).mono ?_
  rintro e w7 ⟨rfl, rfl⟩
  go_wp2_with fail
  refine (safe_zero _ g k Z6.out).mono ?_
  rintro e w7 ⟨rfl, rfl⟩
  go_wp2_with fail
  go_ret
  exact ⟨rfl, B6.out⟩
end Go.Proofs.Ytiighehibiijcaa

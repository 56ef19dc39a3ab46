/-
  What step of device.Device does with the closures of Flush; Write; Flush. No conditions beside those in each theorem.
-/
import Derived.Test.YtiighehibiijcaaDevF
namespace Go.Proofs.Ytiighehibiijcaa
open Go.RowKit

/-- Flush, of a device that is on. -/
def fluD (d : Dev) : Dev := if goesD d then flushD (stepD d) else { d with on := false }
theorem flush2_any (w : World) : Calls Try.prog 53 #[] w fun e w' => e = .returned (.tuple #[]) ∧ w = w' := by
  go_enter Try.func53, Try.ntmps53
  go_wp2
  go_end0
  exact ⟨rfl, rfl⟩

set_option maxRecDepth 100000 in
set_option maxHeartbeats 2000000 in
theorem step_flush (w : World) (g gm : Nat) (v : Value) (cap B : Nat) (d : Dev) (bd : Nat) (hd : IsDev w g gm v cap B d) (hok : OkD d) (hw : WaitsOk d.waits) (hn : cap + d.waits.length < 4611686018427)
    (h1 : Blk w bd 24 #[.pointer (some ⟨g, 0, none⟩)]) :
    Calls Try.prog 50 #[.pointer (some ⟨g, 0, none⟩), .func (.func 51) #[] #[.pointer (some ⟨bd, 0, none⟩)], .func (.func 53) #[] #[]] w
      fun e w' => e = .returned (.int .i64 (if goesD d then 0 else 14)) ∧ ∃ v' cap', cap' ≤ cap + d.waits.length ∧ IsDev w' g gm v' cap' B (fluD d) ∧ Touch g gm w v w' v' := by
  obtain ⟨n, safe, waits, on, armed, left, steps⟩ := d
  have HD := Lib.hid hd
  have HB1 := Lib.hid h1
  have HW := Lib.hid hw
  obtain ⟨o1, o2, o3, o4, o5⟩ := hok
  simp only [] at o1 o2 o3 o4 o5
  obtain ⟨c0, c1, c2, c3, c4, c5, c6⟩ := dev_cells hd
  clear hd h1 hw
  simp only [] at c0 c1 c2 c3 c4 c5 c6 hn
  cases armed
  · have q6 := HD.out.1.frozen 6
    have hw1 : IntKind.i64.wrap (steps + 1) = steps + 1 := wrap_small _ (by omega) (by omega)
    go_enter Try.func50, Try.ntmps50
    go_wp2_with fail
    obtain ⟨hd1, t1⟩ := IsDev.set (i := 6) (u := .int .i64 (steps + 1)) (d' := ⟨n, safe, waits, on, false, left, steps + 1⟩) HD.out rfl rfl rfl
    refine (flush1_any _ g gm v cap B _ bd hd1 (HD.out.keep t1 HB1.out (by decide) (by decide)) HW.out hn).mono ?_
    rintro e w2 ⟨rfl, hd2, t2⟩
    have HD2 := Lib.hid hd2
    have T2 := Lib.hid (t1.trans t2)
    clear hd1 t1 hd2 t2 c0 c1 c2 c3 c4 c5 c6 q6
    go_wp2
    go_ret
    exact ⟨rfl, _, _, Nat.le_refl _, HD2.out, T2.out⟩
  · by_cases hl : left = 0
    · subst hl
      have q3 := HD.out.1.frozen 3
      go_enter Try.func50, Try.ntmps50
      go_wp2_with fail
      obtain ⟨hd1, t1⟩ := IsDev.set (i := 3) (u := .bool false) (d' := ⟨n, safe, waits, false, true, 0, steps⟩) HD.out rfl rfl rfl
      refine (flush2_any _).mono ?_
      rintro e w2 ⟨rfl, rfl⟩
      have HD2 := Lib.hid hd1
      have T2 := Lib.hid t1
      clear hd1 t1 c0 c1 c2 c3 c4 c5 c6 q3
      go_wp2
      go_ret
      exact ⟨rfl, _, _, Nat.le_add_right _ _, HD2.out, T2.out⟩
    · have q5 := HD.out.1.frozen 5
      have q6 := HD.out.1.frozen 6
      have hw1 : IntKind.i64.wrap (steps + 1) = steps + 1 := wrap_small _ (by omega) (by omega)
      have hw2 : IntKind.i64.wrap (left - 1) = left - 1 := wrap_small _ (by omega) (by omega)
      have hw3 : decide (left = 0) = false := by simpa using hl
      have hg : goesD ⟨n, safe, waits, on, true, left, steps⟩ = true := by simp [goesD, hl]
      unfold fluD
      rw [hg]
      simp only [if_true]
      go_enter Try.func50, Try.ntmps50
      go_wp2_with fail
      obtain ⟨hd0, t0⟩ := IsDev.set (i := 5) (u := .int .i64 (left - 1)) (d' := ⟨n, safe, waits, on, true, left - 1, steps⟩) HD.out rfl rfl rfl
      obtain ⟨hd1, t1⟩ := IsDev.set (i := 6) (u := .int .i64 (steps + 1)) (d' := ⟨n, safe, waits, on, true, left - 1, steps + 1⟩) hd0 rfl rfl rfl
      have t1 := t0.trans t1
      refine (flush1_any _ g gm v cap B _ bd hd1 (HD.out.keep t1 HB1.out (by decide) (by decide)) HW.out hn).mono ?_
      rintro e w2 ⟨rfl, hd2, t2⟩
      have HD2 := Lib.hid hd2
      have T2 := Lib.hid (t1.trans t2)
      clear hd1 t1 hd2 t2 c0 c1 c2 c3 c4 c5 c6 q5 q6 hd0 t0
      go_wp2
      go_ret
      exact ⟨rfl, _, _, Nat.le_refl _, HD2.out, T2.out⟩
end Go.Proofs.Ytiighehibiijcaa

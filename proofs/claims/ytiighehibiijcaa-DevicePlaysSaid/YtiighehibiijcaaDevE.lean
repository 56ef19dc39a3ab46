/-
  What step, Write and Flush of device.Device do. No conditions beside those in each theorem.
-/
import Derived.Test.YtiighehibiijcaaDevD
namespace Go.Proofs.Ytiighehibiijcaa
open Go.RowKit

/-- Numbers of a device in bounds. -/
def OkD (d : Dev) : Prop := 0 ≤ d.left ∧ d.left < 9223372036854775808 ∧ 0 ≤ d.steps ∧ d.steps < 4611686018427387904 ∧ d.waits.length < 4611686018427
/-- May a step happen? -/
def goesD (d : Dev) : Bool := !(d.armed && decide (d.left = 0))
/-- A step happens. -/
def stepD (d : Dev) : Dev := if d.armed then { d with left := d.left - 1, steps := d.steps + 1 } else { d with steps := d.steps + 1 }
def writeD (d : Dev) (k : Int) (s : List UInt8) : Dev := { (if goesD d then stepD d else { d with on := false }) with waits := d.waits ++ [(k, s)] }

set_option maxRecDepth 100000 in
set_option maxHeartbeats 2000000 in
theorem step_put (w : World) (g gm : Nat) (v : Value) (cap B : Nat) (d : Dev) (bd bk bs : Nat) (k : Int) (s : List UInt8) (hd : IsDev w g gm v cap B d) (hok : OkD d)
    (h1 : Blk w bd 24 #[.pointer (some ⟨g, 0, none⟩)]) (h2 : Blk w bk 3 #[.int .i64 k]) (h3 : Blk w bs 9 #[str s]) :
    Calls Try.prog 50 #[.pointer (some ⟨g, 0, none⟩), .func (.func 49) #[] #[.pointer (some ⟨bd, 0, none⟩), .pointer (some ⟨bk, 0, none⟩), .pointer (some ⟨bs, 0, none⟩)], .func (.func 49) #[] #[.pointer (some ⟨bd, 0, none⟩), .pointer (some ⟨bk, 0, none⟩), .pointer (some ⟨bs, 0, none⟩)]] w
      fun e w' => e = .returned (.int .i64 (if goesD d then 0 else 14)) ∧ ∃ v', IsDev w' g gm v' cap B (writeD d k s) ∧ Touch g gm w v w' v' := by
  obtain ⟨n, safe, waits, on, armed, left, steps⟩ := d
  have HD := Lib.hid hd
  have HB1 := Lib.hid h1
  have HB2 := Lib.hid h2
  have HB3 := Lib.hid h3
  obtain ⟨o1, o2, o3, o4, o5⟩ := hok
  simp only [] at o1 o2 o3 o4 o5
  obtain ⟨c0, c1, c2, c3, c4, c5, c6⟩ := dev_cells hd
  clear hd h1 h2 h3
  simp only [] at c0 c1 c2 c3 c4 c5 c6
  cases armed
  · have q6 := HD.out.1.frozen 6
    have hw1 : IntKind.i64.wrap (steps + 1) = steps + 1 := wrap_small _ (by omega) (by omega)
    go_enter Try.func50, Try.ntmps50
    go_wp2_with fail
    obtain ⟨hd1, t1⟩ := IsDev.set (i := 6) (u := .int .i64 (steps + 1)) (d' := ⟨n, safe, waits, on, false, left, steps + 1⟩) HD.out rfl rfl rfl
    refine (put_any _ g gm v cap B _ bd bk bs k s hd1 (HD.out.keep t1 HB1.out (by decide) (by decide)) (HD.out.keep t1 HB2.out (by decide) (by decide)) (HD.out.keep t1 HB3.out (by decide) (by decide)) (by simp only []; omega)).mono ?_
    rintro e w2 ⟨rfl, v2, hd2, t2⟩
    have HD2 := Lib.hid hd2
    have T2 := Lib.hid (t1.trans t2)
    clear hd1 t1 hd2 t2 c0 c1 c2 c3 c4 c5 c6 q6
    go_wp2
    go_ret
    exact ⟨rfl, _, HD2.out, T2.out⟩
  · by_cases hl : left = 0
    · subst hl
      have q3 := HD.out.1.frozen 3
      go_enter Try.func50, Try.ntmps50
      go_wp2_with fail
      obtain ⟨hd1, t1⟩ := IsDev.set (i := 3) (u := .bool false) (d' := ⟨n, safe, waits, false, true, 0, steps⟩) HD.out rfl rfl rfl
      refine (put_any _ g gm v cap B _ bd bk bs k s hd1 (HD.out.keep t1 HB1.out (by decide) (by decide)) (HD.out.keep t1 HB2.out (by decide) (by decide)) (HD.out.keep t1 HB3.out (by decide) (by decide)) (by simp only []; omega)).mono ?_
      rintro e w2 ⟨rfl, v2, hd2, t2⟩
      have HD2 := Lib.hid hd2
      have T2 := Lib.hid (t1.trans t2)
      clear hd1 t1 hd2 t2 c0 c1 c2 c3 c4 c5 c6 q3
      go_wp2
      go_ret
      exact ⟨rfl, _, HD2.out, T2.out⟩
    · have q5 := HD.out.1.frozen 5
      have q6 := HD.out.1.frozen 6
      have hw1 : IntKind.i64.wrap (steps + 1) = steps + 1 := wrap_small _ (by omega) (by omega)
      have hw2 : IntKind.i64.wrap (left - 1) = left - 1 := wrap_small _ (by omega) (by omega)
      have hw3 : decide (left = 0) = false := by simpa using hl
      have hg : goesD ⟨n, safe, waits, on, true, left, steps⟩ = true := by simp [goesD, hl]
      unfold writeD
      rw [hg]
      simp only [if_true]
      go_enter Try.func50, Try.ntmps50
      go_wp2_with fail
      obtain ⟨hd0, t0⟩ := IsDev.set (i := 5) (u := .int .i64 (left - 1)) (d' := ⟨n, safe, waits, on, true, left - 1, steps⟩) HD.out rfl rfl rfl
      obtain ⟨hd1, t1⟩ := IsDev.set (i := 6) (u := .int .i64 (steps + 1)) (d' := ⟨n, safe, waits, on, true, left - 1, steps + 1⟩) hd0 rfl rfl rfl
      have t1 := t0.trans t1
      refine (put_any _ g gm v cap B _ bd bk bs k s hd1 (HD.out.keep t1 HB1.out (by decide) (by decide)) (HD.out.keep t1 HB2.out (by decide) (by decide)) (HD.out.keep t1 HB3.out (by decide) (by decide)) (by simp only []; omega)).mono ?_
      rintro e w2 ⟨rfl, v2, hd2, t2⟩
      have HD2 := Lib.hid hd2
      have T2 := Lib.hid (t1.trans t2)
      clear hd1 t1 hd2 t2 c0 c1 c2 c3 c4 c5 c6 q5 q6 hd0 t0
      go_wp2
      go_ret
      exact ⟨rfl, _, HD2.out, T2.out⟩
end Go.Proofs.Ytiighehibiijcaa

/-
  What the methods of tlv.Reader return of no reader (nil). No conditions beside those in each theorem.
-/
import Derived.Test.YtjanmonoigpmcaaReadAll
namespace Go.Proofs.Ytjanmonoigpmcaa
open Go.RowKit

set_option maxHeartbeats 400000 in
theorem nilGood_any (w : World) : Calls Try.prog 31 #[.pointer none] w fun e w' => e = .returned (.bool false) ∧ w = w' := by
  go_enter Try.func31, Try.ntmps31
  go_wp2
  go_ret
  exact ⟨rfl, rfl⟩
set_option maxHeartbeats 400000 in
theorem nilFails_any (w : World) : Calls Try.prog 59 #[.pointer none] w fun e w' => e = .returned (.tuple #[]) ∧ w = w' := by
  go_enter Try.func59, Try.ntmps59
  go_wp2
  go_end0
  exact ⟨rfl, rfl⟩
set_option maxHeartbeats 400000 in
theorem nilNext_any (w : World) : Calls Try.prog 30 #[.pointer none] w fun e w' => e = .returned (.tuple #[.int .u8 0, .bool false]) ∧ w = w' := by
  go_enter Try.func30, Try.ntmps30
  go_wp2_with fail
  refine (nilGood_any _).mono ?_
  rintro e w1 ⟨rfl, rfl⟩
  go_wp2
  go_ret2
  exact ⟨rfl, rfl⟩
set_option maxHeartbeats 400000 in
theorem nilLeft_any (w : World) : Calls Try.prog 34 #[.pointer none] w fun e w' => e = .returned (.int .i64 0) ∧ w = w' := by
  go_enter Try.func34, Try.ntmps34
  go_wp2_with fail
  refine (nilGood_any _).mono ?_
  rintro e w1 ⟨rfl, rfl⟩
  go_wp2
  go_ret
  exact ⟨rfl, rfl⟩
set_option maxHeartbeats 400000 in
theorem nilEnd_any (w : World) : Calls Try.prog 35 #[.pointer none] w fun e w' => e = .returned (.int .i64 10) ∧ w = w' := by
  go_enter Try.func35, Try.ntmps35
  go_wp2_with fail
  refine (nilGood_any _).mono ?_
  rintro e w1 ⟨rfl, rfl⟩
  go_wp2
  go_ret
  exact ⟨rfl, rfl⟩
set_option maxHeartbeats 800000 in
theorem nilText_any (c most : Int) (w : World) : Calls Try.prog 29 #[.pointer none, .int .u8 c, .int .i64 most] w fun e w' => e = .returned (str []) ∧ w = w' := by
  go_enter Try.func29, Try.ntmps29
  go_wp2_with fail
  refine (nilNext_any _).mono ?_
  rintro e w1 ⟨rfl, rfl⟩
  go_wp2_with fail
  refine (nilFails_any _).mono ?_
  rintro e w1 ⟨rfl, rfl⟩
  go_wp2
  go_ret
  exact ⟨rfl, rfl⟩
set_option maxHeartbeats 800000 in
theorem nilNum_any (c : Int) (w : World) : Calls Try.prog 32 #[.pointer none, .int .u8 c] w fun e w' => e = .returned (.int .u64 0) ∧ w = w' := by
  go_enter Try.func32, Try.ntmps32
  go_wp2_with fail
  refine (nilText_any _ _ _).mono ?_
  rintro e w1 ⟨rfl, rfl⟩
  go_wp2_with fail
  refine wp_loop_rounds 1 ?_
  rw [rounds_succ]
  go_wp2
  go_ret
  exact ⟨rfl, rfl⟩
set_option maxHeartbeats 800000 in
theorem nilInt_any (c most : Int) (w : World) (hm : most ≤ 9223372036854775807) : Calls Try.prog 36 #[.pointer none, .int .u8 c, .int .i64 most] w fun e w' => e = .returned (.int .i64 0) ∧ w = w' := by
  by_cases h1 : most < 0
  · go_enter Try.func36, Try.ntmps36
    go_wp2_with fail
    refine (nilNum_any _ _).mono ?_
    rintro e w1 ⟨rfl, rfl⟩
    go_wp2_with fail
    refine (nilFails_any _).mono ?_
    rintro e w1 ⟨rfl, rfl⟩
    go_wp2
    go_ret
    exact ⟨rfl, rfl⟩
  · have h0 : 0 ≤ most := by omega
    go_enter Try.func36, Try.ntmps36
    go_wp2_with fail
    refine (nilNum_any _ _).mono ?_
    rintro e w1 ⟨rfl, rfl⟩
    go_wp2
    go_ret
    exact ⟨rfl, rfl⟩
set_option maxRecDepth 100000 in
set_option maxHeartbeats 2000000 in
theorem nilAll_any (c many most : Int) (w : World) :
    Calls Try.prog 33 #[.pointer none, .int .u8 c, .int .i64 many, .int .i64 most] w fun e w' => e = .returned (.slice none 0 0) ∧ Below w.heap.size w w' := by
  by_cases hmany : many < 0
  all_goals
    go_enter Try.func33, Try.ntmps33
    go_wp2_with fail
    have HL0 := Lib.hid ((Blk.new w 5 #[.int .u8 c]).alloc (.cells #[.int .i64 most] 3))
    have hb0 : Below w.heap.size w ((w.alloc (.cells #[.int .u8 c] 5)).alloc (.cells #[.int .i64 most] 3)) := ((Below.refl _ w).alloc (Nat.le_refl _) _).alloc (by simp) _
    generalize (w.alloc (.cells #[.int .u8 c] 5)).alloc (.cells #[.int .i64 most] 3) = w1 at *
    obtain ⟨kL, -⟩ := cell1 HL0.out
    go_step3
    go_wp2_with fail
    refine (nilText_any c 16777215 _).mono ?_
    rintro e w2 ⟨rfl, rfl⟩
    clear kL
    go_wp2_with fail
    refine (read_any [] _).mono ?_
    rintro e w2 ⟨rfl, rfl⟩
    go_wp2_with fail
    go_step3
    go_wp2_with fail
    have Hi2 := Lib.hid (Blk.alloc (Blk.alloc (read_isRd [] w1) (.cells #[.pointer (some ⟨w1.heap.size, 0, none⟩)] 40)) (.cells #[.slice none 0 0] 25))
    have HI2 := Lib.hid ((Blk.new_at (w := w1.alloc (.cells #[str [], .bool false] 51)) (n := w1.heap.size + 1) (by simp) 40 #[.pointer (some ⟨w1.heap.size, 0, none⟩)]).alloc (.cells #[.slice none 0 0] 25))
    have HO2 := Lib.hid (Blk.new_at (w := (w1.alloc (.cells #[str [], .bool false] 51)).alloc (.cells #[.pointer (some ⟨w1.heap.size, 0, none⟩)] 40)) (n := w1.heap.size + 1 + 1) (by simp) 25 #[.slice none 0 0])
    have hb3 : Below w.heap.size w (((w1.alloc (.cells #[str [], .bool false] 51)).alloc (.cells #[.pointer (some ⟨w1.heap.size, 0, none⟩)] 40)).alloc (.cells #[.slice none 0 0] 25)) := by
      have := hb0.size
      exact ((hb0.alloc this _).alloc (by simp; omega) _).alloc (by simp; omega) _
    generalize ((w1.alloc (.cells #[str [], .bool false] 51)).alloc (.cells #[.pointer (some ⟨w1.heap.size, 0, none⟩)] 40)).alloc (.cells #[.slice none 0 0] 25) = W at *
    generalize w1.heap.size = B at *
    obtain ⟨kI, -⟩ := cell1 HI2.out
    obtain ⟨kO, -⟩ := cell1 HO2.out
    refine wp_loop_rounds 1 ?_
    rw [rounds_succ]
    go_wp2_with fail
    refine (left_ok [] B _ Hi2.out).mono ?_
    rintro e w4 ⟨rfl, rfl⟩
    go_wp2_with fail
  · refine (nilFails_any _).mono ?_
    rintro e w1 ⟨rfl, rfl⟩
    go_wp2_with fail
    refine (nilGood_any _).mono ?_
    rintro e w1 ⟨rfl, rfl⟩
    go_wp2
    rw [Exit.noGoto_ret]
    go_ret
    exact ⟨rfl, hb3⟩
  · refine (nilGood_any _).mono ?_
    rintro e w1 ⟨rfl, rfl⟩
    go_wp2
    rw [Exit.noGoto_ret]
    go_ret
    exact ⟨rfl, hb3⟩
end Go.Proofs.Ytjanmonoigpmcaa

/-
  The walk of TlvNil: it returns true for every letter and bound. No conditions beside those in each theorem.
-/
import Derived.Test.YtjanmonoigpmcaaNilReader
import Derived.Test.YtjanmonoigpmcaaLaw01
namespace Go.Proofs.Ytjanmonoigpmcaa
open Go.RowKit

set_option maxRecDepth 100000 in
set_option maxHeartbeats 1600000 in
theorem tlvNil_walk (c : Int) (c0 : 0 ≤ c) (c1 : c ≤ 255) (most : Int) (wm : (Lit.int .i64 most).wf = true) (w : World) :
    Calls Try.prog 7 #[.int .u8 c, .int .i64 most] w fun e w' => e = .returned (.bool true) ∧ Below w.heap.size w w' := by
  have hmost := (bounds_i64 wm).2
  clear wm
  go_enter Try.func7, Try.ntmps7
  go_wp2_with fail
  have HZ := Lib.hid (Blk.new w 51 #[str [], .bool false])
  have hb0 := (Below.refl w.heap.size w).alloc (Nat.le_refl _) (.cells #[str [], .bool false] 51)
  refine (nilNum_any _ _).mono ?_
  rintro e w1 ⟨rfl, rfl⟩
  go_wp2_with fail
  refine (nilInt_any _ _ _ (by omega)).mono ?_
  rintro e w1 ⟨rfl, rfl⟩
  go_wp2_with fail
  refine (nilText_any _ _ _).mono ?_
  rintro e w1 ⟨rfl, rfl⟩
  go_wp2_with fail
  refine (nilAll_any _ _ _ _).mono ?_
  rintro e w1 ⟨rfl, hb1⟩
  have HZ1 := Lib.hid (Blk.step HZ.out hb1)
  have hb1' := bel_step hb0 hb1
  clear hb1 hb0 HZ
  go_wp2_with fail
  refine (nilNext_any _).mono ?_
  rintro e w2 ⟨rfl, rfl⟩
  go_wp2_with fail
  refine (awake01_any _).mono ?_
  rintro e w3 ⟨rfl, hb3⟩
  have HZ3 := Lib.hid (Blk.step HZ1.out hb3)
  have hb3' := bel_step hb1' hb3
  clear hb3 hb1' HZ1
  go_wp2_with fail
  refine (nilLeft_any _).mono ?_
  rintro e w4 ⟨rfl, rfl⟩
  go_wp2_with fail
  refine (nilGood_any _).mono ?_
  rintro e w4 ⟨rfl, rfl⟩
  go_wp2_with fail
  refine (nilEnd_any _).mono ?_
  rintro e w4 ⟨rfl, rfl⟩
  go_wp2_with fail
  refine (good_any [] false _ _ HZ3.out).mono ?_
  rintro e w4 ⟨rfl, rfl⟩
  go_wp2_with fail
  refine (end_any [] false _ _ HZ3.out).mono ?_
  rintro e w4 ⟨rfl, rfl⟩
  rw [show rEnd ([], false) = 0 by decide]
  go_wp2_with fail
  refine (readNum_any [] false c _ _ HZ3.out c0 c1 (by decide) 0 [] true rfl).mono ?_
  rintro e w5 ⟨rfl, hr5, hu5⟩
  have hb5 := hb3'.trans (upd_below hu5 hb3'.size (Nat.le_refl _))
  have HR5 := Lib.hid hr5
  clear hr5 hu5 hb3'
  go_wp2_with fail
  refine (good_any [] true _ _ HR5.out).mono ?_
  rintro e w6 ⟨rfl, rfl⟩
  go_wp2
  go_ret
  exact ⟨rfl, hb5⟩
end Go.Proofs.Ytjanmonoigpmcaa

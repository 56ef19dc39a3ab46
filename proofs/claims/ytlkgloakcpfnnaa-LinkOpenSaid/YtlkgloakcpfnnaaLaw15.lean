/-
  The helpers short, small and awake of the statements of layer 15. No conditions.
-/
import Derived.Test.YtlkgloakcpfnnaaLinkRef
namespace Go.Proofs.Ytlkgloakcpfnnaa
open Go.RowKit

def cut40 (l : List UInt8) : List UInt8 := l.take 40
theorem cut40_fits (l : List UInt8) : Fits (cut40 l) := by unfold Fits cut40; have := List.length_take_le 40 l; omega

set_option maxHeartbeats 400000 in
theorem short15_any (s : List UInt8) (w : World) :
    Calls Try.prog 21 #[str s] w fun e w' => e = .returned (str (cut40 s)) ∧ w = w' := by
  by_cases h : 40 < s.length
  · go_enter Try.func21, Try.ntmps21
    go_wp2
    go_ret
    exact ⟨rfl, rfl⟩
  · have e := List.take_of_length_le (l := s) (i := 40) (by omega)
    have E := Lib.hid e
    clear e
    go_enter Try.func21, Try.ntmps21
    go_wp2
    go_ret
    exact ⟨by unfold cut40; rw [E.out]; rfl, rfl⟩

set_option maxRecDepth 100000 in
set_option maxHeartbeats 800000 in
theorem small_any (st : Int) (a b c : List UInt8) (w : World) :
    Calls Try.prog 27 #[.agg #[.int .i64 st, str a, str b, str c]] w fun e w' =>
      e = .returned (.agg #[.int .i64 st, str (cut40 a), str (cut40 b), str (cut40 c)]) ∧ Below w.heap.size w w' := by
  go_enter Try.func27, Try.ntmps27
  go_wp2_with fail
  refine (short15_any a _).mono ?_
  rintro e w1 ⟨rfl, rfl⟩
  go_wp2_with fail
  refine (short15_any b _).mono ?_
  rintro e w1 ⟨rfl, rfl⟩
  go_wp2_with fail
  refine (short15_any c _).mono ?_
  rintro e w1 ⟨rfl, rfl⟩
  go_wp2
  go_returns
  exact ⟨rfl, by go_grown⟩

theorem fits_k1 : Fits [107, 49] := by unfold Fits; decide
theorem fits_k2 : Fits [107, 50] := by unfold Fits; decide
theorem fits_a : Fits [97] := by unfold Fits; decide
theorem fits_b : Fits [98] := by unfold Fits; decide

set_option maxRecDepth 100000 in
set_option maxHeartbeats 1600000 in
theorem awake15_any (w : World) :
    Calls Try.prog 20 #[] w fun e w' => e = .returned (.bool true) ∧ Below w.heap.size w w' := by
  go_enter Try.func20, Try.ntmps20
  go_wp2_with fail
  refine (init_any [107, 49] [107, 50] 1 [107, 49] [107, 50] [] 0 _ (by decide) fits_k1 fits_k2).mono ?_
  rintro e w1 ⟨rfl, hb1⟩
  go_wp2_with fail
  refine (try_any [107, 50] [97] 1 [107, 49] [107, 50] [] 2 [107, 50] [107, 49] [97] 0 _ (by decide) fits_k2 fits_a fits_k1 fits_k2 Fits.nil).mono ?_
  rintro e w2 ⟨rfl, hb2⟩
  have z1 := hb1.size
  have hk0 := Blk.step (Blk.new w1 _ _) hb2
  have hb2' := bel_step (w := w) (hb1.alloc z1 _) hb2
  have l0 := hk0.lt
  obtain ⟨c00, c01, c02, c03, f00, f01, f02, f03⟩ := cells4 hk0
  have Hk0 := Lib.hid hk0
  clear hk0 hb2
  go_wp2_with fail
  refine (ack_any 1 [107, 49] [107, 50] [] [97] [98] 2 [107, 50] [107, 49] [97] 3 [107, 49] [107, 50] [98] 0 _ (by decide) fits_k1 fits_k2 Fits.nil fits_a fits_b fits_k2 fits_k1 fits_a).mono ?_
  rintro e w3 ⟨rfl, hb3⟩
  have z2 := hb2'.size
  have hk0 := Blk.step (Hk0.out.alloc _) hb3
  have hk1 := Blk.step (Blk.new w2 _ _) hb3
  have hb3' := bel_step (w := w) (hb2'.alloc z2 _) hb3
  have l1 := hk1.lt
  clear c00 c01 c02 c03 f00 f01 f02 f03 hb3 hb2' Hk0
  obtain ⟨c00, c01, c02, c03, f00, f01, f02, f03⟩ := cells4 hk0
  obtain ⟨c10, c11, c12, c13, f10, f11, f12, f13⟩ := cells4 hk1
  have Hk0 := Lib.hid hk0
  have Hk1 := Lib.hid hk1
  clear hk0 hk1
  go_wp2_with fail
  refine (confirm_any 2 [107, 50] [107, 49] [97] [98] 3 [107, 49] [107, 50] [98] 3 [107, 50] [107, 49] [97] 0 _ (by decide) fits_k2 fits_k1 fits_a fits_k1 fits_k2 fits_b).mono ?_
  rintro e w4 ⟨rfl, hb4⟩
  have z3 := hb3'.size
  have hk0 := Blk.step ((((Hk0.out.set_ 0 _).set_ 1 _).set_ 2 _).set_ 3 _) hb4
  have hk1 := Blk.step ((((Hk1.out.far (by simp; omega) _).far (by simp; omega) _).far (by simp; omega) _).far (by simp; omega) _) hb4
  have hb4' := bel_step (w := w) (by go_grown) hb4
  clear c00 c01 c02 c03 f00 f01 f02 f03 c10 c11 c12 c13 f10 f11 f12 f13 Hk0 Hk1 hb4
  obtain ⟨c00, c01, c02, c03, f00, f01, f02, f03⟩ := cells4 hk0
  obtain ⟨c10, c11, c12, c13, f10, f11, f12, f13⟩ := cells4 hk1
  clear hk0 hk1
  go_wp2
  go_ret
  exact ⟨rfl, by go_grown⟩
end Go.Proofs.Ytlkgloakcpfnnaa

/-
  What link.Ack, Confirm and Close return, for texts of at most 2^47 bytes.
-/
import Derived.Test.YtlkgloakcpfnnaaLinkD
namespace Go.Proofs.Ytlkgloakcpfnnaa
open Go.RowKit

set_option maxRecDepth 100000 in
set_option maxHeartbeats 1600000 in
theorem ack_any (st : Int) (a b c id peer : List UInt8) (st' : Int) (a' b' c' : List UInt8) (x : Int) (ra rb rc : List UInt8) (er : Int) (w : World)
    (hr : ackR (st, a, b, c) id peer (st', a', b', c') = ((x, ra, rb, rc), er)) (fa : Fits a) (fb : Fits b) (fc : Fits c) (fi : Fits id) (fp : Fits peer) (fa' : Fits a') (fb' : Fits b') (fc' : Fits c') :
    Calls Try.prog 25 #[.agg #[.int .i64 st, str a, str b, str c], str id, str peer, .agg #[.int .i64 st', str a', str b', str c']] w fun e w' =>
      e = .returned (.tuple #[.agg #[.int .i64 x, str ra, str rb, str rc], .int .i64 er]) ∧ Below w.heap.size w w' := by
  obtain ⟨u, hu⟩ : ∃ u, (partB id && partB peer) = u := ⟨_, rfl⟩
  rw [ackR, hu] at hr
  have Hu := Lib.hid hu
  clear hu
  cases u
  · simp only [noEn, if_true, Prod.mk.injEq] at hr
    obtain ⟨⟨rfl, rfl, rfl, rfl⟩, rfl⟩ := hr
    go_enter Try.func25, Try.ntmps25
    go_wp2_with fail
    refine (parts2_any id peer _ false _ Hu.out fi fp (by simp [go_sem]) (by simp [go_sem]) (by simp)).mono ?_
    rintro e w1 ⟨rfl, hb1⟩
    have hk2 := Blk.step ((Blk.new_at (n := w.heap.size + 2) (by simp) _ _).alloc _) hb1
    have hb1' := bel_step (w := w) (by go_grown) hb1
    obtain ⟨c20, c21, c22, c23, f20, f21, f22, f23⟩ := cells4 hk2
    have Hk2 := Lib.hid hk2
    clear hk2 hb1
    go_wp2
    refine bodyPost_ret (results_cellrow_tmp rfl _ _ (w.heap.size + 2) 35 #[.int .i64 0, str [], str [], str []] _ rfl ?_ Try.underlying35 rfl Try.sizeEnd) rfl ⟨rfl, ?_⟩
    · exact ((((Hk2.out.set_ 0 _).set_ 1 _).set_ 2 _).set_ 3 _)
    go_grown
  · simp only [Bool.true_eq_false, if_false] at hr
    have Hr := Lib.hid hr
    clear hr
    go_enter Try.func25, Try.ntmps25
    go_wp2_with fail
    refine (parts2_any id peer _ true _ Hu.out fi fp (by simp [go_sem]) (by simp [go_sem]) (by simp)).mono ?_
    rintro e w1 ⟨rfl, hb1⟩
    have hk0 := Blk.step ((((Blk.new w _ _).alloc _).alloc _).alloc _) hb1
    have hk1 := Blk.step (((Blk.new_at (n := w.heap.size + 1) (by simp) _ _).alloc _).alloc _) hb1
    have hk2 := Blk.step ((Blk.new_at (n := w.heap.size + 2) (by simp) _ _).alloc _) hb1
    have hb1' := bel_step (w := w) (by go_grown) hb1
    obtain ⟨c00, c01, c02, c03, f00, f01, f02, f03⟩ := cells4 hk0
    obtain ⟨c10, c11, c12, c13, f10, f11, f12, f13⟩ := cells4 hk1
    have Hk2 := Lib.hid hk2
    clear hk0 hk1 hk2 hb1
    go_wp2_with fail
    refine (opens_any st a b c 1 id peer st' a' b' c' 2 x ra rb rc er _ Hr.out fa fb fc fa' fb' fc').mono ?_
    rintro e w2 ⟨rfl, hb2⟩
    have hk2 := Blk.step Hk2.out hb2
    have hb2' := bel_step hb1' hb2
    clear c00 c01 c02 c03 f00 f01 f02 f03 c10 c11 c12 c13 f10 f11 f12 f13 hb1' hb2
    obtain ⟨c20, c21, c22, c23, f20, f21, f22, f23⟩ := cells4 hk2
    have Hk2 := Lib.hid hk2
    clear hk2
    go_wp2
    refine bodyPost_ret (results_cellrow_tmp rfl _ _ (w.heap.size + 2) 35 #[.int .i64 x, str ra, str rb, str rc] _ rfl ?_ Try.underlying35 rfl Try.sizeEnd) rfl ⟨rfl, ?_⟩
    · exact ((((Hk2.out.set_ 0 _).set_ 1 _).set_ 2 _).set_ 3 _)
    go_grown

set_option maxRecDepth 100000 in
set_option maxHeartbeats 1600000 in
theorem confirm_any (st : Int) (a b c id : List UInt8) (st' : Int) (a' b' c' : List UInt8) (x : Int) (ra rb rc : List UInt8) (er : Int) (w : World)
    (hr : confirmR (st, a, b, c) id (st', a', b', c') = ((x, ra, rb, rc), er)) (fa : Fits a) (fb : Fits b) (fc : Fits c) (fa' : Fits a') (fb' : Fits b') (fc' : Fits c') :
    Calls Try.prog 26 #[.agg #[.int .i64 st, str a, str b, str c], str id, .agg #[.int .i64 st', str a', str b', str c']] w fun e w' =>
      e = .returned (.tuple #[.agg #[.int .i64 x, str ra, str rb, str rc], .int .i64 er]) ∧ Below w.heap.size w w' := by
  have Hr := Lib.hid hr
  clear hr
  go_enter Try.func26, Try.ntmps26
  go_wp2_with fail
  refine (opens_any st a b c 2 id c st' a' b' c' 3 x ra rb rc er _ Hr.out fa fb fc fa' fb' fc').mono ?_
  rintro e w1 ⟨rfl, hb1⟩
  have hk2 := Blk.step (Blk.new_at (n := w.heap.size + 2) (by simp) _ _) hb1
  have hb1' := bel_step (w := w) (by go_grown) hb1
  obtain ⟨c20, c21, c22, c23, f20, f21, f22, f23⟩ := cells4 hk2
  have Hk2 := Lib.hid hk2
  clear hk2 hb1
  go_wp2
  refine bodyPost_ret (results_cellrow_tmp rfl _ _ (w.heap.size + 2) 35 #[.int .i64 x, str ra, str rb, str rc] _ rfl ?_ Try.underlying35 rfl Try.sizeEnd) rfl ⟨rfl, ?_⟩
  · exact ((((Hk2.out.set_ 0 _).set_ 1 _).set_ 2 _).set_ 3 _)
  go_grown

set_option maxRecDepth 100000 in
set_option maxHeartbeats 1600000 in
theorem close_any (st : Int) (a b c : List UInt8) (x : Int) (ra rb rc : List UInt8) (er : Int) (w : World)
    (hr : closeR (st, a, b, c) = ((x, ra, rb, rc), er)) (fa : Fits a) (fb : Fits b) (fc : Fits c) :
    Calls Try.prog 32 #[.agg #[.int .i64 st, str a, str b, str c]] w fun e w' =>
      e = .returned (.tuple #[.agg #[.int .i64 x, str ra, str rb, str rc], .int .i64 er]) ∧ Below w.heap.size w w' := by
  obtain ⟨u, hu⟩ : ∃ u, isE (st, a, b, c) 3 = u := ⟨_, rfl⟩
  rw [closeR, hu] at hr
  have Hu := Lib.hid hu
  clear hu
  cases u
  · simp only [noEn, Bool.false_eq_true, if_false, Prod.mk.injEq] at hr
    obtain ⟨⟨rfl, rfl, rfl, rfl⟩, rfl⟩ := hr
    go_enter Try.func32, Try.ntmps32
    go_wp2_with fail
    refine (is_any st a b c 3 false _ Hu.out fa fb fc).mono ?_
    rintro e w1 ⟨rfl, hb1⟩
    have hk1 := Blk.step (Blk.new_at (n := w.heap.size + 1) (by simp) _ _) hb1
    have hb1' := bel_step (w := w) (by go_grown) hb1
    obtain ⟨c10, c11, c12, c13, f10, f11, f12, f13⟩ := cells4 hk1
    have Hk1 := Lib.hid hk1
    clear hk1 hb1
    go_wp2
    refine bodyPost_ret (results_cellrow_tmp rfl _ _ (w.heap.size + 1) 35 #[.int .i64 0, str [], str [], str []] _ rfl ?_ Try.underlying35 rfl Try.sizeEnd) rfl ⟨rfl, ?_⟩
    · exact ((((Hk1.out.set_ 0 _).set_ 1 _).set_ 2 _).set_ 3 _)
    go_grown
  · simp only [if_true, Prod.mk.injEq] at hr
    obtain ⟨⟨rfl, rfl, rfl, rfl⟩, rfl⟩ := hr
    go_enter Try.func32, Try.ntmps32
    go_wp2_with fail
    refine (is_any st a b c 3 true _ Hu.out fa fb fc).mono ?_
    rintro e w1 ⟨rfl, hb1⟩
    have hk0 := Blk.step ((Blk.new w _ _).alloc _) hb1
    have hk1 := Blk.step (Blk.new_at (n := w.heap.size + 1) (by simp) _ _) hb1
    have hb1' := bel_step (w := w) (by go_grown) hb1
    obtain ⟨c00, c01, c02, c03, f00, f01, f02, f03⟩ := cells4 hk0
    obtain ⟨c10, c11, c12, c13, f10, f11, f12, f13⟩ := cells4 hk1
    have Hk1 := Lib.hid hk1
    clear hk0 hk1 hb1
    go_wp2
    refine bodyPost_ret (results_cellrow_tmp rfl _ _ (w.heap.size + 1) 35 #[.int .i64 4, str a, str b, str c] _ rfl ?_ Try.underlying35 rfl Try.sizeEnd) rfl ⟨rfl, ?_⟩
    · exact (((((Hk1.out.far (by simp) _).set_ 0 _).set_ 1 _).set_ 2 _).set_ 3 _)
    go_grown
end Go.Proofs.Ytlkgloakcpfnnaa

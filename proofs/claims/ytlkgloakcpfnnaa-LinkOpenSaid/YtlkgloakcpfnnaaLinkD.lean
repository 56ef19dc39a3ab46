/-
  What link.opens, Ack, Confirm and Close return, for texts of at most 2^47 bytes.
-/
import Derived.Test.YtlkgloakcpfnnaaLinkC
namespace Go.Proofs.Ytlkgloakcpfnnaa
open Go.RowKit

set_option maxRecDepth 100000 in
set_option maxHeartbeats 1600000 in
theorem opens1_any (st : Int) (a b c : List UInt8) (st' : Int) (a' b' c' id : List UInt8) (v : Bool) (gt g gi : Nat) (w : World) (hv : meansE (st, a, b, c) id (st', a', b', c') = v)
    (ht : Blk w gt 35 #[.int .i64 st', str a', str b', str c']) (ho : Blk w g 35 #[.int .i64 st, str a, str b, str c]) (hi : Blk w gi 9 #[str id]) :
    Calls Try.prog 70 #[.pointer (some ⟨gt, 0, none⟩), .pointer (some ⟨g, 0, none⟩), .pointer (some ⟨gi, 0, none⟩)] w fun e w' => e = .returned (.bool v) ∧ w = w' := by
  have Hv := Lib.hid hv
  clear hv
  obtain ⟨c00, c01, c02, c03, -⟩ := cells4 ht
  obtain ⟨c10, c11, c12, c13, -⟩ := cells4 ho
  obtain ⟨c20, -⟩ := cells1 hi
  clear ht ho hi
  by_cases h1 : a' = b
  · subst h1
    by_cases h2 : b' = a
    · subst h2
      by_cases h3 : c' = id
      · subst h3
        go_enter Try.func70, Try.ntmps70
        go_wp2
        go_ret
        exact ⟨by rw [← Hv.out]; simp [meansE], rfl⟩
      · have h3' : (c' == id) = false := by simpa using h3
        have H3 := Lib.hid h3
        clear h3
        go_enter Try.func70, Try.ntmps70
        go_wp2
        go_ret
        exact ⟨by rw [← Hv.out]; simp [meansE, H3.out], rfl⟩
    · have h2' : (b' == a) = false := by simpa using h2
      have H2 := Lib.hid h2
      clear h2
      go_enter Try.func70, Try.ntmps70
      go_wp2
      go_ret
      exact ⟨by rw [← Hv.out]; simp [meansE, H2.out], rfl⟩
  · have h1' : (a' == b) = false := by simpa using h1
    have H1 := Lib.hid h1
    clear h1
    go_enter Try.func70, Try.ntmps70
    go_wp2
    go_ret
    exact ⟨by rw [← Hv.out]; simp [meansE, H1.out], rfl⟩

set_option maxRecDepth 100000 in
set_option maxHeartbeats 1600000 in
theorem opens_any (st : Int) (a b c : List UInt8) (k : Int) (id peer : List UInt8) (st' : Int) (a' b' c' : List UInt8) (k' : Int) (x : Int) (ra rb rc : List UInt8) (er : Int) (w : World)
    (hr : opensR (st, a, b, c) k id peer (st', a', b', c') k' = ((x, ra, rb, rc), er)) (fa : Fits a) (fb : Fits b) (fc : Fits c) (fa' : Fits a') (fb' : Fits b') (fc' : Fits c') :
    Calls Try.prog 51 #[.agg #[.int .i64 st, str a, str b, str c], .int .i64 k, str id, str peer, .agg #[.int .i64 st', str a', str b', str c'], .int .i64 k'] w fun e w' =>
      e = .returned (.tuple #[.agg #[.int .i64 x, str ra, str rb, str rc], .int .i64 er]) ∧ Below w.heap.size w w' := by
  obtain ⟨u, hu⟩ : ∃ u, isE (st, a, b, c) k = u := ⟨_, rfl⟩
  obtain ⟨v, hv⟩ : ∃ v, isE (st', a', b', c') k' = v := ⟨_, rfl⟩
  obtain ⟨m, hm⟩ : ∃ m, meansE (st, a, b, c) id (st', a', b', c') = m := ⟨_, rfl⟩
  rw [opensR, hu, hv, hm] at hr
  have Hu := Lib.hid hu
  have Hv := Lib.hid hv
  have Hm := Lib.hid hm
  clear hu hv hm
  cases u
  · simp only [noEn, Bool.false_and, Bool.false_eq_true, if_false, Prod.mk.injEq] at hr
    obtain ⟨⟨rfl, rfl, rfl, rfl⟩, rfl⟩ := hr
    go_enter Try.func51, Try.ntmps51
    go_wp2_with fail
    refine (is_any st a b c k false _ Hu.out fa fb fc).mono ?_
    rintro e w1 ⟨rfl, hb1⟩
    have hk3 := Blk.step (Blk.new_at (n := w.heap.size + 3) (by simp) _ _) hb1
    obtain ⟨c30, c31, c32, c33, f30, f31, f32, f33⟩ := cells4 hk3
    have Hk3 := Lib.hid hk3
    clear hk3
    go_wp2
    refine bodyPost_ret (results_cellrow_tmp rfl _ _ (w.heap.size + 3) 35 #[.int .i64 0, str [], str [], str []] _ rfl ?_ Try.underlying35 rfl Try.sizeEnd) rfl ⟨rfl, ?_⟩
    · exact ((((Hk3.out.set_ 0 _).set_ 1 _).set_ 2 _).set_ 3 _)
    have hb := bel_step (w := w) (by go_grown) hb1
    go_grown
  · cases v
    · simp only [noEn, Bool.true_and, Bool.false_and, Bool.false_eq_true, if_false, Prod.mk.injEq] at hr
      obtain ⟨⟨rfl, rfl, rfl, rfl⟩, rfl⟩ := hr
      go_enter Try.func51, Try.ntmps51
      go_wp2_with fail
      refine (is_any st a b c k true _ Hu.out fa fb fc).mono ?_
      rintro e w1 ⟨rfl, hb1⟩
      have hk0 := Blk.step ((((Blk.new w _ _).alloc _).alloc _).alloc _) hb1
      have hk1 := Blk.step (((Blk.new_at (n := w.heap.size + 1) (by simp) _ _).alloc _).alloc _) hb1
      have hk2 := Blk.step ((Blk.new_at (n := w.heap.size + 2) (by simp) _ _).alloc _) hb1
      have hk3 := Blk.step (Blk.new_at (n := w.heap.size + 3) (by simp) _ _) hb1
      have hb1' := bel_step (w := w) (by go_grown) hb1
      have Hk0 := Lib.hid hk0
      have Hk1 := Lib.hid hk1
      have Hk3 := Lib.hid hk3
      obtain ⟨c20, c21, c22, c23, f20, f21, f22, f23⟩ := cells4 hk2
      have Hk2 := Lib.hid hk2
      clear hk0 hk1 hk2 hk3 hb1
      go_wp2_with fail
      refine (is_any st' a' b' c' k' false _ Hv.out fa' fb' fc').mono ?_
      rintro e w2 ⟨rfl, hb2⟩
      have hk0 := Blk.step Hk0.out hb2
      have hk1 := Blk.step Hk1.out hb2
      have hk2 := Blk.step Hk2.out hb2
      have hk3 := Blk.step Hk3.out hb2
      have hb2' := bel_step hb1' hb2
      clear c20 c21 c22 c23 f20 f21 f22 f23 Hk0 Hk1 Hk2 Hk3 hb1' hb2
      obtain ⟨c30, c31, c32, c33, f30, f31, f32, f33⟩ := cells4 hk3
      have Hk0 := Lib.hid hk0
      have Hk1 := Lib.hid hk1
      have Hk2 := Lib.hid hk2
      have Hk3 := Lib.hid hk3
      clear hk0 hk1 hk2 hk3
      go_wp2
      refine bodyPost_ret (results_cellrow_tmp rfl _ _ (w.heap.size + 3) 35 #[.int .i64 0, str [], str [], str []] _ rfl ?_ Try.underlying35 rfl Try.sizeEnd) rfl ⟨rfl, ?_⟩
      · exact ((((Hk3.out.set_ 0 _).set_ 1 _).set_ 2 _).set_ 3 _)
      go_grown
    · cases m
      · simp only [noEn, Bool.true_and, Bool.false_eq_true, if_false, Prod.mk.injEq] at hr
        obtain ⟨⟨rfl, rfl, rfl, rfl⟩, rfl⟩ := hr
        go_enter Try.func51, Try.ntmps51
        go_wp2_with fail
        refine (is_any st a b c k true _ Hu.out fa fb fc).mono ?_
        rintro e w1 ⟨rfl, hb1⟩
        have hk0 := Blk.step ((((Blk.new w _ _).alloc _).alloc _).alloc _) hb1
        have hk1 := Blk.step (((Blk.new_at (n := w.heap.size + 1) (by simp) _ _).alloc _).alloc _) hb1
        have hk2 := Blk.step ((Blk.new_at (n := w.heap.size + 2) (by simp) _ _).alloc _) hb1
        have hk3 := Blk.step (Blk.new_at (n := w.heap.size + 3) (by simp) _ _) hb1
        have hb1' := bel_step (w := w) (by go_grown) hb1
        have Hk0 := Lib.hid hk0
        have Hk1 := Lib.hid hk1
        have Hk3 := Lib.hid hk3
        obtain ⟨c20, c21, c22, c23, f20, f21, f22, f23⟩ := cells4 hk2
        have Hk2 := Lib.hid hk2
        clear hk0 hk1 hk2 hk3 hb1
        go_wp2_with fail
        refine (is_any st' a' b' c' k' true _ Hv.out fa' fb' fc').mono ?_
        rintro e w2 ⟨rfl, hb2⟩
        have hk0 := Blk.step Hk0.out hb2
        have hk1 := Blk.step Hk1.out hb2
        have hk2 := Blk.step Hk2.out hb2
        have hk3 := Blk.step Hk3.out hb2
        have hb2' := bel_step hb1' hb2
        clear c20 c21 c22 c23 f20 f21 f22 f23 Hk0 Hk1 Hk2 Hk3 hb1' hb2
        obtain ⟨c30, c31, c32, c33, f30, f31, f32, f33⟩ := cells4 hk3
        have Hk0 := Lib.hid hk0
        have Hk1 := Lib.hid hk1
        have Hk2 := Lib.hid hk2
        have Hk3 := Lib.hid hk3
        clear hk0 hk1 hk2 hk3
        go_wp2_with fail
        refine (opens1_any st a b c st' a' b' c' id false _ _ _ _ Hm.out Hk2.out Hk0.out Hk1.out).mono ?_
        rintro e w3 ⟨rfl, rfl⟩
        go_wp2
        refine bodyPost_ret (results_cellrow_tmp rfl _ _ (w.heap.size + 3) 35 #[.int .i64 0, str [], str [], str []] _ rfl ?_ Try.underlying35 rfl Try.sizeEnd) rfl ⟨rfl, ?_⟩
        · exact ((((Hk3.out.set_ 0 _).set_ 1 _).set_ 2 _).set_ 3 _)
        go_grown
      · simp only [Bool.true_and, if_true, Prod.mk.injEq] at hr
        obtain ⟨⟨rfl, rfl, rfl, rfl⟩, rfl⟩ := hr
        go_enter Try.func51, Try.ntmps51
        go_wp2_with fail
        refine (is_any st a b c k true _ Hu.out fa fb fc).mono ?_
        rintro e w1 ⟨rfl, hb1⟩
        have hk0 := Blk.step ((((Blk.new w _ _).alloc _).alloc _).alloc _) hb1
        have hk1 := Blk.step (((Blk.new_at (n := w.heap.size + 1) (by simp) _ _).alloc _).alloc _) hb1
        have hk2 := Blk.step ((Blk.new_at (n := w.heap.size + 2) (by simp) _ _).alloc _) hb1
        have hk3 := Blk.step (Blk.new_at (n := w.heap.size + 3) (by simp) _ _) hb1
        have hb1' := bel_step (w := w) (by go_grown) hb1
        have Hk0 := Lib.hid hk0
        have Hk1 := Lib.hid hk1
        have Hk3 := Lib.hid hk3
        obtain ⟨c20, c21, c22, c23, f20, f21, f22, f23⟩ := cells4 hk2
        have Hk2 := Lib.hid hk2
        clear hk0 hk1 hk2 hk3 hb1
        go_wp2_with fail
        refine (is_any st' a' b' c' k' true _ Hv.out fa' fb' fc').mono ?_
        rintro e w2 ⟨rfl, hb2⟩
        have hk0 := Blk.step Hk0.out hb2
        have hk1 := Blk.step Hk1.out hb2
        have hk2 := Blk.step Hk2.out hb2
        have hk3 := Blk.step Hk3.out hb2
        have hb2' := bel_step hb1' hb2
        clear c20 c21 c22 c23 f20 f21 f22 f23 Hk0 Hk1 Hk2 Hk3 hb1' hb2
        obtain ⟨c30, c31, c32, c33, f30, f31, f32, f33⟩ := cells4 hk3
        have Hk0 := Lib.hid hk0
        have Hk1 := Lib.hid hk1
        have Hk2 := Lib.hid hk2
        have Hk3 := Lib.hid hk3
        clear hk0 hk1 hk2 hk3
        go_wp2_with fail
        refine (opens1_any st a b c st' a' b' c' id true _ _ _ _ Hm.out Hk2.out Hk0.out Hk1.out).mono ?_
        rintro e w3 ⟨rfl, rfl⟩
        obtain ⟨c00, c01, c02, c03, f00, f01, f02, f03⟩ := cells4 Hk0.out
        go_wp2
        refine bodyPost_ret (results_cellrow_tmp rfl _ _ (w.heap.size + 3) 35 #[.int .i64 3, str a, str b, str peer] _ rfl ?_ Try.underlying35 rfl Try.sizeEnd) rfl ⟨rfl, ?_⟩
        · exact ((((((Hk3.out.far (by simp) _).far (by simp) _).set_ 0 _).set_ 1 _).set_ 2 _).set_ 3 _)
        go_grown

end Go.Proofs.Ytlkgloakcpfnnaa

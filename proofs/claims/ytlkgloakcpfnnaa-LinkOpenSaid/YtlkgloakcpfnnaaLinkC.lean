/-
  What link.Init, Try, opens, Ack, Confirm and Close return, for texts of at most 2^47 bytes.
-/
import Derived.Test.YtlkgloakcpfnnaaLinkB
import Derived.Test.YtlkgloakcpfnnaaBlk
namespace Go.Proofs.Ytlkgloakcpfnnaa
open Go.RowKit

theorem Try.sizeEnd : (Try.prog.info? 35).map (·.size) = some 4 := by kernel_rfl

theorem cells4 {w : World} {g : Nat} {t : TypeId} {a b c d : Value} (h : Blk w g t #[a, b, c, d]) : w.cell? ⟨g, 0, none⟩ = some a ∧ w.cell? ⟨g, 1, none⟩ = some b ∧ w.cell? ⟨g, 2, none⟩ = some c ∧ w.cell? ⟨g, 3, none⟩ = some d ∧
    w.frozen? ⟨g, 0, none⟩ = false ∧ w.frozen? ⟨g, 1, none⟩ = false ∧ w.frozen? ⟨g, 2, none⟩ = false ∧ w.frozen? ⟨g, 3, none⟩ = false :=
  ⟨h.cell 0, h.cell 1, h.cell 2, h.cell 3, h.frozen 0, h.frozen 1, h.frozen 2, h.frozen 3⟩
theorem cells1 {w : World} {g : Nat} {t : TypeId} {a : Value} (h : Blk w g t #[a]) : w.cell? ⟨g, 0, none⟩ = some a ∧ w.frozen? ⟨g, 0, none⟩ = false := ⟨h.cell 0, h.frozen 0⟩

set_option maxRecDepth 100000 in
set_option maxHeartbeats 800000 in
theorem init_any (o p : List UInt8) (x : Int) (a b c : List UInt8) (er : Int) (w : World) (hr : initR o p = ((x, a, b, c), er)) (fo : Fits o) (fp : Fits p) :
    Calls Try.prog 23 #[str o, str p] w fun e w' => e = .returned (.tuple #[.agg #[.int .i64 x, str a, str b, str c], .int .i64 er]) ∧ Below w.heap.size w w' := by
  obtain ⟨u, hu⟩ : ∃ u, (partB o && partB p) = u := ⟨_, rfl⟩
  have Hu := Lib.hid hu
  rw [initR, hu] at hr
  clear hu
  cases u
  · simp only [noEn, Bool.false_eq_true, if_false, Prod.mk.injEq] at hr
    obtain ⟨⟨rfl, rfl, rfl, rfl⟩, rfl⟩ := hr
    go_enter Try.func23, Try.ntmps23
    go_wp2_with fail
    refine (parts2_any o p _ false _ Hu.out fo fp (by simp [go_sem]) (by simp [go_sem]) (by simp)).mono ?_
    rintro e w1 ⟨rfl, hb1⟩
    obtain ⟨hc, hf⟩ := bcell hb1
    have hk := (Blk.new w 35 #[.int .i64 0, str [], str [], str []]).alloc (.cells #[str o, str p] 9)
    have Hk := Lib.hid hk
    clear hk
    have hz := hb1.size
    go_wp2
    refine bodyPost_ret (results_cellrow_tmp rfl _ _ w.heap.size 35 #[.int .i64 0, str [], str [], str []] _ rfl ?_ Try.underlying35 rfl Try.sizeEnd) rfl ⟨rfl, ?_⟩
    · exact (((((Hk.out.step hb1).set_ 0 _).set_ 1 _).set_ 2 _).set_ 3 _)
    have hk := Hk.out
    have hb := bel_step (w := w) (by go_grown) hb1
    go_grown
  · simp only [if_true, Prod.mk.injEq] at hr
    obtain ⟨⟨rfl, rfl, rfl, rfl⟩, rfl⟩ := hr
    go_enter Try.func23, Try.ntmps23
    go_wp2_with fail
    refine (parts2_any o p _ true _ Hu.out fo fp (by simp [go_sem]) (by simp [go_sem]) (by simp)).mono ?_
    rintro e w1 ⟨rfl, hb1⟩
    obtain ⟨hc, hf⟩ := bcell hb1
    have hk := (Blk.new w 35 #[.int .i64 0, str [], str [], str []]).alloc (.cells #[str o, str p] 9)
    have Hk := Lib.hid hk
    clear hk
    have hz := hb1.size
    go_wp2
    refine bodyPost_ret (results_cellrow_tmp rfl _ _ w.heap.size 35 #[.int .i64 1, str o, str p, str []] _ rfl ?_ Try.underlying35 rfl Try.sizeEnd) rfl ⟨rfl, ?_⟩
    · exact (((((Hk.out.step hb1).set_ 0 _).set_ 1 _).set_ 2 _).set_ 3 _)
    have hk := Hk.out
    have hb := bel_step (w := w) (by go_grown) hb1
    go_grown
set_option maxRecDepth 100000 in
set_option maxHeartbeats 1600000 in
theorem try_any (o p : List UInt8) (st : Int) (a b c : List UInt8) (x : Int) (ra rb rc : List UInt8) (er : Int) (w : World) (hr : tryR o p (st, a, b, c) = ((x, ra, rb, rc), er))
    (fo : Fits o) (fp : Fits p) (fa : Fits a) (fb : Fits b) (fc : Fits c) :
    Calls Try.prog 24 #[str o, str p, .agg #[.int .i64 st, str a, str b, str c]] w fun e w' =>
      e = .returned (.tuple #[.agg #[.int .i64 x, str ra, str rb, str rc], .int .i64 er]) ∧ Below w.heap.size w w' := by
  obtain ⟨u, hu⟩ : ∃ u, (partB o && partB p) = u := ⟨_, rfl⟩
  have Hu := Lib.hid hu
  rw [tryR, hu] at hr
  clear hu
  obtain ⟨v, hv⟩ : ∃ v, isE (st, a, b, c) 1 = v := ⟨_, rfl⟩
  have Hv := Lib.hid hv
  rw [hv] at hr
  clear hv
  cases u
  · simp only [noEn, if_true, Prod.mk.injEq] at hr
    obtain ⟨⟨rfl, rfl, rfl, rfl⟩, rfl⟩ := hr
    go_enter Try.func24, Try.ntmps24
    go_wp2_with fail
    refine (parts2_any o p _ false _ Hu.out fo fp (by simp [go_sem]) (by simp [go_sem]) (by simp)).mono ?_
    rintro e w1 ⟨rfl, hb1⟩
    have hk0 := Blk.step (((Blk.new w _ _).alloc _).alloc _) hb1
    have hk1 := Blk.step ((Blk.new_at (n := w.heap.size + 1) (by simp) _ _).alloc _) hb1
    obtain ⟨c00, c01, c02, c03, f00, f01, f02, f03⟩ := cells4 hk0
    obtain ⟨c10, c11, c12, c13, f10, f11, f12, f13⟩ := cells4 hk1
    have Hk1 := Lib.hid hk1
    clear hk0 hk1
    go_wp2
    refine bodyPost_ret (results_cellrow_tmp rfl _ _ (w.heap.size + 1) 35 #[.int .i64 0, str [], str [], str []] _ rfl ?_ Try.underlying35 rfl Try.sizeEnd) rfl ⟨rfl, ?_⟩
    · exact ((((Hk1.out.set_ 0 _).set_ 1 _).set_ 2 _).set_ 3 _)
    have hb := bel_step (w := w) (by go_grown) hb1
    go_grown
  · cases v
    · simp only [noEn, Bool.false_and, Bool.true_eq_false, if_true, if_false, Prod.mk.injEq] at hr
      obtain ⟨⟨rfl, rfl, rfl, rfl⟩, rfl⟩ := hr
      go_enter Try.func24, Try.ntmps24
      go_wp2_with fail
      refine (parts2_any o p _ true _ Hu.out fo fp (by simp [go_sem]) (by simp [go_sem]) (by simp)).mono ?_
      rintro e w1 ⟨rfl, hb1⟩
      have hk0 := Blk.step (((Blk.new w _ _).alloc _).alloc _) hb1
      have hk1 := Blk.step ((Blk.new_at (n := w.heap.size + 1) (by simp) _ _).alloc _) hb1
      obtain ⟨c00, c01, c02, c03, f00, f01, f02, f03⟩ := cells4 hk0
      have Hk1 := Lib.hid hk1
      clear hk0 hk1
      go_wp2_with fail
      refine (is_any st a b c 1 false _ Hv.out fa fb fc).mono ?_
      rintro e w2 ⟨rfl, hb2⟩
      have hk1 := Blk.step Hk1.out hb2
      obtain ⟨c10, c11, c12, c13, f10, f11, f12, f13⟩ := cells4 hk1
      have Hk1 := Lib.hid hk1
      clear hk1 c00 c01 c02 c03 f00 f01 f02 f03
      go_wp2
      refine bodyPost_ret (results_cellrow_tmp rfl _ _ (w.heap.size + 1) 35 #[.int .i64 0, str [], str [], str []] _ rfl ?_ Try.underlying35 rfl Try.sizeEnd) rfl ⟨rfl, ?_⟩
      · exact ((((Hk1.out.set_ 0 _).set_ 1 _).set_ 2 _).set_ 3 _)
      have hb := bel_step (w := w) (bel_step (w := w) (by go_grown) hb1) hb2
      go_grown
    · by_cases hbo : b = o
      · subst hbo
        simp only [Bool.true_and, decide_true, Bool.true_eq_false, if_false, Prod.mk.injEq] at hr
        obtain ⟨⟨rfl, rfl, rfl, rfl⟩, rfl⟩ := hr
        go_enter Try.func24, Try.ntmps24
        go_wp2_with fail
        refine (parts2_any b p _ true _ Hu.out fb fp (by simp [go_sem]) (by simp [go_sem]) (by simp)).mono ?_
        rintro e w1 ⟨rfl, hb1⟩
        have hk0 := Blk.step (((Blk.new w _ _).alloc _).alloc _) hb1
        have hk1 := Blk.step ((Blk.new_at (n := w.heap.size + 1) (by simp) _ _).alloc _) hb1
        obtain ⟨c00, c01, c02, c03, f00, f01, f02, f03⟩ := cells4 hk0
        have Hk0 := Lib.hid hk0
        have Hk1 := Lib.hid hk1
        clear hk0 hk1
        go_wp2_with fail
        refine (is_any st a b c 1 true _ Hv.out fa fb fc).mono ?_
        rintro e w2 ⟨rfl, hb2⟩
        have hk0 := Blk.step Hk0.out hb2
        have hk1 := Blk.step Hk1.out hb2
        clear c00 c01 c02 c03 f00 f01 f02 f03
        obtain ⟨c00, c01, c02, c03, f00, f01, f02, f03⟩ := cells4 hk0
        obtain ⟨c10, c11, c12, c13, f10, f11, f12, f13⟩ := cells4 hk1
        have Hk1 := Lib.hid hk1
        clear hk0 hk1 Hk0
        go_wp2
        refine bodyPost_ret (results_cellrow_tmp rfl _ _ (w.heap.size + 1) 35 #[.int .i64 2, str b, str a, str p] _ rfl ?_ Try.underlying35 rfl Try.sizeEnd) rfl ⟨rfl, ?_⟩
        · exact ((((Hk1.out.set_ 0 _).set_ 1 _).set_ 2 _).set_ 3 _)
        have hb := bel_step (w := w) (bel_step (w := w) (by go_grown) hb1) hb2
        go_grown
      · have hbo' : (b == o) = false := by simpa using hbo
        simp only [hbo, decide_false, Bool.and_false, Bool.true_eq_false, if_true, if_false, noEn, Prod.mk.injEq] at hr
        clear hbo
        obtain ⟨⟨rfl, rfl, rfl, rfl⟩, rfl⟩ := hr
        go_enter Try.func24, Try.ntmps24
        go_wp2_with fail
        refine (parts2_any o p _ true _ Hu.out fo fp (by simp [go_sem]) (by simp [go_sem]) (by simp)).mono ?_
        rintro e w1 ⟨rfl, hb1⟩
        have hk0 := Blk.step (((Blk.new w _ _).alloc _).alloc _) hb1
        have hk1 := Blk.step ((Blk.new_at (n := w.heap.size + 1) (by simp) _ _).alloc _) hb1
        obtain ⟨c00, c01, c02, c03, f00, f01, f02, f03⟩ := cells4 hk0
        have Hk0 := Lib.hid hk0
        have Hk1 := Lib.hid hk1
        clear hk0 hk1
        go_wp2_with fail
        refine (is_any st a b c 1 true _ Hv.out fa fb fc).mono ?_
        rintro e w2 ⟨rfl, hb2⟩
        have hk0 := Blk.step Hk0.out hb2
        have hk1 := Blk.step Hk1.out hb2
        clear c00 c01 c02 c03 f00 f01 f02 f03
        obtain ⟨c00, c01, c02, c03, f00, f01, f02, f03⟩ := cells4 hk0
        obtain ⟨c10, c11, c12, c13, f10, f11, f12, f13⟩ := cells4 hk1
        have Hk1 := Lib.hid hk1
        clear hk0 hk1 Hk0
        go_wp2
        refine bodyPost_ret (results_cellrow_tmp rfl _ _ (w.heap.size + 1) 35 #[.int .i64 0, str [], str [], str []] _ rfl ?_ Try.underlying35 rfl Try.sizeEnd) rfl ⟨rfl, ?_⟩
        · exact ((((Hk1.out.set_ 0 _).set_ 1 _).set_ 2 _).set_ 3 _)
        have hb := bel_step (w := w) (bel_step (w := w) (by go_grown) hb1) hb2
        go_grown

end Go.Proofs.Ytlkgloakcpfnnaa

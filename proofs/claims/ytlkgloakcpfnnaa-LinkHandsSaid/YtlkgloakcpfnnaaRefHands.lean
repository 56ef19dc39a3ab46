/-
  What the reference hands Init, Try, Ack, Confirm and Close return: the same as the program's, for texts of at most 2^47 bytes.
-/
import Derived.Test.YtlkgloakcpfnnaaLinkFits
namespace Go.Proofs.Ytlkgloakcpfnnaa
open Go.RowKit

set_option maxRecDepth 100000 in
set_option maxHeartbeats 1600000 in
theorem refInit_any (o p : List UInt8) (x : Int) (ra rb rc : List UInt8) (er : Int) (w : World) (hr : initR o p = ((x, ra, rb, rc), er)) (fo : Fits o) (fp : Fits p) :
    Calls Try.prog 28 #[str o, str p] w fun e w' =>
      e = .returned (.tuple #[.agg #[.int .i64 x, str ra, str rb, str rc], .int .i64 er]) ∧ Below w.heap.size w w' := by
  obtain ⟨u, hu⟩ : ∃ z, (partB o && partB p) = z := ⟨_, rfl⟩
  rw [initR, hu] at hr
  have Hu := Lib.hid hu
  clear hu
  cases u
  · simp only [noEn, Bool.false_eq_true, if_false, Prod.mk.injEq] at hr
    obtain ⟨⟨rfl, rfl, rfl, rfl⟩, rfl⟩ := hr
    go_enter Try.func28, Try.ntmps28
    go_wp2_with fail
    refine (refCheck_any 1 o p [] false _ (by rw [checkE_1, Hu.out]; rfl) fo fp Fits.nil).mono ?_
    rintro e w1 ⟨rfl, hb1⟩
    have hkR := Blk.step ((Blk.new w _ _).alloc _) hb1
    have hkE := Blk.step (Blk.new_at (n := w.heap.size + 1) (by simp) _ _) hb1
    have hc1 := bel_step (w := w) (by go_grown) hb1
    clear hb1
    have hz1 := hc1.size
    have lR := hkR.lt
    obtain ⟨cR0, cR1, cR2, cR3, fR0, fR1, fR2, fR3⟩ := cells4 hkR
    have HkR := Lib.hid hkR
    have lE := hkE.lt
    obtain ⟨cE0, cE1, cE2, cE3, fE0, fE1, fE2, fE3⟩ := cells4 hkE
    have HkE := Lib.hid hkE
    clear hkR hkE
    go_wp2
    refine bodyPost_ret (results_cellrow_tmp rfl _ _ (w.heap.size) 35 #[.int .i64 0, str [], str [], str []] _ rfl ?_ Try.underlying35 rfl Try.sizeEnd) rfl ⟨rfl, ?_⟩
    · exact ((((HkR.out).set_ 0 _).set_ 1 _).set_ 2 _).set_ 3 _
    go_grown
  · simp only [if_true, Prod.mk.injEq] at hr
    obtain ⟨⟨rfl, rfl, rfl, rfl⟩, rfl⟩ := hr
    go_enter Try.func28, Try.ntmps28
    go_wp2_with fail
    refine (refCheck_any 1 o p [] true _ (by rw [checkE_1, Hu.out]; rfl) fo fp Fits.nil).mono ?_
    rintro e w1 ⟨rfl, hb1⟩
    have hkR := Blk.step ((Blk.new w _ _).alloc _) hb1
    have hkE := Blk.step (Blk.new_at (n := w.heap.size + 1) (by simp) _ _) hb1
    have hc1 := bel_step (w := w) (by go_grown) hb1
    clear hb1
    have hz1 := hc1.size
    have lR := hkR.lt
    obtain ⟨cR0, cR1, cR2, cR3, fR0, fR1, fR2, fR3⟩ := cells4 hkR
    have HkR := Lib.hid hkR
    have lE := hkE.lt
    obtain ⟨cE0, cE1, cE2, cE3, fE0, fE1, fE2, fE3⟩ := cells4 hkE
    have HkE := Lib.hid hkE
    clear hkR hkE
    go_wp2
    refine bodyPost_ret (results_cellrow_tmp rfl _ _ (w.heap.size) 35 #[.int .i64 1, str o, str p, str []] _ rfl ?_ Try.underlying35 rfl Try.sizeEnd) rfl ⟨rfl, ?_⟩
    · exact ((((HkR.out).set_ 0 _).set_ 1 _).set_ 2 _).set_ 3 _
    go_grown

set_option maxRecDepth 100000 in
set_option maxHeartbeats 1600000 in
theorem refTry_any (o p : List UInt8) (st : Int) (a b c : List UInt8) (x : Int) (ra rb rc : List UInt8) (er : Int) (w : World) (hr : tryR o p (st, a, b, c) = ((x, ra, rb, rc), er))
    (fo : Fits o) (fp : Fits p) (fa : Fits a) (fb : Fits b) (fc : Fits c) :
    Calls Try.prog 29 #[str o, str p, .agg #[.int .i64 st, str a, str b, str c]] w fun e w' =>
      e = .returned (.tuple #[.agg #[.int .i64 x, str ra, str rb, str rc], .int .i64 er]) ∧ Below w.heap.size w w' := by
  obtain ⟨u, hu⟩ : ∃ z, partB o = z := ⟨_, rfl⟩
  obtain ⟨t, ht⟩ : ∃ z, partB p = z := ⟨_, rfl⟩
  obtain ⟨v, hv⟩ : ∃ z, isE (st, a, b, c) 1 = z := ⟨_, rfl⟩
  rw [tryR, hu, ht, hv] at hr
  have Hu := Lib.hid hu
  have Ht := Lib.hid ht
  have Hv := Lib.hid hv
  clear hu ht hv
  cases u
  · simp only [noEn, Bool.false_and, if_true, Prod.mk.injEq] at hr
    obtain ⟨⟨rfl, rfl, rfl, rfl⟩, rfl⟩ := hr
    go_enter Try.func29, Try.ntmps29
    go_wp2_with fail
    refine (refPart_any o false _ Hu.out fo).mono ?_
    rintro e wx ⟨rfl, rfl⟩
    go_wp2_with fail
    refine (refPart_any p t _ Ht.out fp).mono ?_
    rintro e wx ⟨rfl, rfl⟩
    go_wp2
    refine bodyPost_ret (results_cellrow_tmp rfl _ _ (w.heap.size + 1) 35 #[.int .i64 0, str [], str [], str []] _ rfl ?_ Try.underlying35 rfl Try.sizeEnd) rfl ⟨rfl, ?_⟩
    · exact Blk.new_at (by simp) _ _
    go_grown
  cases t
  · simp only [noEn, Bool.and_false, if_true, Prod.mk.injEq] at hr
    obtain ⟨⟨rfl, rfl, rfl, rfl⟩, rfl⟩ := hr
    go_enter Try.func29, Try.ntmps29
    go_wp2_with fail
    refine (refPart_any o true _ Hu.out fo).mono ?_
    rintro e wx ⟨rfl, rfl⟩
    go_wp2_with fail
    refine (refPart_any p false _ Ht.out fp).mono ?_
    rintro e wx ⟨rfl, rfl⟩
    go_wp2
    refine bodyPost_ret (results_cellrow_tmp rfl _ _ (w.heap.size + 1) 35 #[.int .i64 0, str [], str [], str []] _ rfl ?_ Try.underlying35 rfl Try.sizeEnd) rfl ⟨rfl, ?_⟩
    · exact Blk.new_at (by simp) _ _
    go_grown
  cases v
  · simp only [noEn, Bool.true_and, Bool.false_and, Bool.true_eq_false, if_true, if_false, Prod.mk.injEq] at hr
    obtain ⟨⟨rfl, rfl, rfl, rfl⟩, rfl⟩ := hr
    go_enter Try.func29, Try.ntmps29
    go_wp2_with fail
    refine (refPart_any o true _ Hu.out fo).mono ?_
    rintro e wx ⟨rfl, rfl⟩
    go_wp2_with fail
    refine (refPart_any p true _ Ht.out fp).mono ?_
    rintro e wx ⟨rfl, rfl⟩
    go_wp2_with fail
    refine (refIs_any st a b c 1 false _ Hv.out fa fb fc).mono ?_
    rintro e w1 ⟨rfl, hb1⟩
    have hkT := Blk.step ((Blk.new w _ _).alloc _) hb1
    have hkR := Blk.step (Blk.new_at (n := w.heap.size + 1) (by simp) _ _) hb1
    have hc1 := bel_step (w := w) (by go_grown) hb1
    clear hb1
    have hz1 := hc1.size
    have lT := hkT.lt
    have HkT := Lib.hid hkT
    have lR := hkR.lt
    obtain ⟨cR0, cR1, cR2, cR3, fR0, fR1, fR2, fR3⟩ := cells4 hkR
    have HkR := Lib.hid hkR
    clear hkT hkR
    go_wp2
    refine bodyPost_ret (results_cellrow_tmp rfl _ _ (w.heap.size + 1) 35 #[.int .i64 0, str [], str [], str []] _ rfl ?_ Try.underlying35 rfl Try.sizeEnd) rfl ⟨rfl, ?_⟩
    · exact ((((HkR.out).set_ 0 _).set_ 1 _).set_ 2 _).set_ 3 _
    go_grown
  by_cases hbo : b = o
  · subst hbo
    simp only [Bool.true_and, decide_true, Bool.true_eq_false, if_false, Prod.mk.injEq] at hr
    obtain ⟨⟨rfl, rfl, rfl, rfl⟩, rfl⟩ := hr
    go_enter Try.func29, Try.ntmps29
    go_wp2_with fail
    refine (refPart_any b true _ Hu.out fb).mono ?_
    rintro e wx ⟨rfl, rfl⟩
    go_wp2_with fail
    refine (refPart_any p true _ Ht.out fp).mono ?_
    rintro e wx ⟨rfl, rfl⟩
    go_wp2_with fail
    refine (refIs_any st a b c 1 true _ Hv.out fa fb fc).mono ?_
    rintro e w1 ⟨rfl, hb1⟩
    have hkT := Blk.step ((Blk.new w _ _).alloc _) hb1
    have hkR := Blk.step (Blk.new_at (n := w.heap.size + 1) (by simp) _ _) hb1
    have hc1 := bel_step (w := w) (by go_grown) hb1
    clear hb1
    have hz1 := hc1.size
    have lT := hkT.lt
    obtain ⟨cT0, cT1, cT2, cT3, fT0, fT1, fT2, fT3⟩ := cells4 hkT
    have HkT := Lib.hid hkT
    have lR := hkR.lt
    obtain ⟨cR0, cR1, cR2, cR3, fR0, fR1, fR2, fR3⟩ := cells4 hkR
    have HkR := Lib.hid hkR
    clear hkT hkR
    go_wp2
    refine bodyPost_ret (results_cellrow_tmp rfl _ _ (w.heap.size + 1) 35 #[.int .i64 2, str b, str a, str p] _ rfl ?_ Try.underlying35 rfl Try.sizeEnd) rfl ⟨rfl, ?_⟩
    · exact ((((HkR.out).set_ 0 _).set_ 1 _).set_ 2 _).set_ 3 _
    go_grown
  · have hbo' : (b == o) = false := by simpa using hbo
    simp only [hbo, decide_false, Bool.true_and, Bool.and_false, Bool.true_eq_false, if_true, if_false, noEn, Prod.mk.injEq] at hr
    clear hbo
    obtain ⟨⟨rfl, rfl, rfl, rfl⟩, rfl⟩ := hr
    go_enter Try.func29, Try.ntmps29
    go_wp2_with fail
    refine (refPart_any o true _ Hu.out fo).mono ?_
    rintro e wx ⟨rfl, rfl⟩
    go_wp2_with fail
    refine (refPart_any p true _ Ht.out fp).mono ?_
    rintro e wx ⟨rfl, rfl⟩
    go_wp2_with fail
    refine (refIs_any st a b c 1 true _ Hv.out fa fb fc).mono ?_
    rintro e w1 ⟨rfl, hb1⟩
    have hkT := Blk.step ((Blk.new w _ _).alloc _) hb1
    have hkR := Blk.step (Blk.new_at (n := w.heap.size + 1) (by simp) _ _) hb1
    have hc1 := bel_step (w := w) (by go_grown) hb1
    clear hb1
    have hz1 := hc1.size
    have lT := hkT.lt
    obtain ⟨cT0, cT1, cT2, cT3, fT0, fT1, fT2, fT3⟩ := cells4 hkT
    have HkT := Lib.hid hkT
    have lR := hkR.lt
    obtain ⟨cR0, cR1, cR2, cR3, fR0, fR1, fR2, fR3⟩ := cells4 hkR
    have HkR := Lib.hid hkR
    clear hkT hkR
    go_wp2
    refine bodyPost_ret (results_cellrow_tmp rfl _ _ (w.heap.size + 1) 35 #[.int .i64 0, str [], str [], str []] _ rfl ?_ Try.underlying35 rfl Try.sizeEnd) rfl ⟨rfl, ?_⟩
    · exact ((((HkR.out).set_ 0 _).set_ 1 _).set_ 2 _).set_ 3 _
    go_grown

set_option maxRecDepth 100000 in
set_option maxHeartbeats 1600000 in
theorem refAck_any (st : Int) (a b c id peer : List UInt8) (st' : Int) (a' b' c' : List UInt8) (x : Int) (ra rb rc : List UInt8) (er : Int) (w : World) (hr : ackR (st, a, b, c) id peer (st', a', b', c') = ((x, ra, rb, rc), er))
    (fa : Fits a) (fb : Fits b) (fc : Fits c) (fa' : Fits a') (fb' : Fits b') (fc' : Fits c') (fi : Fits id) (fp : Fits peer) :
    Calls Try.prog 30 #[.agg #[.int .i64 st, str a, str b, str c], str id, str peer, .agg #[.int .i64 st', str a', str b', str c']] w fun e w' =>
      e = .returned (.tuple #[.agg #[.int .i64 x, str ra, str rb, str rc], .int .i64 er]) ∧ Below w.heap.size w w' := by
  obtain ⟨u, hu⟩ : ∃ z, partB id = z := ⟨_, rfl⟩
  obtain ⟨t, ht⟩ : ∃ z, partB peer = z := ⟨_, rfl⟩
  obtain ⟨v, hv⟩ : ∃ z, isE (st, a, b, c) 1 = z := ⟨_, rfl⟩
  obtain ⟨z, hz⟩ : ∃ z, isE (st', a', b', c') 2 = z := ⟨_, rfl⟩
  obtain ⟨m, hm⟩ : ∃ z, meetsE (st, a, b, c) (st', a', b', c') = z := ⟨_, rfl⟩
  rw [ackR, opensR, means_meets, hu, ht, hv, hz, hm] at hr
  have Hu := Lib.hid hu
  have Ht := Lib.hid ht
  have Hv := Lib.hid hv
  have Hz := Lib.hid hz
  have Hm := Lib.hid hm
  clear hu ht hv hz hm
  cases u
  · simp only [noEn, Bool.false_and, if_true, Prod.mk.injEq] at hr
    obtain ⟨⟨rfl, rfl, rfl, rfl⟩, rfl⟩ := hr
    go_enter Try.func30, Try.ntmps30
    go_wp2_with fail
    refine (refPart_any id false _ Hu.out fi).mono ?_
    rintro e wx ⟨rfl, rfl⟩
    go_wp2_with fail
    refine (refPart_any peer t _ Ht.out fp).mono ?_
    rintro e wx ⟨rfl, rfl⟩
    go_wp2
    refine bodyPost_ret (results_cellrow_tmp rfl _ _ (w.heap.size + 2) 35 #[.int .i64 0, str [], str [], str []] _ rfl ?_ Try.underlying35 rfl Try.sizeEnd) rfl ⟨rfl, ?_⟩
    · exact Blk.new_at (by simp) _ _
    go_grown
  cases t
  · simp only [noEn, Bool.and_false, if_true, Prod.mk.injEq] at hr
    obtain ⟨⟨rfl, rfl, rfl, rfl⟩, rfl⟩ := hr
    go_enter Try.func30, Try.ntmps30
    go_wp2_with fail
    refine (refPart_any id true _ Hu.out fi).mono ?_
    rintro e wx ⟨rfl, rfl⟩
    go_wp2_with fail
    refine (refPart_any peer false _ Ht.out fp).mono ?_
    rintro e wx ⟨rfl, rfl⟩
    go_wp2
    refine bodyPost_ret (results_cellrow_tmp rfl _ _ (w.heap.size + 2) 35 #[.int .i64 0, str [], str [], str []] _ rfl ?_ Try.underlying35 rfl Try.sizeEnd) rfl ⟨rfl, ?_⟩
    · exact Blk.new_at (by simp) _ _
    go_grown
  cases v
  · simp only [noEn, Bool.and_self, Bool.false_and, Bool.false_eq_true, Bool.true_eq_false, if_false, Prod.mk.injEq] at hr
    obtain ⟨⟨rfl, rfl, rfl, rfl⟩, rfl⟩ := hr
    go_enter Try.func30, Try.ntmps30
    go_wp2_with fail
    refine (refPart_any id true _ Hu.out fi).mono ?_
    rintro e wx ⟨rfl, rfl⟩
    go_wp2_with fail
    refine (refPart_any peer true _ Ht.out fp).mono ?_
    rintro e wx ⟨rfl, rfl⟩
    go_wp2_with fail
    refine (refIs_any st a b c 1 false _ Hv.out fa fb fc).mono ?_
    rintro e w1 ⟨rfl, hb1⟩
    have hkO := Blk.step (((Blk.new w _ _).alloc _).alloc _) hb1
    have hkT := Blk.step ((Blk.new_at (n := w.heap.size + 1) (by simp) _ _).alloc _) hb1
    have hkR := Blk.step (Blk.new_at (n := w.heap.size + 2) (by simp) _ _) hb1
    have hc1 := bel_step (w := w) (by go_grown) hb1
    clear hb1
    have hz1 := hc1.size
    have lO := hkO.lt
    have HkO := Lib.hid hkO
    have lT := hkT.lt
    obtain ⟨cT0, cT1, cT2, cT3, fT0, fT1, fT2, fT3⟩ := cells4 hkT
    have HkT := Lib.hid hkT
    have lR := hkR.lt
    have HkR := Lib.hid hkR
    clear hkO hkT hkR
    go_wp2_with fail
    refine (refIs_any st' a' b' c' 2 z _ Hz.out fa' fb' fc').mono ?_
    rintro e w2 ⟨rfl, hb2⟩
    have hkO := Blk.step (HkO.out) hb2
    have hkT := Blk.step (HkT.out) hb2
    have hkR := Blk.step (HkR.out) hb2
    have hc2 := bel_step (w := w) (by go_grown) hb2
    clear hb2 hc1 hz1 HkO HkR HkT lO lR lT cT0 cT1 cT2 cT3 fT0 fT1 fT2 fT3
    have hz2 := hc2.size
    have lO := hkO.lt
    obtain ⟨cO0, cO1, cO2, cO3, fO0, fO1, fO2, fO3⟩ := cells4 hkO
    have HkO := Lib.hid hkO
    have lT := hkT.lt
    obtain ⟨cT0, cT1, cT2, cT3, fT0, fT1, fT2, fT3⟩ := cells4 hkT
    have HkT := Lib.hid hkT
    have lR := hkR.lt
    have HkR := Lib.hid hkR
    clear hkO hkT hkR
    go_wp2_with fail
    refine (refMeets_any st a b c st' a' b' c' m _ Hm.out).mono ?_
    rintro e w3 ⟨rfl, hb3⟩
    have hkO := Blk.step (HkO.out) hb3
    have hkT := Blk.step (HkT.out) hb3
    have hkR := Blk.step (HkR.out) hb3
    have hc3 := bel_step (w := w) (by go_grown) hb3
    clear hb3 hc2 hz2 HkO HkR HkT lO lR lT cO0 cO1 cO2 cO3 fO0 fO1 fO2 fO3 cT0 cT1 cT2 cT3 fT0 fT1 fT2 fT3
    have hz3 := hc3.size
    have lO := hkO.lt
    obtain ⟨cO0, cO1, cO2, cO3, fO0, fO1, fO2, fO3⟩ := cells4 hkO
    have HkO := Lib.hid hkO
    have lT := hkT.lt
    obtain ⟨cT0, cT1, cT2, cT3, fT0, fT1, fT2, fT3⟩ := cells4 hkT
    have HkT := Lib.hid hkT
    have lR := hkR.lt
    obtain ⟨cR0, cR1, cR2, cR3, fR0, fR1, fR2, fR3⟩ := cells4 hkR
    have HkR := Lib.hid hkR
    clear hkO hkT hkR
    go_wp2
    refine bodyPost_ret (results_cellrow_tmp rfl _ _ (w.heap.size + 2) 35 #[.int .i64 0, str [], str [], str []] _ rfl ?_ Try.underlying35 rfl Try.sizeEnd) rfl ⟨rfl, ?_⟩
    · exact ((((HkR.out).set_ 0 _).set_ 1 _).set_ 2 _).set_ 3 _
    go_grown
  cases z
  · simp only [noEn, Bool.and_self, Bool.true_and, Bool.false_and, Bool.false_eq_true, Bool.true_eq_false, if_false, Prod.mk.injEq] at hr
    obtain ⟨⟨rfl, rfl, rfl, rfl⟩, rfl⟩ := hr
    go_enter Try.func30, Try.ntmps30
    go_wp2_with fail
    refine (refPart_any id true _ Hu.out fi).mono ?_
    rintro e wx ⟨rfl, rfl⟩
    go_wp2_with fail
    refine (refPart_any peer true _ Ht.out fp).mono ?_
    rintro e wx ⟨rfl, rfl⟩
    go_wp2_with fail
    refine (refIs_any st a b c 1 true _ Hv.out fa fb fc).mono ?_
    rintro e w1 ⟨rfl, hb1⟩
    have hkO := Blk.step (((Blk.new w _ _).alloc _).alloc _) hb1
    have hkT := Blk.step ((Blk.new_at (n := w.heap.size + 1) (by simp) _ _).alloc _) hb1
    have hkR := Blk.step (Blk.new_at (n := w.heap.size + 2) (by simp) _ _) hb1
    have hc1 := bel_step (w := w) (by go_grown) hb1
    clear hb1
    have hz1 := hc1.size
    have lO := hkO.lt
    have HkO := Lib.hid hkO
    have lT := hkT.lt
    obtain ⟨cT0, cT1, cT2, cT3, fT0, fT1, fT2, fT3⟩ := cells4 hkT
    have HkT := Lib.hid hkT
    have lR := hkR.lt
    have HkR := Lib.hid hkR
    clear hkO hkT hkR
    go_wp2_with fail
    refine (refIs_any st' a' b' c' 2 false _ Hz.out fa' fb' fc').mono ?_
    rintro e w2 ⟨rfl, hb2⟩
    have hkO := Blk.step (HkO.out) hb2
    have hkT := Blk.step (HkT.out) hb2
    have hkR := Blk.step (HkR.out) hb2
    have hc2 := bel_step (w := w) (by go_grown) hb2
    clear hb2 hc1 hz1 HkO HkR HkT lO lR lT cT0 cT1 cT2 cT3 fT0 fT1 fT2 fT3
    have hz2 := hc2.size
    have lO := hkO.lt
    obtain ⟨cO0, cO1, cO2, cO3, fO0, fO1, fO2, fO3⟩ := cells4 hkO
    have HkO := Lib.hid hkO
    have lT := hkT.lt
    obtain ⟨cT0, cT1, cT2, cT3, fT0, fT1, fT2, fT3⟩ := cells4 hkT
    have HkT := Lib.hid hkT
    have lR := hkR.lt
    have HkR := Lib.hid hkR
    clear hkO hkT hkR
    go_wp2_with fail
    refine (refMeets_any st a b c st' a' b' c' m _ Hm.out).mono ?_
    rintro e w3 ⟨rfl, hb3⟩
    have hkO := Blk.step (HkO.out) hb3
    have hkT := Blk.step (HkT.out) hb3
    have hkR := Blk.step (HkR.out) hb3
    have hc3 := bel_step (w := w) (by go_grown) hb3
    clear hb3 hc2 hz2 HkO HkR HkT lO lR lT cO0 cO1 cO2 cO3 fO0 fO1 fO2 fO3 cT0 cT1 cT2 cT3 fT0 fT1 fT2 fT3
    have hz3 := hc3.size
    have lO := hkO.lt
    obtain ⟨cO0, cO1, cO2, cO3, fO0, fO1, fO2, fO3⟩ := cells4 hkO
    have HkO := Lib.hid hkO
    have lT := hkT.lt
    obtain ⟨cT0, cT1, cT2, cT3, fT0, fT1, fT2, fT3⟩ := cells4 hkT
    have HkT := Lib.hid hkT
    have lR := hkR.lt
    obtain ⟨cR0, cR1, cR2, cR3, fR0, fR1, fR2, fR3⟩ := cells4 hkR
    have HkR := Lib.hid hkR
    clear hkO hkT hkR
    go_wp2
    refine bodyPost_ret (results_cellrow_tmp rfl _ _ (w.heap.size + 2) 35 #[.int .i64 0, str [], str [], str []] _ rfl ?_ Try.underlying35 rfl Try.sizeEnd) rfl ⟨rfl, ?_⟩
    · exact ((((HkR.out).set_ 0 _).set_ 1 _).set_ 2 _).set_ 3 _
    go_grown
  cases m
  · simp only [noEn, Bool.and_self, Bool.true_and, Bool.false_and, Bool.false_eq_true, Bool.true_eq_false, if_false, Prod.mk.injEq] at hr
    obtain ⟨⟨rfl, rfl, rfl, rfl⟩, rfl⟩ := hr
    go_enter Try.func30, Try.ntmps30
    go_wp2_with fail
    refine (refPart_any id true _ Hu.out fi).mono ?_
    rintro e wx ⟨rfl, rfl⟩
    go_wp2_with fail
    refine (refPart_any peer true _ Ht.out fp).mono ?_
    rintro e wx ⟨rfl, rfl⟩
    go_wp2_with fail
    refine (refIs_any st a b c 1 true _ Hv.out fa fb fc).mono ?_
    rintro e w1 ⟨rfl, hb1⟩
    have hkO := Blk.step (((Blk.new w _ _).alloc _).alloc _) hb1
    have hkT := Blk.step ((Blk.new_at (n := w.heap.size + 1) (by simp) _ _).alloc _) hb1
    have hkR := Blk.step (Blk.new_at (n := w.heap.size + 2) (by simp) _ _) hb1
    have hc1 := bel_step (w := w) (by go_grown) hb1
    clear hb1
    have hz1 := hc1.size
    have lO := hkO.lt
    have HkO := Lib.hid hkO
    have lT := hkT.lt
    obtain ⟨cT0, cT1, cT2, cT3, fT0, fT1, fT2, fT3⟩ := cells4 hkT
    have HkT := Lib.hid hkT
    have lR := hkR.lt
    have HkR := Lib.hid hkR
    clear hkO hkT hkR
    go_wp2_with fail
    refine (refIs_any st' a' b' c' 2 true _ Hz.out fa' fb' fc').mono ?_
    rintro e w2 ⟨rfl, hb2⟩
    have hkO := Blk.step (HkO.out) hb2
    have hkT := Blk.step (HkT.out) hb2
    have hkR := Blk.step (HkR.out) hb2
    have hc2 := bel_step (w := w) (by go_grown) hb2
    clear hb2 hc1 hz1 HkO HkR HkT lO lR lT cT0 cT1 cT2 cT3 fT0 fT1 fT2 fT3
    have hz2 := hc2.size
    have lO := hkO.lt
    obtain ⟨cO0, cO1, cO2, cO3, fO0, fO1, fO2, fO3⟩ := cells4 hkO
    have HkO := Lib.hid hkO
    have lT := hkT.lt
    obtain ⟨cT0, cT1, cT2, cT3, fT0, fT1, fT2, fT3⟩ := cells4 hkT
    have HkT := Lib.hid hkT
    have lR := hkR.lt
    have HkR := Lib.hid hkR
    clear hkO hkT hkR
    go_wp2_with fail
    refine (refMeets_any st a b c st' a' b' c' false _ Hm.out).mono ?_
    rintro e w3 ⟨rfl, hb3⟩
    have hkO := Blk.step (HkO.out) hb3
    have hkT := Blk.step (HkT.out) hb3
    have hkR := Blk.step (HkR.out) hb3
    have hc3 := bel_step (w := w) (by go_grown) hb3
    clear hb3 hc2 hz2 HkO HkR HkT lO lR lT cO0 cO1 cO2 cO3 fO0 fO1 fO2 fO3 cT0 cT1 cT2 cT3 fT0 fT1 fT2 fT3
    have hz3 := hc3.size
    have lO := hkO.lt
    obtain ⟨cO0, cO1, cO2, cO3, fO0, fO1, fO2, fO3⟩ := cells4 hkO
    have HkO := Lib.hid hkO
    have lT := hkT.lt
    obtain ⟨cT0, cT1, cT2, cT3, fT0, fT1, fT2, fT3⟩ := cells4 hkT
    have HkT := Lib.hid hkT
    have lR := hkR.lt
    obtain ⟨cR0, cR1, cR2, cR3, fR0, fR1, fR2, fR3⟩ := cells4 hkR
    have HkR := Lib.hid hkR
    clear hkO hkT hkR
    go_wp2
    refine bodyPost_ret (results_cellrow_tmp rfl _ _ (w.heap.size + 2) 35 #[.int .i64 0, str [], str [], str []] _ rfl ?_ Try.underlying35 rfl Try.sizeEnd) rfl ⟨rfl, ?_⟩
    · exact ((((HkR.out).set_ 0 _).set_ 1 _).set_ 2 _).set_ 3 _
    go_grown
  by_cases hid' : c' = id
  · subst hid'
    simp only [Bool.and_self, decide_true, Bool.true_eq_false, if_true, if_false, Prod.mk.injEq] at hr
    obtain ⟨⟨rfl, rfl, rfl, rfl⟩, rfl⟩ := hr
    go_enter Try.func30, Try.ntmps30
    go_wp2_with fail
    refine (refPart_any c' true _ Hu.out fc').mono ?_
    rintro e wx ⟨rfl, rfl⟩
    go_wp2_with fail
    refine (refPart_any peer true _ Ht.out fp).mono ?_
    rintro e wx ⟨rfl, rfl⟩
    go_wp2_with fail
    refine (refIs_any st a b c 1 true _ Hv.out fa fb fc).mono ?_
    rintro e w1 ⟨rfl, hb1⟩
    have hkO := Blk.step (((Blk.new w _ _).alloc _).alloc _) hb1
    have hkT := Blk.step ((Blk.new_at (n := w.heap.size + 1) (by simp) _ _).alloc _) hb1
    have hkR := Blk.step (Blk.new_at (n := w.heap.size + 2) (by simp) _ _) hb1
    have hc1 := bel_step (w := w) (by go_grown) hb1
    clear hb1
    have hz1 := hc1.size
    have lO := hkO.lt
    have HkO := Lib.hid hkO
    have lT := hkT.lt
    obtain ⟨cT0, cT1, cT2, cT3, fT0, fT1, fT2, fT3⟩ := cells4 hkT
    have HkT := Lib.hid hkT
    have lR := hkR.lt
    have HkR := Lib.hid hkR
    clear hkO hkT hkR
    go_wp2_with fail
    refine (refIs_any st' a' b' c' 2 true _ Hz.out fa' fb' fc').mono ?_
    rintro e w2 ⟨rfl, hb2⟩
    have hkO := Blk.step (HkO.out) hb2
    have hkT := Blk.step (HkT.out) hb2
    have hkR := Blk.step (HkR.out) hb2
    have hc2 := bel_step (w := w) (by go_grown) hb2
    clear hb2 hc1 hz1 HkO HkR HkT lO lR lT cT0 cT1 cT2 cT3 fT0 fT1 fT2 fT3
    have hz2 := hc2.size
    have lO := hkO.lt
    obtain ⟨cO0, cO1, cO2, cO3, fO0, fO1, fO2, fO3⟩ := cells4 hkO
    have HkO := Lib.hid hkO
    have lT := hkT.lt
    obtain ⟨cT0, cT1, cT2, cT3, fT0, fT1, fT2, fT3⟩ := cells4 hkT
    have HkT := Lib.hid hkT
    have lR := hkR.lt
    have HkR := Lib.hid hkR
    clear hkO hkT hkR
    go_wp2_with fail
    refine (refMeets_any st a b c st' a' b' c' true _ Hm.out).mono ?_
    rintro e w3 ⟨rfl, hb3⟩
    have hkO := Blk.step (HkO.out) hb3
    have hkT := Blk.step (HkT.out) hb3
    have hkR := Blk.step (HkR.out) hb3
    have hc3 := bel_step (w := w) (by go_grown) hb3
    clear hb3 hc2 hz2 HkO HkR HkT lO lR lT cO0 cO1 cO2 cO3 fO0 fO1 fO2 fO3 cT0 cT1 cT2 cT3 fT0 fT1 fT2 fT3
    have hz3 := hc3.size
    have lO := hkO.lt
    obtain ⟨cO0, cO1, cO2, cO3, fO0, fO1, fO2, fO3⟩ := cells4 hkO
    have HkO := Lib.hid hkO
    have lT := hkT.lt
    obtain ⟨cT0, cT1, cT2, cT3, fT0, fT1, fT2, fT3⟩ := cells4 hkT
    have HkT := Lib.hid hkT
    have lR := hkR.lt
    obtain ⟨cR0, cR1, cR2, cR3, fR0, fR1, fR2, fR3⟩ := cells4 hkR
    have HkR := Lib.hid hkR
    clear hkO hkT hkR
    go_wp2
    refine bodyPost_ret (results_cellrow_tmp rfl _ _ (w.heap.size + 2) 35 #[.int .i64 3, str a, str b, str peer] _ rfl ?_ Try.underlying35 rfl Try.sizeEnd) rfl ⟨rfl, ?_⟩
    · exact ((((HkR.out).set_ 0 _).set_ 1 _).set_ 2 _).set_ 3 _
    go_grown
  · have hid2 : (c' == id) = false := by simpa using hid'
    simp only [hid', decide_false, noEn, Bool.and_self, Bool.true_and, Bool.false_eq_true, Bool.true_eq_false, if_false, Prod.mk.injEq] at hr
    clear hid'
    obtain ⟨⟨rfl, rfl, rfl, rfl⟩, rfl⟩ := hr
    go_enter Try.func30, Try.ntmps30
    go_wp2_with fail
    refine (refPart_any id true _ Hu.out fi).mono ?_
    rintro e wx ⟨rfl, rfl⟩
    go_wp2_with fail
    refine (refPart_any peer true _ Ht.out fp).mono ?_
    rintro e wx ⟨rfl, rfl⟩
    go_wp2_with fail
    refine (refIs_any st a b c 1 true _ Hv.out fa fb fc).mono ?_
    rintro e w1 ⟨rfl, hb1⟩
    have hkO := Blk.step (((Blk.new w _ _).alloc _).alloc _) hb1
    have hkT := Blk.step ((Blk.new_at (n := w.heap.size + 1) (by simp) _ _).alloc _) hb1
    have hkR := Blk.step (Blk.new_at (n := w.heap.size + 2) (by simp) _ _) hb1
    have hc1 := bel_step (w := w) (by go_grown) hb1
    clear hb1
    have hz1 := hc1.size
    have lO := hkO.lt
    have HkO := Lib.hid hkO
    have lT := hkT.lt
    obtain ⟨cT0, cT1, cT2, cT3, fT0, fT1, fT2, fT3⟩ := cells4 hkT
    have HkT := Lib.hid hkT
    have lR := hkR.lt
    have HkR := Lib.hid hkR
    clear hkO hkT hkR
    go_wp2_with fail
    refine (refIs_any st' a' b' c' 2 true _ Hz.out fa' fb' fc').mono ?_
    rintro e w2 ⟨rfl, hb2⟩
    have hkO := Blk.step (HkO.out) hb2
    have hkT := Blk.step (HkT.out) hb2
    have hkR := Blk.step (HkR.out) hb2
    have hc2 := bel_step (w := w) (by go_grown) hb2
    clear hb2 hc1 hz1 HkO HkR HkT lO lR lT cT0 cT1 cT2 cT3 fT0 fT1 fT2 fT3
    have hz2 := hc2.size
    have lO := hkO.lt
    obtain ⟨cO0, cO1, cO2, cO3, fO0, fO1, fO2, fO3⟩ := cells4 hkO
    have HkO := Lib.hid hkO
    have lT := hkT.lt
    obtain ⟨cT0, cT1, cT2, cT3, fT0, fT1, fT2, fT3⟩ := cells4 hkT
    have HkT := Lib.hid hkT
    have lR := hkR.lt
    have HkR := Lib.hid hkR
    clear hkO hkT hkR
    go_wp2_with fail
    refine (refMeets_any st a b c st' a' b' c' true _ Hm.out).mono ?_
    rintro e w3 ⟨rfl, hb3⟩
    have hkO := Blk.step (HkO.out) hb3
    have hkT := Blk.step (HkT.out) hb3
    have hkR := Blk.step (HkR.out) hb3
    have hc3 := bel_step (w := w) (by go_grown) hb3
    clear hb3 hc2 hz2 HkO HkR HkT lO lR lT cO0 cO1 cO2 cO3 fO0 fO1 fO2 fO3 cT0 cT1 cT2 cT3 fT0 fT1 fT2 fT3
    have hz3 := hc3.size
    have lO := hkO.lt
    obtain ⟨cO0, cO1, cO2, cO3, fO0, fO1, fO2, fO3⟩ := cells4 hkO
    have HkO := Lib.hid hkO
    have lT := hkT.lt
    obtain ⟨cT0, cT1, cT2, cT3, fT0, fT1, fT2, fT3⟩ := cells4 hkT
    have HkT := Lib.hid hkT
    have lR := hkR.lt
    obtain ⟨cR0, cR1, cR2, cR3, fR0, fR1, fR2, fR3⟩ := cells4 hkR
    have HkR := Lib.hid hkR
    clear hkO hkT hkR
    go_wp2
    refine bodyPost_ret (results_cellrow_tmp rfl _ _ (w.heap.size + 2) 35 #[.int .i64 0, str [], str [], str []] _ rfl ?_ Try.underlying35 rfl Try.sizeEnd) rfl ⟨rfl, ?_⟩
    · exact ((((HkR.out).set_ 0 _).set_ 1 _).set_ 2 _).set_ 3 _
    go_grown

set_option maxRecDepth 100000 in
set_option maxHeartbeats 1600000 in
theorem refConfirm_any (st : Int) (a b c id : List UInt8) (st' : Int) (a' b' c' : List UInt8) (x : Int) (ra rb rc : List UInt8) (er : Int) (w : World) (hr : confirmR (st, a, b, c) id (st', a', b', c') = ((x, ra, rb, rc), er))
    (fa : Fits a) (fb : Fits b) (fc : Fits c) (fa' : Fits a') (fb' : Fits b') (fc' : Fits c') :
    Calls Try.prog 31 #[.agg #[.int .i64 st, str a, str b, str c], str id, .agg #[.int .i64 st', str a', str b', str c']] w fun e w' =>
      e = .returned (.tuple #[.agg #[.int .i64 x, str ra, str rb, str rc], .int .i64 er]) ∧ Below w.heap.size w w' := by
  obtain ⟨v, hv⟩ : ∃ z, isE (st, a, b, c) 2 = z := ⟨_, rfl⟩
  obtain ⟨z, hz⟩ : ∃ z, isE (st', a', b', c') 3 = z := ⟨_, rfl⟩
  obtain ⟨m, hm⟩ : ∃ z, meetsE (st, a, b, c) (st', a', b', c') = z := ⟨_, rfl⟩
  rw [confirmR, opensR, means_meets, hv, hz, hm] at hr
  have Hv := Lib.hid hv
  have Hz := Lib.hid hz
  have Hm := Lib.hid hm
  clear hv hz hm
  cases v
  · simp only [noEn, Bool.false_and, Bool.false_eq_true, if_false, Prod.mk.injEq] at hr
    obtain ⟨⟨rfl, rfl, rfl, rfl⟩, rfl⟩ := hr
    go_enter Try.func31, Try.ntmps31
    go_wp2_with fail
    refine (refIs_any st a b c 2 false _ Hv.out fa fb fc).mono ?_
    rintro e w1 ⟨rfl, hb1⟩
    have hkO := Blk.step (((Blk.new w _ _).alloc _).alloc _) hb1
    have hkT := Blk.step ((Blk.new_at (n := w.heap.size + 1) (by simp) _ _).alloc _) hb1
    have hkR := Blk.step (Blk.new_at (n := w.heap.size + 2) (by simp) _ _) hb1
    have hc1 := bel_step (w := w) (by go_grown) hb1
    clear hb1
    have hz1 := hc1.size
    have lO := hkO.lt
    have HkO := Lib.hid hkO
    have lT := hkT.lt
    obtain ⟨cT0, cT1, cT2, cT3, fT0, fT1, fT2, fT3⟩ := cells4 hkT
    have HkT := Lib.hid hkT
    have lR := hkR.lt
    have HkR := Lib.hid hkR
    clear hkO hkT hkR
    go_wp2_with fail
    refine (refIs_any st' a' b' c' 3 z _ Hz.out fa' fb' fc').mono ?_
    rintro e w2 ⟨rfl, hb2⟩
    have hkO := Blk.step (HkO.out) hb2
    have hkT := Blk.step (HkT.out) hb2
    have hkR := Blk.step (HkR.out) hb2
    have hc2 := bel_step (w := w) (by go_grown) hb2
    clear hb2 hc1 hz1 HkO HkR HkT lO lR lT cT0 cT1 cT2 cT3 fT0 fT1 fT2 fT3
    have hz2 := hc2.size
    have lO := hkO.lt
    obtain ⟨cO0, cO1, cO2, cO3, fO0, fO1, fO2, fO3⟩ := cells4 hkO
    have HkO := Lib.hid hkO
    have lT := hkT.lt
    obtain ⟨cT0, cT1, cT2, cT3, fT0, fT1, fT2, fT3⟩ := cells4 hkT
    have HkT := Lib.hid hkT
    have lR := hkR.lt
    have HkR := Lib.hid hkR
    clear hkO hkT hkR
    go_wp2_with fail
    refine (refMeets_any st a b c st' a' b' c' m _ Hm.out).mono ?_
    rintro e w3 ⟨rfl, hb3⟩
    have hkO := Blk.step (HkO.out) hb3
    have hkT := Blk.step (HkT.out) hb3
    have hkR := Blk.step (HkR.out) hb3
    have hc3 := bel_step (w := w) (by go_grown) hb3
    clear hb3 hc2 hz2 HkO HkR HkT lO lR lT cO0 cO1 cO2 cO3 fO0 fO1 fO2 fO3 cT0 cT1 cT2 cT3 fT0 fT1 fT2 fT3
    have hz3 := hc3.size
    have lO := hkO.lt
    obtain ⟨cO0, cO1, cO2, cO3, fO0, fO1, fO2, fO3⟩ := cells4 hkO
    have HkO := Lib.hid hkO
    have lT := hkT.lt
    obtain ⟨cT0, cT1, cT2, cT3, fT0, fT1, fT2, fT3⟩ := cells4 hkT
    have HkT := Lib.hid hkT
    have lR := hkR.lt
    obtain ⟨cR0, cR1, cR2, cR3, fR0, fR1, fR2, fR3⟩ := cells4 hkR
    have HkR := Lib.hid hkR
    clear hkO hkT hkR
    go_wp2
    refine bodyPost_ret (results_cellrow_tmp rfl _ _ (w.heap.size + 2) 35 #[.int .i64 0, str [], str [], str []] _ rfl ?_ Try.underlying35 rfl Try.sizeEnd) rfl ⟨rfl, ?_⟩
    · exact ((((HkR.out).set_ 0 _).set_ 1 _).set_ 2 _).set_ 3 _
    go_grown
  cases z
  · simp only [noEn, Bool.true_and, Bool.false_and, Bool.false_eq_true, if_false, Prod.mk.injEq] at hr
    obtain ⟨⟨rfl, rfl, rfl, rfl⟩, rfl⟩ := hr
    go_enter Try.func31, Try.ntmps31
    go_wp2_with fail
    refine (refIs_any st a b c 2 true _ Hv.out fa fb fc).mono ?_
    rintro e w1 ⟨rfl, hb1⟩
    have hkO := Blk.step (((Blk.new w _ _).alloc _).alloc _) hb1
    have hkT := Blk.step ((Blk.new_at (n := w.heap.size + 1) (by simp) _ _).alloc _) hb1
    have hkR := Blk.step (Blk.new_at (n := w.heap.size + 2) (by simp) _ _) hb1
    have hc1 := bel_step (w := w) (by go_grown) hb1
    clear hb1
    have hz1 := hc1.size
    have lO := hkO.lt
    have HkO := Lib.hid hkO
    have lT := hkT.lt
    obtain ⟨cT0, cT1, cT2, cT3, fT0, fT1, fT2, fT3⟩ := cells4 hkT
    have HkT := Lib.hid hkT
    have lR := hkR.lt
    have HkR := Lib.hid hkR
    clear hkO hkT hkR
    go_wp2_with fail
    refine (refIs_any st' a' b' c' 3 false _ Hz.out fa' fb' fc').mono ?_
    rintro e w2 ⟨rfl, hb2⟩
    have hkO := Blk.step (HkO.out) hb2
    have hkT := Blk.step (HkT.out) hb2
    have hkR := Blk.step (HkR.out) hb2
    have hc2 := bel_step (w := w) (by go_grown) hb2
    clear hb2 hc1 hz1 HkO HkR HkT lO lR lT cT0 cT1 cT2 cT3 fT0 fT1 fT2 fT3
    have hz2 := hc2.size
    have lO := hkO.lt
    obtain ⟨cO0, cO1, cO2, cO3, fO0, fO1, fO2, fO3⟩ := cells4 hkO
    have HkO := Lib.hid hkO
    have lT := hkT.lt
    obtain ⟨cT0, cT1, cT2, cT3, fT0, fT1, fT2, fT3⟩ := cells4 hkT
    have HkT := Lib.hid hkT
    have lR := hkR.lt
    have HkR := Lib.hid hkR
    clear hkO hkT hkR
    go_wp2_with fail
    refine (refMeets_any st a b c st' a' b' c' m _ Hm.out).mono ?_
    rintro e w3 ⟨rfl, hb3⟩
    have hkO := Blk.step (HkO.out) hb3
    have hkT := Blk.step (HkT.out) hb3
    have hkR := Blk.step (HkR.out) hb3
    have hc3 := bel_step (w := w) (by go_grown) hb3
    clear hb3 hc2 hz2 HkO HkR HkT lO lR lT cO0 cO1 cO2 cO3 fO0 fO1 fO2 fO3 cT0 cT1 cT2 cT3 fT0 fT1 fT2 fT3
    have hz3 := hc3.size
    have lO := hkO.lt
    obtain ⟨cO0, cO1, cO2, cO3, fO0, fO1, fO2, fO3⟩ := cells4 hkO
    have HkO := Lib.hid hkO
    have lT := hkT.lt
    obtain ⟨cT0, cT1, cT2, cT3, fT0, fT1, fT2, fT3⟩ := cells4 hkT
    have HkT := Lib.hid hkT
    have lR := hkR.lt
    obtain ⟨cR0, cR1, cR2, cR3, fR0, fR1, fR2, fR3⟩ := cells4 hkR
    have HkR := Lib.hid hkR
    clear hkO hkT hkR
    go_wp2
    refine bodyPost_ret (results_cellrow_tmp rfl _ _ (w.heap.size + 2) 35 #[.int .i64 0, str [], str [], str []] _ rfl ?_ Try.underlying35 rfl Try.sizeEnd) rfl ⟨rfl, ?_⟩
    · exact ((((HkR.out).set_ 0 _).set_ 1 _).set_ 2 _).set_ 3 _
    go_grown
  cases m
  · simp only [noEn, Bool.true_and, Bool.false_and, Bool.false_eq_true, if_false, Prod.mk.injEq] at hr
    obtain ⟨⟨rfl, rfl, rfl, rfl⟩, rfl⟩ := hr
    go_enter Try.func31, Try.ntmps31
    go_wp2_with fail
    refine (refIs_any st a b c 2 true _ Hv.out fa fb fc).mono ?_
    rintro e w1 ⟨rfl, hb1⟩
    have hkO := Blk.step (((Blk.new w _ _).alloc _).alloc _) hb1
    have hkT := Blk.step ((Blk.new_at (n := w.heap.size + 1) (by simp) _ _).alloc _) hb1
    have hkR := Blk.step (Blk.new_at (n := w.heap.size + 2) (by simp) _ _) hb1
    have hc1 := bel_step (w := w) (by go_grown) hb1
    clear hb1
    have hz1 := hc1.size
    have lO := hkO.lt
    have HkO := Lib.hid hkO
    have lT := hkT.lt
    obtain ⟨cT0, cT1, cT2, cT3, fT0, fT1, fT2, fT3⟩ := cells4 hkT
    have HkT := Lib.hid hkT
    have lR := hkR.lt
    have HkR := Lib.hid hkR
    clear hkO hkT hkR
    go_wp2_with fail
    refine (refIs_any st' a' b' c' 3 true _ Hz.out fa' fb' fc').mono ?_
    rintro e w2 ⟨rfl, hb2⟩
    have hkO := Blk.step (HkO.out) hb2
    have hkT := Blk.step (HkT.out) hb2
    have hkR := Blk.step (HkR.out) hb2
    have hc2 := bel_step (w := w) (by go_grown) hb2
    clear hb2 hc1 hz1 HkO HkR HkT lO lR lT cT0 cT1 cT2 cT3 fT0 fT1 fT2 fT3
    have hz2 := hc2.size
    have lO := hkO.lt
    obtain ⟨cO0, cO1, cO2, cO3, fO0, fO1, fO2, fO3⟩ := cells4 hkO
    have HkO := Lib.hid hkO
    have lT := hkT.lt
    obtain ⟨cT0, cT1, cT2, cT3, fT0, fT1, fT2, fT3⟩ := cells4 hkT
    have HkT := Lib.hid hkT
    have lR := hkR.lt
    have HkR := Lib.hid hkR
    clear hkO hkT hkR
    go_wp2_with fail
    refine (refMeets_any st a b c st' a' b' c' false _ Hm.out).mono ?_
    rintro e w3 ⟨rfl, hb3⟩
    have hkO := Blk.step (HkO.out) hb3
    have hkT := Blk.step (HkT.out) hb3
    have hkR := Blk.step (HkR.out) hb3
    have hc3 := bel_step (w := w) (by go_grown) hb3
    clear hb3 hc2 hz2 HkO HkR HkT lO lR lT cO0 cO1 cO2 cO3 fO0 fO1 fO2 fO3 cT0 cT1 cT2 cT3 fT0 fT1 fT2 fT3
    have hz3 := hc3.size
    have lO := hkO.lt
    obtain ⟨cO0, cO1, cO2, cO3, fO0, fO1, fO2, fO3⟩ := cells4 hkO
    have HkO := Lib.hid hkO
    have lT := hkT.lt
    obtain ⟨cT0, cT1, cT2, cT3, fT0, fT1, fT2, fT3⟩ := cells4 hkT
    have HkT := Lib.hid hkT
    have lR := hkR.lt
    obtain ⟨cR0, cR1, cR2, cR3, fR0, fR1, fR2, fR3⟩ := cells4 hkR
    have HkR := Lib.hid hkR
    clear hkO hkT hkR
    go_wp2
    refine bodyPost_ret (results_cellrow_tmp rfl _ _ (w.heap.size + 2) 35 #[.int .i64 0, str [], str [], str []] _ rfl ?_ Try.underlying35 rfl Try.sizeEnd) rfl ⟨rfl, ?_⟩
    · exact ((((HkR.out).set_ 0 _).set_ 1 _).set_ 2 _).set_ 3 _
    go_grown
  by_cases hid' : c' = id
  · subst hid'
    simp only [Bool.true_and, decide_true, if_true, Prod.mk.injEq] at hr
    obtain ⟨⟨rfl, rfl, rfl, rfl⟩, rfl⟩ := hr
    go_enter Try.func31, Try.ntmps31
    go_wp2_with fail
    refine (refIs_any st a b c 2 true _ Hv.out fa fb fc).mono ?_
    rintro e w1 ⟨rfl, hb1⟩
    have hkO := Blk.step (((Blk.new w _ _).alloc _).alloc _) hb1
    have hkT := Blk.step ((Blk.new_at (n := w.heap.size + 1) (by simp) _ _).alloc _) hb1
    have hkR := Blk.step (Blk.new_at (n := w.heap.size + 2) (by simp) _ _) hb1
    have hc1 := bel_step (w := w) (by go_grown) hb1
    clear hb1
    have hz1 := hc1.size
    have lO := hkO.lt
    have HkO := Lib.hid hkO
    have lT := hkT.lt
    obtain ⟨cT0, cT1, cT2, cT3, fT0, fT1, fT2, fT3⟩ := cells4 hkT
    have HkT := Lib.hid hkT
    have lR := hkR.lt
    have HkR := Lib.hid hkR
    clear hkO hkT hkR
    go_wp2_with fail
    refine (refIs_any st' a' b' c' 3 true _ Hz.out fa' fb' fc').mono ?_
    rintro e w2 ⟨rfl, hb2⟩
    have hkO := Blk.step (HkO.out) hb2
    have hkT := Blk.step (HkT.out) hb2
    have hkR := Blk.step (HkR.out) hb2
    have hc2 := bel_step (w := w) (by go_grown) hb2
    clear hb2 hc1 hz1 HkO HkR HkT lO lR lT cT0 cT1 cT2 cT3 fT0 fT1 fT2 fT3
    have hz2 := hc2.size
    have lO := hkO.lt
    obtain ⟨cO0, cO1, cO2, cO3, fO0, fO1, fO2, fO3⟩ := cells4 hkO
    have HkO := Lib.hid hkO
    have lT := hkT.lt
    obtain ⟨cT0, cT1, cT2, cT3, fT0, fT1, fT2, fT3⟩ := cells4 hkT
    have HkT := Lib.hid hkT
    have lR := hkR.lt
    have HkR := Lib.hid hkR
    clear hkO hkT hkR
    go_wp2_with fail
    refine (refMeets_any st a b c st' a' b' c' true _ Hm.out).mono ?_
    rintro e w3 ⟨rfl, hb3⟩
    have hkO := Blk.step (HkO.out) hb3
    have hkT := Blk.step (HkT.out) hb3
    have hkR := Blk.step (HkR.out) hb3
    have hc3 := bel_step (w := w) (by go_grown) hb3
    clear hb3 hc2 hz2 HkO HkR HkT lO lR lT cO0 cO1 cO2 cO3 fO0 fO1 fO2 fO3 cT0 cT1 cT2 cT3 fT0 fT1 fT2 fT3
    have hz3 := hc3.size
    have lO := hkO.lt
    obtain ⟨cO0, cO1, cO2, cO3, fO0, fO1, fO2, fO3⟩ := cells4 hkO
    have HkO := Lib.hid hkO
    have lT := hkT.lt
    obtain ⟨cT0, cT1, cT2, cT3, fT0, fT1, fT2, fT3⟩ := cells4 hkT
    have HkT := Lib.hid hkT
    have lR := hkR.lt
    obtain ⟨cR0, cR1, cR2, cR3, fR0, fR1, fR2, fR3⟩ := cells4 hkR
    have HkR := Lib.hid hkR
    clear hkO hkT hkR
    go_wp2
    refine bodyPost_ret (results_cellrow_tmp rfl _ _ (w.heap.size + 2) 35 #[.int .i64 3, str a, str b, str c] _ rfl ?_ Try.underlying35 rfl Try.sizeEnd) rfl ⟨rfl, ?_⟩
    · exact ((((HkR.out.far (by simp) _).set_ 0 _).set_ 1 _).set_ 2 _).set_ 3 _
    go_grown
  · have hid2 : (c' == id) = false := by simpa using hid'
    simp only [hid', decide_false, noEn, Bool.true_and, Bool.false_eq_true, if_false, Prod.mk.injEq] at hr
    clear hid'
    obtain ⟨⟨rfl, rfl, rfl, rfl⟩, rfl⟩ := hr
    go_enter Try.func31, Try.ntmps31
    go_wp2_with fail
    refine (refIs_any st a b c 2 true _ Hv.out fa fb fc).mono ?_
    rintro e w1 ⟨rfl, hb1⟩
    have hkO := Blk.step (((Blk.new w _ _).alloc _).alloc _) hb1
    have hkT := Blk.step ((Blk.new_at (n := w.heap.size + 1) (by simp) _ _).alloc _) hb1
    have hkR := Blk.step (Blk.new_at (n := w.heap.size + 2) (by simp) _ _) hb1
    have hc1 := bel_step (w := w) (by go_grown) hb1
    clear hb1
    have hz1 := hc1.size
    have lO := hkO.lt
    have HkO := Lib.hid hkO
    have lT := hkT.lt
    obtain ⟨cT0, cT1, cT2, cT3, fT0, fT1, fT2, fT3⟩ := cells4 hkT
    have HkT := Lib.hid hkT
    have lR := hkR.lt
    have HkR := Lib.hid hkR
    clear hkO hkT hkR
    go_wp2_with fail
    refine (refIs_any st' a' b' c' 3 true _ Hz.out fa' fb' fc').mono ?_
    rintro e w2 ⟨rfl, hb2⟩
    have hkO := Blk.step (HkO.out) hb2
    have hkT := Blk.step (HkT.out) hb2
    have hkR := Blk.step (HkR.out) hb2
    have hc2 := bel_step (w := w) (by go_grown) hb2
    clear hb2 hc1 hz1 HkO HkR HkT lO lR lT cT0 cT1 cT2 cT3 fT0 fT1 fT2 fT3
    have hz2 := hc2.size
    have lO := hkO.lt
    obtain ⟨cO0, cO1, cO2, cO3, fO0, fO1, fO2, fO3⟩ := cells4 hkO
    have HkO := Lib.hid hkO
    have lT := hkT.lt
    obtain ⟨cT0, cT1, cT2, cT3, fT0, fT1, fT2, fT3⟩ := cells4 hkT
    have HkT := Lib.hid hkT
    have lR := hkR.lt
    have HkR := Lib.hid hkR
    clear hkO hkT hkR
    go_wp2_with fail
    refine (refMeets_any st a b c st' a' b' c' true _ Hm.out).mono ?_
    rintro e w3 ⟨rfl, hb3⟩
    have hkO := Blk.step (HkO.out) hb3
    have hkT := Blk.step (HkT.out) hb3
    have hkR := Blk.step (HkR.out) hb3
    have hc3 := bel_step (w := w) (by go_grown) hb3
    clear hb3 hc2 hz2 HkO HkR HkT lO lR lT cO0 cO1 cO2 cO3 fO0 fO1 fO2 fO3 cT0 cT1 cT2 cT3 fT0 fT1 fT2 fT3
    have hz3 := hc3.size
    have lO := hkO.lt
    obtain ⟨cO0, cO1, cO2, cO3, fO0, fO1, fO2, fO3⟩ := cells4 hkO
    have HkO := Lib.hid hkO
    have lT := hkT.lt
    obtain ⟨cT0, cT1, cT2, cT3, fT0, fT1, fT2, fT3⟩ := cells4 hkT
    have HkT := Lib.hid hkT
    have lR := hkR.lt
    obtain ⟨cR0, cR1, cR2, cR3, fR0, fR1, fR2, fR3⟩ := cells4 hkR
    have HkR := Lib.hid hkR
    clear hkO hkT hkR
    go_wp2
    refine bodyPost_ret (results_cellrow_tmp rfl _ _ (w.heap.size + 2) 35 #[.int .i64 0, str [], str [], str []] _ rfl ?_ Try.underlying35 rfl Try.sizeEnd) rfl ⟨rfl, ?_⟩
    · exact ((((HkR.out).set_ 0 _).set_ 1 _).set_ 2 _).set_ 3 _
    go_grown

set_option maxRecDepth 100000 in
set_option maxHeartbeats 1600000 in
theorem refClose_any (st : Int) (a b c : List UInt8) (x : Int) (ra rb rc : List UInt8) (er : Int) (w : World) (hr : closeR (st, a, b, c) = ((x, ra, rb, rc), er)) (fa : Fits a) (fb : Fits b) (fc : Fits c) :
    Calls Try.prog 33 #[.agg #[.int .i64 st, str a, str b, str c]] w fun e w' =>
      e = .returned (.tuple #[.agg #[.int .i64 x, str ra, str rb, str rc], .int .i64 er]) ∧ Below w.heap.size w w' := by
  obtain ⟨v, hv⟩ : ∃ z, isE (st, a, b, c) 3 = z := ⟨_, rfl⟩
  rw [closeR, hv] at hr
  have Hv := Lib.hid hv
  clear hv
  cases v
  · simp only [noEn, Bool.false_eq_true, if_false, Prod.mk.injEq] at hr
    obtain ⟨⟨rfl, rfl, rfl, rfl⟩, rfl⟩ := hr
    go_enter Try.func33, Try.ntmps33
    go_wp2_with fail
    refine (refIs_any st a b c 3 false _ Hv.out fa fb fc).mono ?_
    rintro e w1 ⟨rfl, hb1⟩
    have hkO := Blk.step ((Blk.new w _ _).alloc _) hb1
    have hkR := Blk.step (Blk.new_at (n := w.heap.size + 1) (by simp) _ _) hb1
    have hc1 := bel_step (w := w) (by go_grown) hb1
    clear hb1
    have hz1 := hc1.size
    have lO := hkO.lt
    have HkO := Lib.hid hkO
    have lR := hkR.lt
    obtain ⟨cR0, cR1, cR2, cR3, fR0, fR1, fR2, fR3⟩ := cells4 hkR
    have HkR := Lib.hid hkR
    clear hkO hkR
    go_wp2
    refine bodyPost_ret (results_cellrow_tmp rfl _ _ (w.heap.size + 1) 35 #[.int .i64 0, str [], str [], str []] _ rfl ?_ Try.underlying35 rfl Try.sizeEnd) rfl ⟨rfl, ?_⟩
    · exact ((((HkR.out).set_ 0 _).set_ 1 _).set_ 2 _).set_ 3 _
    go_grown
  · simp only [if_true, Prod.mk.injEq] at hr
    obtain ⟨⟨rfl, rfl, rfl, rfl⟩, rfl⟩ := hr
    go_enter Try.func33, Try.ntmps33
    go_wp2_with fail
    refine (refIs_any st a b c 3 true _ Hv.out fa fb fc).mono ?_
    rintro e w1 ⟨rfl, hb1⟩
    have hkO := Blk.step ((Blk.new w _ _).alloc _) hb1
    have hkR := Blk.step (Blk.new_at (n := w.heap.size + 1) (by simp) _ _) hb1
    have hc1 := bel_step (w := w) (by go_grown) hb1
    clear hb1
    have hz1 := hc1.size
    have lO := hkO.lt
    obtain ⟨cO0, cO1, cO2, cO3, fO0, fO1, fO2, fO3⟩ := cells4 hkO
    have HkO := Lib.hid hkO
    have lR := hkR.lt
    obtain ⟨cR0, cR1, cR2, cR3, fR0, fR1, fR2, fR3⟩ := cells4 hkR
    have HkR := Lib.hid hkR
    clear hkO hkR
    go_wp2
    refine bodyPost_ret (results_cellrow_tmp rfl _ _ (w.heap.size + 1) 35 #[.int .i64 4, str a, str b, str c] _ rfl ?_ Try.underlying35 rfl Try.sizeEnd) rfl ⟨rfl, ?_⟩
    · exact ((((HkR.out.far (by simp) _).set_ 0 _).set_ 1 _).set_ 2 _).set_ 3 _
    go_grown
end Go.Proofs.Ytlkgloakcpfnnaa

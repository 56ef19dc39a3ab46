/-
  What the reference Check, is, meets, Init, Try, Ack, Confirm and Close return: the same, for texts of at most 2^47 bytes.
-/
import Derived.Test.YtlkgloakcpfnnaaLinkE
namespace Go.Proofs.Ytlkgloakcpfnnaa
open Go.RowKit

set_option maxRecDepth 100000 in
set_option maxHeartbeats 1600000 in
theorem refCheck_any (st : Int) (a b c : List UInt8) (v : Bool) (w : World) (hv : checkE (st, a, b, c) = v) (fa : Fits a) (fb : Fits b) (fc : Fits c) :
    Calls Try.prog 22 #[.agg #[.int .i64 st, str a, str b, str c]] w fun e w' => e = .returned (.bool v) ∧ Below w.heap.size w w' := by
  obtain ⟨pa, hpa⟩ : ∃ u, partB a = u := ⟨_, rfl⟩
  obtain ⟨pb, hpb⟩ : ∃ u, partB b = u := ⟨_, rfl⟩
  obtain ⟨pc, hpc⟩ : ∃ u, partB c = u := ⟨_, rfl⟩
  have Hv := Lib.hid hv
  have Ha := Lib.hid hpa
  have Hb := Lib.hid hpb
  have Hc := Lib.hid hpc
  clear hv hpa hpb hpc
  by_cases h0 : st < 1 ∨ 4 < st
  · have hn := checkE_no st a b c (by omega) (by omega) (by omega) (by omega)
    have Hn := Lib.hid hn
    clear hn
    rcases h0 with h0 | h0
    all_goals
      go_enter Try.func22, Try.ntmps22
      go_wp2_with fail
      refine (refPart_any a pa _ Ha.out fa).mono ?_
      rintro e w1 ⟨rfl, rfl⟩
      go_wp2_with fail
      refine (refPart_any b pb _ Hb.out fb).mono ?_
      rintro e w1 ⟨rfl, rfl⟩
      go_wp2_with fail
      refine (refPart_any c pc _ Hc.out fc).mono ?_
      rintro e w1 ⟨rfl, rfl⟩
      go_wp2
      go_ret
      exact ⟨by rw [← Hv.out, Hn.out]; rfl, by go_grown⟩
  · have hA : 1 ≤ st := by omega
    have hB : st ≤ 4 := by omega
    clear h0
    cases pa
    · have hn : checkE (st, a, b, c) = false := by simp [checkE, Ha.out]
      have Hn := Lib.hid hn
      clear hn
      go_enter Try.func22, Try.ntmps22
      go_wp2_with fail
      refine (refPart_any a false _ Ha.out fa).mono ?_
      rintro e w1 ⟨rfl, rfl⟩
      go_wp2_with fail
      refine (refPart_any b pb _ Hb.out fb).mono ?_
      rintro e w1 ⟨rfl, rfl⟩
      go_wp2_with fail
      refine (refPart_any c pc _ Hc.out fc).mono ?_
      rintro e w1 ⟨rfl, rfl⟩
      go_wp2
      go_ret
      exact ⟨by rw [← Hv.out, Hn.out]; rfl, by go_grown⟩
    cases pb
    · have hn : checkE (st, a, b, c) = false := by simp [checkE, Hb.out]
      have Hn := Lib.hid hn
      clear hn
      go_enter Try.func22, Try.ntmps22
      go_wp2_with fail
      refine (refPart_any a true _ Ha.out fa).mono ?_
      rintro e w1 ⟨rfl, rfl⟩
      go_wp2_with fail
      refine (refPart_any b false _ Hb.out fb).mono ?_
      rintro e w1 ⟨rfl, rfl⟩
      go_wp2_with fail
      refine (refPart_any c pc _ Hc.out fc).mono ?_
      rintro e w1 ⟨rfl, rfl⟩
      go_wp2
      go_ret
      exact ⟨by rw [← Hv.out, Hn.out]; rfl, by go_grown⟩
    by_cases h1 : st = 1
    · subst h1
      by_cases hc : c = []
      · subst hc
        go_enter Try.func22, Try.ntmps22
        go_wp2_with fail
        refine (refPart_any a true _ Ha.out fa).mono ?_
        rintro e w1 ⟨rfl, rfl⟩
        go_wp2_with fail
        refine (refPart_any b true _ Hb.out fb).mono ?_
        rintro e w1 ⟨rfl, rfl⟩
        go_wp2_with fail
        refine (refPart_any [] pc _ Hc.out fc).mono ?_
        rintro e w1 ⟨rfl, rfl⟩
        go_wp2
        go_ret
        exact ⟨by rw [← Hv.out, checkE_1, Ha.out, Hb.out]; rfl, by go_grown⟩
      · have hc' : c.isEmpty = false := by simpa using hc
        have Hn := Lib.hid hc
        clear hc
        go_enter Try.func22, Try.ntmps22
        go_wp2_with fail
        refine (refPart_any a true _ Ha.out fa).mono ?_
        rintro e w1 ⟨rfl, rfl⟩
        go_wp2_with fail
        refine (refPart_any b true _ Hb.out fb).mono ?_
        rintro e w1 ⟨rfl, rfl⟩
        go_wp2_with fail
        refine (refPart_any c pc _ Hc.out fc).mono ?_
        rintro e w1 ⟨rfl, rfl⟩
        go_wp2
        go_ret
        exact ⟨by rw [← Hv.out, checkE_1, Ha.out, Hb.out, decide_eq_false Hn.out]; rfl, by go_grown⟩
    · have hn : checkE (st, a, b, c) = pc := by
        have : st = 2 ∨ st = 3 ∨ st = 4 := by omega
        rcases this with rfl | rfl | rfl <;> simp [checkE, Ha.out, Hb.out, Hc.out]
      have Hn := Lib.hid hn
      clear hn
      go_enter Try.func22, Try.ntmps22
      go_wp2_with fail
      refine (refPart_any a true _ Ha.out fa).mono ?_
      rintro e w1 ⟨rfl, rfl⟩
      go_wp2_with fail
      refine (refPart_any b true _ Hb.out fb).mono ?_
      rintro e w1 ⟨rfl, rfl⟩
      go_wp2_with fail
      refine (refPart_any c pc _ Hc.out fc).mono ?_
      rintro e w1 ⟨rfl, rfl⟩
      go_wp2
      go_ret
      exact ⟨by rw [← Hv.out, Hn.out]; rfl, by go_grown⟩

set_option maxRecDepth 100000 in
set_option maxHeartbeats 800000 in
theorem refIs_any (st : Int) (a b c : List UInt8) (k : Int) (v : Bool) (w : World) (hv : isE (st, a, b, c) k = v) (fa : Fits a) (fb : Fits b) (fc : Fits c) :
    Calls Try.prog 52 #[.agg #[.int .i64 st, str a, str b, str c], .int .i64 k] w fun e w' => e = .returned (.bool v) ∧ Below w.heap.size w w' := by
  obtain ⟨u, hu⟩ : ∃ u, checkE (st, a, b, c) = u := ⟨_, rfl⟩
  have Hv := Lib.hid hv
  have Hu := Lib.hid hu
  clear hv hu
  cases u
  · go_enter Try.func52, Try.ntmps52
    go_wp2_with fail
    refine (refCheck_any st a b c false _ Hu.out fa fb fc).mono ?_
    rintro e w1 ⟨rfl, hb1⟩
    go_wp2
    go_ret
    exact ⟨by rw [← Hv.out]; simp [isE, Hu.out], bel_step (by go_grown) hb1⟩
  · by_cases h : st = k
    · subst h
      go_enter Try.func52, Try.ntmps52
      go_wp2_with fail
      refine (refCheck_any st a b c true _ Hu.out fa fb fc).mono ?_
      rintro e w1 ⟨rfl, hb1⟩
      have hk0 := Blk.step (Blk.new w _ _) hb1
      obtain ⟨c00, c01, c02, c03, f00, f01, f02, f03⟩ := cells4 hk0
      clear hk0
      go_wp2
      go_ret
      exact ⟨by rw [← Hv.out]; simp [isE, Hu.out], bel_step (by go_grown) hb1⟩
    · go_enter Try.func52, Try.ntmps52
      go_wp2_with fail
      refine (refCheck_any st a b c true _ Hu.out fa fb fc).mono ?_
      rintro e w1 ⟨rfl, hb1⟩
      have hk0 := Blk.step (Blk.new w _ _) hb1
      obtain ⟨c00, c01, c02, c03, f00, f01, f02, f03⟩ := cells4 hk0
      clear hk0
      go_wp2
      go_ret
      exact ⟨by rw [← Hv.out]; simp [isE, h], bel_step (by go_grown) hb1⟩

def meetsE (own t : En) : Bool := decide (own.2.1 = t.2.2.1) && decide (own.2.2.1 = t.2.1)
theorem means_meets (own t : En) (id : List UInt8) : meansE own id t = (meetsE own t && decide (t.2.2.2 = id)) := by
  unfold meansE meetsE
  rw [Bool.eq_iff_iff]
  simp only [Bool.and_eq_true, decide_eq_true_eq]
  constructor <;> (rintro ⟨⟨h1, h2⟩, h3⟩; exact ⟨⟨h2.symm, h1.symm⟩, h3⟩)

set_option maxRecDepth 100000 in
set_option maxHeartbeats 800000 in
theorem refMeets_any (st : Int) (a b c : List UInt8) (st' : Int) (a' b' c' : List UInt8) (v : Bool) (w : World) (hv : meetsE (st, a, b, c) (st', a', b', c') = v) :
    Calls Try.prog 53 #[.agg #[.int .i64 st, str a, str b, str c], .agg #[.int .i64 st', str a', str b', str c']] w fun e w' => e = .returned (.bool v) ∧ Below w.heap.size w w' := by
  have Hv := Lib.hid hv
  clear hv
  by_cases h1 : a = b'
  · subst h1
    by_cases h2 : b = a'
    · subst h2
      go_enter Try.func53, Try.ntmps53
      go_wp2
      go_ret
      exact ⟨by rw [← Hv.out]; simp [meetsE], by go_grown⟩
    · have h2' : (b == a') = false := by simpa using h2
      have H2 := Lib.hid h2
      clear h2
      go_enter Try.func53, Try.ntmps53
      go_wp2
      go_ret
      exact ⟨by rw [← Hv.out]; simp [meetsE, H2.out], by go_grown⟩
  · have h1' : (a == b') = false := by simpa using h1
    have H1 := Lib.hid h1
    clear h1
    go_enter Try.func53, Try.ntmps53
    go_wp2
    go_ret
    exact ⟨by rw [← Hv.out]; simp [meetsE, H1.out], by go_grown⟩
end Go.Proofs.Ytlkgloakcpfnnaa

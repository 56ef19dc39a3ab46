/-
  The walk of LinkPair: it returns true for any four names. No conditions.
-/
import Derived.Test.YtlkgloakcpfnnaaLinkFits
namespace Go.Proofs.Ytlkgloakcpfnnaa
open Go.RowKit

theorem cells2 {w : World} {g : Nat} {t : TypeId} {a b : Value} (h : Blk w g t #[a, b]) : w.cell? ⟨g, 0, none⟩ = some a ∧ w.cell? ⟨g, 1, none⟩ = some b := ⟨h.cell 0, h.cell 1⟩

set_option maxRecDepth 100000 in
set_option maxHeartbeats 3200000 in
theorem linkPair_walk (over other i0 i1 : List UInt8) (w : World) :
    Calls Try.prog 4 #[str over, str other, .agg #[str i0, str i1]] w fun e w' => e = .returned (.bool true) ∧ Below w.heap.size w w' := by
  obtain ⟨x, hx⟩ : ∃ x, x = cut40 over := ⟨_, rfl⟩
  obtain ⟨y, hy⟩ : ∃ x, x = cut40 other := ⟨_, rfl⟩
  obtain ⟨a, ha⟩ : ∃ x, x = cut40 i0 := ⟨_, rfl⟩
  obtain ⟨b, hb⟩ : ∃ x, x = cut40 i1 := ⟨_, rfl⟩
  have fx : Fits x := hx ▸ cut40_fits _
  have fy : Fits y := hy ▸ cut40_fits _
  have fa : Fits a := ha ▸ cut40_fits _
  have fb : Fits b := hb ▸ cut40_fits _
  have Hx := Lib.hid hx
  have Hy := Lib.hid hy
  have Ha := Lib.hid ha
  have Hb := Lib.hid hb
  clear hx hy ha hb
  obtain ⟨u, hu⟩ : ∃ u, checkE (3, x, y, a) = u := ⟨_, rfl⟩
  obtain ⟨v, hv⟩ : ∃ u, checkE (3, x, y, b) = u := ⟨_, rfl⟩
  obtain ⟨⟨⟨p0, p1, p2, p3⟩, ep⟩, hp⟩ : ∃ r, initR x y = r := ⟨_, rfl⟩
  obtain ⟨⟨⟨q0, q1, q2, q3⟩, eq⟩, hq⟩ : ∃ r, tryR y a (p0, p1, p2, p3) = r := ⟨_, rfl⟩
  obtain ⟨⟨⟨r0, r1, r2, r3⟩, er⟩, hr⟩ : ∃ r, ackR (p0, p1, p2, p3) a b (q0, q1, q2, q3) = r := ⟨_, rfl⟩
  obtain ⟨⟨⟨s0, s1, s2, s3⟩, es⟩, hs⟩ : ∃ r, confirmR (q0, q1, q2, q3) b (r0, r1, r2, r3) = r := ⟨_, rfl⟩
  obtain ⟨fp1, fp2, fp3⟩ := initR_fits hp fx fy
  obtain ⟨fq1, fq2, fq3⟩ := tryR_fits hq fy fa ⟨fp1, fp2, fp3⟩
  obtain ⟨fr1, fr2, fr3⟩ := ackR_fits hr ⟨fp1, fp2, fp3⟩ fb
  have Hu := Lib.hid hu
  have Hv := Lib.hid hv
  have Hp := Lib.hid hp
  have Hq := Lib.hid hq
  have Hr := Lib.hid hr
  have Hs := Lib.hid hs
  clear hu hv hp hq hr hs
  go_enter Try.func4, Try.ntmps4
  go_wp2_with fail
  refine (awake15_any _).mono ?_
  rintro e w1 ⟨rfl, hb1⟩
  have hk0 := Blk.step (Blk.new w _ _) hb1
  have hb1' := bel_step (w := w) (by go_grown) hb1
  obtain ⟨c0, c1⟩ := cells2 hk0
  clear hk0 hb1
  go_wp2_with fail
  refine (short15_any over _).mono ?_
  rw [← Hx.out]
  rintro e w2 ⟨rfl, rfl⟩
  go_wp2_with fail
  refine (short15_any other _).mono ?_
  rw [← Hy.out]
  rintro e w2 ⟨rfl, rfl⟩
  go_wp2_with fail
  refine (short15_any i0 _).mono ?_
  rw [← Ha.out]
  rintro e w2 ⟨rfl, rfl⟩
  go_wp2_with fail
  refine (short15_any i1 _).mono ?_
  rw [← Hb.out]
  rintro e w2 ⟨rfl, rfl⟩
  clear c0 c1
  go_wp2_with fail
  refine (refCheck_any 3 x y a u _ Hu.out fx fy fa).mono ?_
  rintro e w2 ⟨rfl, hb2⟩
  have hb2' := bel_step hb1' hb2
  clear hb2 hb1'
  cases u
  · go_wp2_with fail
    refine (init_any x y p0 p1 p2 p3 ep _ Hp.out fx fy).mono ?_
    rintro e w3 ⟨rfl, hb3⟩
    have hb3' := bel_step hb2' hb3
    have z3 := hb3'.size
    clear hb3 hb2'
    go_wp2_with fail
    refine (try_any y a p0 p1 p2 p3 q0 q1 q2 q3 eq _ Hq.out fy fa fp1 fp2 fp3).mono ?_
    rintro e w4 ⟨rfl, hb4⟩
    have hkp := Blk.step (Blk.new w3 _ _) hb4
    have lp := hkp.lt
    have hb4' := bel_step (hb3'.alloc z3 _) hb4
    have z4 := hb4'.size
    obtain ⟨c00, c01, c02, c03, f00, f01, f02, f03⟩ := cells4 hkp
    have Hkp := Lib.hid hkp
    clear hkp hb4 hb3'
    go_wp2_with fail
    refine (ack_any p0 p1 p2 p3 a b q0 q1 q2 q3 r0 r1 r2 r3 er _ Hr.out fp1 fp2 fp3 fa fb fq1 fq2 fq3).mono ?_
    rintro e w5 ⟨rfl, hb5⟩
    have hkq := Blk.step (Blk.new w4 _ _) hb5
    have lq := hkq.lt
    have hb5' := bel_step (hb4'.alloc z4 _) hb5
    have z5 := hb5'.size
    clear c00 c01 c02 c03 f00 f01 f02 f03
    obtain ⟨c00, c01, c02, c03, f00, f01, f02, f03⟩ := cells4 hkq
    clear hkq hb5 hb4' Hkp
    go_wp2_with fail
    refine (confirm_any q0 q1 q2 q3 b r0 r1 r2 r3 s0 s1 s2 s3 es _ Hs.out fq1 fq2 fq3 fr1 fr2 fr3).mono ?_
    rintro e w6 ⟨rfl, hb6⟩
    have hkr := Blk.step (Blk.new w5 _ _) hb6
    have lr := hkr.lt
    have hb6' := bel_step (hb5'.alloc z5 _) hb6
    have z6 := hb6'.size
    clear c00 c01 c02 c03 f00 f01 f02 f03
    obtain ⟨c00, c01, c02, c03, f00, f01, f02, f03⟩ := cells4 hkr
    clear hkr hb6 hb5'
    have hne := pair_no (x := x) (y := y) (a := a) (b := b) (no_of_a b Hu.out) Hp.out Hq.out Hr.out Hs.out
    by_cases he : ep = 0
    · by_cases hf : eq = 0
      · have hg : er ≠ 0 := by omega
        clear hne
        go_wp2
        go_ret
        exact ⟨rfl, by go_grown⟩
      · clear hne
        go_wp2
        go_ret
        exact ⟨rfl, by go_grown⟩
    · clear hne
      go_wp2
      go_ret
      exact ⟨rfl, by go_grown⟩
  · cases v
    · go_wp2_with fail
      refine (refCheck_any 3 x y b false _ Hv.out fx fy fb).mono ?_
      rintro e w2' ⟨rfl, hb2⟩
      have hb2x := bel_step hb2' hb2
      clear hb2 hb2'
      have hb2' := hb2x
      clear hb2x
      obtain ⟨w2, hw2⟩ : ∃ z, z = w2' := ⟨_, rfl⟩
      subst hw2
      go_wp2_with fail
      refine (init_any x y p0 p1 p2 p3 ep _ Hp.out fx fy).mono ?_
      rintro e w3 ⟨rfl, hb3⟩
      have hb3' := bel_step hb2' hb3
      have z3 := hb3'.size
      clear hb3 hb2'
      go_wp2_with fail
      refine (try_any y a p0 p1 p2 p3 q0 q1 q2 q3 eq _ Hq.out fy fa fp1 fp2 fp3).mono ?_
      rintro e w4 ⟨rfl, hb4⟩
      have hkp := Blk.step (Blk.new w3 _ _) hb4
      have lp := hkp.lt
      have hb4' := bel_step (hb3'.alloc z3 _) hb4
      have z4 := hb4'.size
      obtain ⟨c00, c01, c02, c03, f00, f01, f02, f03⟩ := cells4 hkp
      have Hkp := Lib.hid hkp
      clear hkp hb4 hb3'
      go_wp2_with fail
      refine (ack_any p0 p1 p2 p3 a b q0 q1 q2 q3 r0 r1 r2 r3 er _ Hr.out fp1 fp2 fp3 fa fb fq1 fq2 fq3).mono ?_
      rintro e w5 ⟨rfl, hb5⟩
      have hkq := Blk.step (Blk.new w4 _ _) hb5
      have lq := hkq.lt
      have hb5' := bel_step (hb4'.alloc z4 _) hb5
      have z5 := hb5'.size
      clear c00 c01 c02 c03 f00 f01 f02 f03
      obtain ⟨c00, c01, c02, c03, f00, f01, f02, f03⟩ := cells4 hkq
      clear hkq hb5 hb4' Hkp
      go_wp2_with fail
      refine (confirm_any q0 q1 q2 q3 b r0 r1 r2 r3 s0 s1 s2 s3 es _ Hs.out fq1 fq2 fq3 fr1 fr2 fr3).mono ?_
      rintro e w6 ⟨rfl, hb6⟩
      have hkr := Blk.step (Blk.new w5 _ _) hb6
      have lr := hkr.lt
      have hb6' := bel_step (hb5'.alloc z5 _) hb6
      have z6 := hb6'.size
      clear c00 c01 c02 c03 f00 f01 f02 f03
      obtain ⟨c00, c01, c02, c03, f00, f01, f02, f03⟩ := cells4 hkr
      clear hkr hb6 hb5'
      have hne := pair_no (x := x) (y := y) (a := a) (b := b) (no_of_b a Hv.out) Hp.out Hq.out Hr.out Hs.out
      by_cases he : ep = 0
      · by_cases hf : eq = 0
        · have hg : er ≠ 0 := by omega
          clear hne
          go_wp2
          go_ret
          exact ⟨rfl, by go_grown⟩
        · clear hne
          go_wp2
          go_ret
          exact ⟨rfl, by go_grown⟩
      · clear hne
        go_wp2
        go_ret
        exact ⟨rfl, by go_grown⟩
    · have hall : partB x = true ∧ partB y = true ∧ partB a = true ∧ partB b = true := by
        have h1 := Hu.out
        have h2 := Hv.out
        simp only [checkE_3, Bool.and_eq_true] at h1 h2
        exact ⟨h1.1.1, h1.1.2, h1.2, h2.2⟩
      obtain ⟨e1, e2, e3, e4⟩ := pair_yes hall.1 hall.2.1 hall.2.2.1 hall.2.2.2
      clear hall
      have Hp' := Hp.out
      rw [e1] at Hp'
      simp only [Prod.mk.injEq] at Hp'
      obtain ⟨⟨rfl, rfl, rfl, rfl⟩, rfl⟩ := Hp'
      have Hq' := Hq.out
      rw [e2] at Hq'
      simp only [Prod.mk.injEq] at Hq'
      obtain ⟨⟨rfl, rfl, rfl, rfl⟩, rfl⟩ := Hq'
      have Hr' := Hr.out
      rw [e3] at Hr'
      simp only [Prod.mk.injEq] at Hr'
      obtain ⟨⟨rfl, rfl, rfl, rfl⟩, rfl⟩ := Hr'
      have Hs' := Hs.out
      rw [e4] at Hs'
      simp only [Prod.mk.injEq] at Hs'
      obtain ⟨⟨rfl, rfl, rfl, rfl⟩, rfl⟩ := Hs'
      clear e1 e2 e3 e4
      go_wp2_with fail
      refine (refCheck_any 3 x y b true _ Hv.out fx fy fb).mono ?_
      rintro e w2' ⟨rfl, hb2⟩
      have hb2x := bel_step hb2' hb2
      clear hb2 hb2'
      have hb2' := hb2x
      clear hb2x
      obtain ⟨w2, hw2⟩ : ∃ z, z = w2' := ⟨_, rfl⟩
      subst hw2
      go_wp2_with fail
      refine (init_any x y 1 x y [] 0 _ Hp.out fx fy).mono ?_
      rintro e w3 ⟨rfl, hb3⟩
      have hb3' := bel_step hb2' hb3
      have z3 := hb3'.size
      clear hb3 hb2'
      go_wp2_with fail
      refine (try_any y a 1 x y [] 2 y x a 0 _ Hq.out fy fa fp1 fp2 fp3).mono ?_
      rintro e w4 ⟨rfl, hb4⟩
      have hkp := Blk.step (Blk.new w3 _ _) hb4
      have lp := hkp.lt
      have hb4' := bel_step (hb3'.alloc z3 _) hb4
      have z4 := hb4'.size
      obtain ⟨c00, c01, c02, c03, f00, f01, f02, f03⟩ := cells4 hkp
      have Hkp := Lib.hid hkp
      clear hkp hb4 hb3'
      go_wp2_with fail
      refine (ack_any 1 x y [] a b 2 y x a 3 x y b 0 _ Hr.out fp1 fp2 fp3 fa fb fq1 fq2 fq3).mono ?_
      rintro e w5 ⟨rfl, hb5⟩
      have hkq := Blk.step (Blk.new w4 _ _) hb5
      have lq := hkq.lt
      have hb5' := bel_step (hb4'.alloc z4 _) hb5
      have z5 := hb5'.size
      clear c00 c01 c02 c03 f00 f01 f02 f03
      obtain ⟨c00, c01, c02, c03, f00, f01, f02, f03⟩ := cells4 hkq
      clear hkq hb5 hb4' Hkp
      go_wp2_with fail
      refine (confirm_any 2 y x a b 3 x y b 3 y x a 0 _ Hs.out fq1 fq2 fq3 fr1 fr2 fr3).mono ?_
      rintro e w6 ⟨rfl, hb6⟩
      have hkr := Blk.step (Blk.new w5 _ _) hb6
      have lr := hkr.lt
      have hb6' := bel_step (hb5'.alloc z5 _) hb6
      have z6 := hb6'.size
      clear c00 c01 c02 c03 f00 f01 f02 f03
      obtain ⟨c00, c01, c02, c03, f00, f01, f02, f03⟩ := cells4 hkr
      clear hkr hb6 hb5'
      go_wp2
      go_ret
      exact ⟨rfl, by go_grown⟩
end Go.Proofs.Ytlkgloakcpfnnaa

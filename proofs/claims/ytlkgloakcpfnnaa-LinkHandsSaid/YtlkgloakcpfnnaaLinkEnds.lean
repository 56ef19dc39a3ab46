/-
  The walk of LinkEnds: it returns true for any two ends and names. No conditions.
-/
import Derived.Test.YtlkgloakcpfnnaaLinkFits
namespace Go.Proofs.Ytlkgloakcpfnnaa
open Go.RowKit

theorem ends_cases {a b : En} {x y : List UInt8} {c d g : En} {e f h : Int} (h1 : ackR a x y b = (c, e)) (h2 : confirmR a x b = (d, f)) (h3 : closeR a = (g, h)) :
    (e = 0 ∧ f ≠ 0 ∧ h ≠ 0 ∧ a.1 = 1 ∧ (3, a.2.1, a.2.2.1, y) = c ∧ checkE a = true) ∨ (e ≠ 0 ∧ f = 0 ∧ h ≠ 0 ∧ a.1 = 2 ∧ (3, a.2.1, a.2.2.1, a.2.2.2) = d ∧ checkE a = true) ∨
      (e ≠ 0 ∧ f ≠ 0 ∧ h = 0 ∧ a.1 = 3 ∧ (4, a.2.1, a.2.2.1, a.2.2.2) = g ∧ checkE a = true) ∨ (e ≠ 0 ∧ f ≠ 0 ∧ h ≠ 0 ∧ (a.1 ≠ 3 ∨ checkE a = false)) := by
  have k1 : e ≠ 0 ∨ (e = 0 ∧ a.1 = 1 ∧ (3, a.2.1, a.2.2.1, y) = c ∧ checkE a = true) := by
    unfold ackR opensR at h1
    split at h1
    · injection h1 with _ h; exact .inl (by omega)
    · split at h1
      · rename_i hh
        simp only [isE, Bool.and_eq_true, decide_eq_true_eq] at hh
        injection h1 with hc he
        exact .inr ⟨he.symm, hh.1.1.1, hc, hh.1.1.2⟩
      · injection h1 with _ h; exact .inl (by omega)
  have k2 : f ≠ 0 ∨ (f = 0 ∧ a.1 = 2 ∧ (3, a.2.1, a.2.2.1, a.2.2.2) = d ∧ checkE a = true) := by
    unfold confirmR opensR at h2
    split at h2
    · rename_i hh
      simp only [isE, Bool.and_eq_true, decide_eq_true_eq] at hh
      injection h2 with hc he
      exact .inr ⟨he.symm, hh.1.1.1, hc, hh.1.1.2⟩
    · injection h2 with _ h; exact .inl (by omega)
  have k3 : (h ≠ 0 ∧ (a.1 ≠ 3 ∨ checkE a = false)) ∨ (h = 0 ∧ a.1 = 3 ∧ (4, a.2.1, a.2.2.1, a.2.2.2) = g ∧ checkE a = true) := by
    unfold closeR at h3
    split at h3
    · rename_i hh
      simp only [isE, Bool.and_eq_true, decide_eq_true_eq] at hh
      injection h3 with hc he
      exact .inr ⟨he.symm, hh.1, hc, hh.2⟩
    · rename_i hh
      simp only [isE, Bool.and_eq_true, decide_eq_true_eq, not_and, Bool.not_eq_true] at hh
      injection h3 with _ h
      refine .inl ⟨by omega, ?_⟩
      by_cases h3 : a.1 = 3
      · exact .inr (hh h3)
      · exact .inl h3
  rcases k1 with k1 | ⟨k1, m1, n1, o1⟩
  · rcases k2 with k2 | ⟨k2, m2, n2, o2⟩
    · rcases k3 with ⟨k3, m3⟩ | ⟨k3, m3, n3, o3⟩
      · exact .inr (.inr (.inr ⟨k1, k2, k3, m3⟩))
      · exact .inr (.inr (.inl ⟨k1, k2, k3, m3, n3, o3⟩))
    · rcases k3 with ⟨k3, m3⟩ | ⟨k3, m3, n3, o3⟩
      · exact .inr (.inl ⟨k1, k2, k3, m2, n2, o2⟩)
      · omega
  · rcases k2 with k2 | ⟨k2, m2, n2, o2⟩
    · rcases k3 with ⟨k3, m3⟩ | ⟨k3, m3, n3, o3⟩
      · exact .inl ⟨k1, k2, k3, m1, n1, o1⟩
      · omega
    · omega

theorem cells2 {w : World} {g : Nat} {t : TypeId} {a b : Value} (h : Blk w g t #[a, b]) : w.cell? ⟨g, 0, none⟩ = some a ∧ w.cell? ⟨g, 1, none⟩ = some b ∧ w.frozen? ⟨g, 0, none⟩ = false ∧ w.frozen? ⟨g, 1, none⟩ = false := ⟨h.cell 0, h.cell 1, h.frozen 0, h.frozen 1⟩

set_option maxRecDepth 100000 in
set_option maxHeartbeats 1600000 in
theorem linkEnds_walk (n : Int) (u1 u2 u3 : List UInt8) (n' : Int) (v1 v2 v3 i0 i1 : List UInt8) (w : World) :
    Calls Try.prog 7 #[.agg #[.int .i64 n, str u1, str u2, str u3], .agg #[.int .i64 n', str v1, str v2, str v3], .agg #[str i0, str i1]] w fun e w' => e = .returned (.bool true) ∧ Below w.heap.size w w' := by
  obtain ⟨a1, ha1⟩ : ∃ z, z = cut40 u1 := ⟨_, rfl⟩
  have fa1 : Fits a1 := ha1 ▸ cut40_fits _
  have Ha1 := Lib.hid ha1
  clear ha1
  obtain ⟨a2, ha2⟩ : ∃ z, z = cut40 u2 := ⟨_, rfl⟩
  have fa2 : Fits a2 := ha2 ▸ cut40_fits _
  have Ha2 := Lib.hid ha2
  clear ha2
  obtain ⟨a3, ha3⟩ : ∃ z, z = cut40 u3 := ⟨_, rfl⟩
  have fa3 : Fits a3 := ha3 ▸ cut40_fits _
  have Ha3 := Lib.hid ha3
  clear ha3
  obtain ⟨b1, hb1⟩ : ∃ z, z = cut40 v1 := ⟨_, rfl⟩
  have fb1 : Fits b1 := hb1 ▸ cut40_fits _
  have Hb1 := Lib.hid hb1
  clear hb1
  obtain ⟨b2, hb2⟩ : ∃ z, z = cut40 v2 := ⟨_, rfl⟩
  have fb2 : Fits b2 := hb2 ▸ cut40_fits _
  have Hb2 := Lib.hid hb2
  clear hb2
  obtain ⟨b3, hb3⟩ : ∃ z, z = cut40 v3 := ⟨_, rfl⟩
  have fb3 : Fits b3 := hb3 ▸ cut40_fits _
  have Hb3 := Lib.hid hb3
  clear hb3
  obtain ⟨x, hx⟩ : ∃ z, z = cut40 i0 := ⟨_, rfl⟩
  have fx : Fits x := hx ▸ cut40_fits _
  have Hx := Lib.hid hx
  clear hx
  obtain ⟨y, hy⟩ : ∃ z, z = cut40 i1 := ⟨_, rfl⟩
  have fy : Fits y := hy ▸ cut40_fits _
  have Hy := Lib.hid hy
  clear hy
  obtain ⟨⟨⟨c0, c1, c2, c3⟩, e1⟩, hc⟩ : ∃ r, ackR (n, a1, a2, a3) x y (n', b1, b2, b3) = r := ⟨_, rfl⟩
  obtain ⟨⟨⟨d0, d1, d2, d3⟩, e2⟩, hd⟩ : ∃ r, confirmR (n, a1, a2, a3) x (n', b1, b2, b3) = r := ⟨_, rfl⟩
  obtain ⟨⟨⟨g0, g1, g2, g3⟩, e3⟩, hg⟩ : ∃ r, closeR (n, a1, a2, a3) = r := ⟨_, rfl⟩
  have HC := Lib.hid (ends_cases hc hd hg)
  have Hc := Lib.hid hc
  have Hd := Lib.hid hd
  have Hg := Lib.hid hg
  clear hc hd hg
  go_enter Try.func7, Try.ntmps7
  go_wp2_with fail
  refine (awake15_any _).mono ?_
  rintro e w1 ⟨rfl, hb1⟩
  have hkO := Blk.step (((Blk.new w _ _).alloc _).alloc _) hb1
  have hkP := Blk.step ((Blk.new_at (n := w.heap.size + 1) (by simp) _ _).alloc _) hb1
  have hkQ := Blk.step (Blk.new_at (n := w.heap.size + 2) (by simp) _ _) hb1
  have hc1 := bel_step (w := w) (by go_grown) hb1
  clear hb1
  have hz1 := hc1.size
  have lO := hkO.lt
  obtain ⟨cO0, cO1, cO2, cO3, fO0, fO1, fO2, fO3⟩ := cells4 hkO
  have HkO := Lib.hid hkO
  have lP := hkP.lt
  have HkP := Lib.hid hkP
  have lQ := hkQ.lt
  have HkQ := Lib.hid hkQ
  clear hkO hkP hkQ
  go_wp2_with fail
  refine (small_any n u1 u2 u3 _).mono ?_
  rw [← Ha1.out, ← Ha2.out, ← Ha3.out]
  rintro e w2 ⟨rfl, hb2⟩
  have hkP := Blk.step (HkP.out) hb2
  have hkQ := Blk.step (HkQ.out) hb2
  have hc2 := bel_step (w := w) (by go_grown) hb2
  clear hb2 hc1 hz1 HkO HkP HkQ lO lP lQ cO0 cO1 cO2 cO3 fO0 fO1 fO2 fO3
  have hz2 := hc2.size
  have lP := hkP.lt
  obtain ⟨cP0, cP1, cP2, cP3, fP0, fP1, fP2, fP3⟩ := cells4 hkP
  have HkP := Lib.hid hkP
  have lQ := hkQ.lt
  have HkQ := Lib.hid hkQ
  clear hkP hkQ
  go_wp2_with fail
  refine (small_any n' v1 v2 v3 _).mono ?_
  rw [← Hb1.out, ← Hb2.out, ← Hb3.out]
  rintro e w3 ⟨rfl, hb3⟩
  have hkQ := Blk.step ((HkQ.out).alloc _) hb3
  have hkA := Blk.step (Blk.new w2 _ _) hb3
  have hc3 := bel_step (w := w) (by go_grown) hb3
  clear hb3 hc2 hz2 HkP HkQ lP lQ cP0 cP1 cP2 cP3 fP0 fP1 fP2 fP3
  have hz3 := hc3.size
  have lQ := hkQ.lt
  obtain ⟨cQ0, cQ1, fQ0, fQ1⟩ := cells2 hkQ
  have HkQ := Lib.hid hkQ
  have lA := hkA.lt
  have HkA := Lib.hid hkA
  clear hkQ hkA
  go_wp2_with fail
  refine (short15_any i0 _).mono ?_
  rw [← Hx.out]
  rintro e wx ⟨rfl, rfl⟩
  go_wp2_with fail
  refine (short15_any i1 _).mono ?_
  rw [← Hy.out]
  rintro e wx ⟨rfl, rfl⟩
  obtain ⟨cA0, cA1, cA2, cA3, fA0, fA1, fA2, fA3⟩ := cells4 HkA.out
  go_wp2_with fail
  refine (ack_any n a1 a2 a3 x y n' b1 b2 b3 c0 c1 c2 c3 e1 _ Hc.out fa1 fa2 fa3 fx fy fb1 fb2 fb3).mono ?_
  rintro e w4 ⟨rfl, hb4⟩
  have hkA := Blk.step ((HkA.out).alloc _) hb4
  have hkB := Blk.step (Blk.new w3 _ _) hb4
  have hc4 := bel_step (w := w) (by go_grown) hb4
  clear hb4 hc3 hz3 HkA HkQ lA lQ cQ0 cQ1 fQ0 fQ1 cA0 cA1 cA2 cA3 fA0 fA1 fA2 fA3
  have hz4 := hc4.size
  have lA := hkA.lt
  obtain ⟨cA0, cA1, cA2, cA3, fA0, fA1, fA2, fA3⟩ := cells4 hkA
  have HkA := Lib.hid hkA
  have lB := hkB.lt
  obtain ⟨cB0, cB1, cB2, cB3, fB0, fB1, fB2, fB3⟩ := cells4 hkB
  have HkB := Lib.hid hkB
  clear hkA hkB
  go_wp2_with fail
  refine (confirm_any n a1 a2 a3 x n' b1 b2 b3 d0 d1 d2 d3 e2 _ Hd.out fa1 fa2 fa3 fb1 fb2 fb3).mono ?_
  rintro e w5 ⟨rfl, hb5⟩
  have hkA := Blk.step ((HkA.out).alloc _) hb5
  have hkB := Blk.step ((HkB.out).alloc _) hb5
  have hkC := Blk.step (Blk.new w4 _ _) hb5
  have hc5 := bel_step (w := w) (by go_grown) hb5
  clear hb5 hc4 hz4 HkA HkB lA lB cA0 cA1 cA2 cA3 fA0 fA1 fA2 fA3 cB0 cB1 cB2 cB3 fB0 fB1 fB2 fB3
  have hz5 := hc5.size
  have lA := hkA.lt
  obtain ⟨cA0, cA1, cA2, cA3, fA0, fA1, fA2, fA3⟩ := cells4 hkA
  have HkA := Lib.hid hkA
  have lB := hkB.lt
  have HkB := Lib.hid hkB
  have lC := hkC.lt
  have HkC := Lib.hid hkC
  clear hkA hkB hkC
  go_wp2_with fail
  refine (close_any n a1 a2 a3 g0 g1 g2 g3 e3 _ Hg.out fa1 fa2 fa3).mono ?_
  rintro e w6 ⟨rfl, hb6⟩
  have hkA := Blk.step ((HkA.out).alloc _) hb6
  have hkB := Blk.step ((HkB.out).alloc _) hb6
  have hkC := Blk.step ((HkC.out).alloc _) hb6
  have hkD := Blk.step (Blk.new w5 _ _) hb6
  have hc6 := bel_step (w := w) (by go_grown) hb6
  clear hb6 hc5 hz5 HkA HkB HkC lA lB lC cA0 cA1 cA2 cA3 fA0 fA1 fA2 fA3
  have hz6 := hc6.size
  have lA := hkA.lt
  obtain ⟨cA0, cA1, cA2, cA3, fA0, fA1, fA2, fA3⟩ := cells4 hkA
  have HkA := Lib.hid hkA
  have lB := hkB.lt
  obtain ⟨cB0, cB1, cB2, cB3, fB0, fB1, fB2, fB3⟩ := cells4 hkB
  have HkB := Lib.hid hkB
  have lC := hkC.lt
  obtain ⟨cC0, cC1, cC2, cC3, fC0, fC1, fC2, fC3⟩ := cells4 hkC
  have HkC := Lib.hid hkC
  have lD := hkD.lt
  obtain ⟨cD0, cD1, cD2, cD3, fD0, fD1, fD2, fD3⟩ := cells4 hkD
  have HkD := Lib.hid hkD
  clear hkA hkB hkC hkD
  rcases HC.out with ⟨r1, r2, r3, r4, r5, r6⟩ | ⟨r1, r2, r3, r4, r5, r6⟩ | ⟨r1, r2, r3, r4, r5, r6⟩ | ⟨r1, r2, r3, r4⟩
  · simp only [Prod.mk.injEq] at r4 r5
    obtain ⟨rfl, rfl, rfl, rfl⟩ := r5
    subst r1 r4
    have R6 := Lib.hid r6
    clear r6 HC
    go_wp2_with fail
    refine (check_any 1 a1 a2 a3 true _ R6.out fa1 fa2 fa3).mono ?_
    rintro e w7 ⟨rfl, hb7⟩
    have hkA := Blk.step ((HkA.out).alloc _) hb7
    have hkB := Blk.step ((HkB.out).alloc _) hb7
    have hkC := Blk.step ((HkC.out).alloc _) hb7
    have hkD := Blk.step ((HkD.out).alloc _) hb7
    have hkG := Blk.step (Blk.new w6 _ _) hb7
    have hc7 := bel_step (w := w) (by go_grown) hb7
    clear hb7 hc6 hz6 HkA HkB HkC HkD lA lB lC lD cA0 cA1 cA2 cA3 fA0 fA1 fA2 fA3 cB0 cB1 cB2 cB3 fB0 fB1 fB2 fB3 cC0 cC1 cC2 cC3 fC0 fC1 fC2 fC3 cD0 cD1 cD2 cD3 fD0 fD1 fD2 fD3
    have hz7 := hc7.size
    have lA := hkA.lt
    obtain ⟨cA0, cA1, cA2, cA3, fA0, fA1, fA2, fA3⟩ := cells4 hkA
    have HkA := Lib.hid hkA
    have lB := hkB.lt
    have HkB := Lib.hid hkB
    have lC := hkC.lt
    have HkC := Lib.hid hkC
    have lD := hkD.lt
    have HkD := Lib.hid hkD
    have lG := hkG.lt
    have HkG := Lib.hid hkG
    clear hkA hkB hkC hkD hkG
    go_wp2
    go_ret
    exact ⟨rfl, by go_grown⟩
  · simp only [Prod.mk.injEq] at r4 r5
    obtain ⟨rfl, rfl, rfl, rfl⟩ := r5
    subst r2 r4
    have R6 := Lib.hid r6
    clear r6 HC
    go_wp2_with fail
    refine (check_any 2 a1 a2 a3 true _ R6.out fa1 fa2 fa3).mono ?_
    rintro e w7 ⟨rfl, hb7⟩
    have hkA := Blk.step ((HkA.out).alloc _) hb7
    have hkB := Blk.step ((HkB.out).alloc _) hb7
    have hkC := Blk.step ((HkC.out).alloc _) hb7
    have hkD := Blk.step ((HkD.out).alloc _) hb7
    have hkG := Blk.step (Blk.new w6 _ _) hb7
    have hc7 := bel_step (w := w) (by go_grown) hb7
    clear hb7 hc6 hz6 HkA HkB HkC HkD lA lB lC lD cA0 cA1 cA2 cA3 fA0 fA1 fA2 fA3 cB0 cB1 cB2 cB3 fB0 fB1 fB2 fB3 cC0 cC1 cC2 cC3 fC0 fC1 fC2 fC3 cD0 cD1 cD2 cD3 fD0 fD1 fD2 fD3
    have hz7 := hc7.size
    have lA := hkA.lt
    obtain ⟨cA0, cA1, cA2, cA3, fA0, fA1, fA2, fA3⟩ := cells4 hkA
    have HkA := Lib.hid hkA
    have lB := hkB.lt
    have HkB := Lib.hid hkB
    have lC := hkC.lt
    have HkC := Lib.hid hkC
    have lD := hkD.lt
    have HkD := Lib.hid hkD
    have lG := hkG.lt
    have HkG := Lib.hid hkG
    clear hkA hkB hkC hkD hkG
    go_wp2
    go_ret
    exact ⟨rfl, by go_grown⟩
  · simp only [Prod.mk.injEq] at r4 r5
    obtain ⟨rfl, rfl, rfl, rfl⟩ := r5
    subst r3 r4
    have R6 := Lib.hid r6
    clear r6 HC
    go_wp2_with fail
    refine (check_any 3 a1 a2 a3 true _ R6.out fa1 fa2 fa3).mono ?_
    rintro e w7 ⟨rfl, hb7⟩
    have hkA := Blk.step ((HkA.out).alloc _) hb7
    have hkB := Blk.step ((HkB.out).alloc _) hb7
    have hkC := Blk.step ((HkC.out).alloc _) hb7
    have hkD := Blk.step ((HkD.out).alloc _) hb7
    have hkG := Blk.step (Blk.new w6 _ _) hb7
    have hc7 := bel_step (w := w) (by go_grown) hb7
    clear hb7 hc6 hz6 HkA HkB HkC HkD lA lB lC lD cA0 cA1 cA2 cA3 fA0 fA1 fA2 fA3 cB0 cB1 cB2 cB3 fB0 fB1 fB2 fB3 cC0 cC1 cC2 cC3 fC0 fC1 fC2 fC3 cD0 cD1 cD2 cD3 fD0 fD1 fD2 fD3
    have hz7 := hc7.size
    have lA := hkA.lt
    obtain ⟨cA0, cA1, cA2, cA3, fA0, fA1, fA2, fA3⟩ := cells4 hkA
    have HkA := Lib.hid hkA
    have lB := hkB.lt
    have HkB := Lib.hid hkB
    have lC := hkC.lt
    have HkC := Lib.hid hkC
    have lD := hkD.lt
    have HkD := Lib.hid hkD
    have lG := hkG.lt
    obtain ⟨cG0, cG1, cG2, cG3, fG0, fG1, fG2, fG3⟩ := cells4 hkG
    have HkG := Lib.hid hkG
    clear hkA hkB hkC hkD hkG
    go_wp2_with fail
    refine (close_any 4 a1 a2 a3 0 [] [] [] 13 _ (by simp [closeR, isE, noEn]) fa1 fa2 fa3).mono ?_
    rintro e w8 ⟨rfl, hb8⟩
    have hkA := Blk.step (HkA.out) hb8
    have hkB := Blk.step (HkB.out) hb8
    have hkC := Blk.step (HkC.out) hb8
    have hkD := Blk.step (HkD.out) hb8
    have hkG := Blk.step (HkG.out) hb8
    have hc8 := bel_step (w := w) (by go_grown) hb8
    clear hb8 hc7 hz7 HkA HkB HkC HkD HkG lA lB lC lD lG cA0 cA1 cA2 cA3 fA0 fA1 fA2 fA3 cG0 cG1 cG2 cG3 fG0 fG1 fG2 fG3
    have hz8 := hc8.size
    have lA := hkA.lt
    obtain ⟨cA0, cA1, cA2, cA3, fA0, fA1, fA2, fA3⟩ := cells4 hkA
    have HkA := Lib.hid hkA
    have lB := hkB.lt
    obtain ⟨cB0, cB1, cB2, cB3, fB0, fB1, fB2, fB3⟩ := cells4 hkB
    have HkB := Lib.hid hkB
    have lC := hkC.lt
    have HkC := Lib.hid hkC
    have lD := hkD.lt
    have HkD := Lib.hid hkD
    have lG := hkG.lt
    obtain ⟨cG0, cG1, cG2, cG3, fG0, fG1, fG2, fG3⟩ := cells4 hkG
    have HkG := Lib.hid hkG
    clear hkA hkB hkC hkD hkG
    go_wp2_with fail
    refine (confirm_any 4 a1 a2 a3 x n' b1 b2 b3 0 [] [] [] 13 _ (by simp [confirmR, opensR, isE, noEn]) fa1 fa2 fa3 fb1 fb2 fb3).mono ?_
    rintro e w9 ⟨rfl, hb9⟩
    have hkA := Blk.step ((HkA.out).alloc _) hb9
    have hkB := Blk.step ((HkB.out).alloc _) hb9
    have hkC := Blk.step ((HkC.out).alloc _) hb9
    have hkD := Blk.step ((HkD.out).alloc _) hb9
    have hkG := Blk.step ((HkG.out).alloc _) hb9
    have hkI := Blk.step (Blk.new w8 _ _) hb9
    have hc9 := bel_step (w := w) (by go_grown) hb9
    clear hb9 hc8 hz8 HkA HkB HkC HkD HkG lA lB lC lD lG cA0 cA1 cA2 cA3 fA0 fA1 fA2 fA3 cB0 cB1 cB2 cB3 fB0 fB1 fB2 fB3 cG0 cG1 cG2 cG3 fG0 fG1 fG2 fG3
    have hz9 := hc9.size
    have lA := hkA.lt
    obtain ⟨cA0, cA1, cA2, cA3, fA0, fA1, fA2, fA3⟩ := cells4 hkA
    have HkA := Lib.hid hkA
    have lB := hkB.lt
    have HkB := Lib.hid hkB
    have lC := hkC.lt
    have HkC := Lib.hid hkC
    have lD := hkD.lt
    have HkD := Lib.hid hkD
    have lG := hkG.lt
    have HkG := Lib.hid hkG
    have lI := hkI.lt
    have HkI := Lib.hid hkI
    clear hkA hkB hkC hkD hkG hkI
    go_wp2_with fail
    refine (check_any 3 a1 a2 a3 true _ R6.out fa1 fa2 fa3).mono ?_
    rintro e w10 ⟨rfl, hb10⟩
    have hkA := Blk.step ((HkA.out).alloc _) hb10
    have hkB := Blk.step ((HkB.out).alloc _) hb10
    have hkC := Blk.step ((HkC.out).alloc _) hb10
    have hkD := Blk.step ((HkD.out).alloc _) hb10
    have hkG := Blk.step ((HkG.out).alloc _) hb10
    have hkI := Blk.step ((HkI.out).alloc _) hb10
    have hc10 := bel_step (w := w) (by go_grown) hb10
    clear hb10 hc9 hz9 HkA HkB HkC HkD HkG HkI lA lB lC lD lG lI cA0 cA1 cA2 cA3 fA0 fA1 fA2 fA3
    have hz10 := hc10.size
    have lA := hkA.lt
    obtain ⟨cA0, cA1, cA2, cA3, fA0, fA1, fA2, fA3⟩ := cells4 hkA
    have HkA := Lib.hid hkA
    have lB := hkB.lt
    have HkB := Lib.hid hkB
    have lC := hkC.lt
    have HkC := Lib.hid hkC
    have lD := hkD.lt
    have HkD := Lib.hid hkD
    have lG := hkG.lt
    have HkG := Lib.hid hkG
    have lI := hkI.lt
    have HkI := Lib.hid hkI
    clear hkA hkB hkC hkD hkG hkI
    go_wp2
    go_ret
    exact ⟨rfl, by go_grown⟩
  · obtain ⟨u, hu⟩ : ∃ u, checkE (n, a1, a2, a3) = u := ⟨_, rfl⟩
    have Hu := Lib.hid hu
    have R4 := Lib.hid r4
    have q1 : (e1 == 0) = false := by simpa using r1
    have q2 : (e2 == 0) = false := by simpa using r2
    have q3 : (e3 == 0) = false := by simpa using r3
    clear r4 HC hu
    go_wp2_with fail
    refine (check_any n a1 a2 a3 u _ Hu.out fa1 fa2 fa3).mono ?_
    rintro e w7 ⟨rfl, hb7⟩
    have hkA := Blk.step ((HkA.out).alloc _) hb7
    have hkB := Blk.step ((HkB.out).alloc _) hb7
    have hkC := Blk.step ((HkC.out).alloc _) hb7
    have hkD := Blk.step ((HkD.out).alloc _) hb7
    have hkG := Blk.step (Blk.new w6 _ _) hb7
    have hc7 := bel_step (w := w) (by go_grown) hb7
    clear hb7 hc6 hz6 HkA HkB HkC HkD lA lB lC lD cA0 cA1 cA2 cA3 fA0 fA1 fA2 fA3 cB0 cB1 cB2 cB3 fB0 fB1 fB2 fB3 cC0 cC1 cC2 cC3 fC0 fC1 fC2 fC3 cD0 cD1 cD2 cD3 fD0 fD1 fD2 fD3
    have hz7 := hc7.size
    have lA := hkA.lt
    obtain ⟨cA0, cA1, cA2, cA3, fA0, fA1, fA2, fA3⟩ := cells4 hkA
    have HkA := Lib.hid hkA
    have lB := hkB.lt
    have HkB := Lib.hid hkB
    have lC := hkC.lt
    have HkC := Lib.hid hkC
    have lD := hkD.lt
    have HkD := Lib.hid hkD
    have lG := hkG.lt
    have HkG := Lib.hid hkG
    clear hkA hkB hkC hkD hkG
    by_cases h3 : n = 3
    · have hf : u = false := by
        rcases R4.out with h | h
        · exact absurd h3 h
        · exact Hu.out.symm.trans h
      subst hf h3
      clear R4
      go_wp2_with fail
      refine (check_any 3 a1 a2 a3 false _ Hu.out fa1 fa2 fa3).mono ?_
      rintro e w8 ⟨rfl, hb8⟩
      have hkA := Blk.step (HkA.out) hb8
      have hkB := Blk.step (HkB.out) hb8
      have hkC := Blk.step (HkC.out) hb8
      have hkD := Blk.step (HkD.out) hb8
      have hkG := Blk.step (HkG.out) hb8
      have hc8 := bel_step (w := w) (by go_grown) hb8
      clear hb8 hc7 hz7 HkA HkB HkC HkD HkG lA lB lC lD lG cA0 cA1 cA2 cA3 fA0 fA1 fA2 fA3
      have hz8 := hc8.size
      have lA := hkA.lt
      obtain ⟨cA0, cA1, cA2, cA3, fA0, fA1, fA2, fA3⟩ := cells4 hkA
      have HkA := Lib.hid hkA
      have lB := hkB.lt
      have HkB := Lib.hid hkB
      have lC := hkC.lt
      have HkC := Lib.hid hkC
      have lD := hkD.lt
      have HkD := Lib.hid hkD
      have lG := hkG.lt
      have HkG := Lib.hid hkG
      clear hkA hkB hkC hkD hkG
      go_wp2
      go_ret
      exact ⟨rfl, by go_grown⟩
    · cases u
      · go_wp2
        go_ret
        exact ⟨rfl, by go_grown⟩
      · go_wp2
        go_ret
        exact ⟨rfl, by go_grown⟩
end Go.Proofs.Ytlkgloakcpfnnaa

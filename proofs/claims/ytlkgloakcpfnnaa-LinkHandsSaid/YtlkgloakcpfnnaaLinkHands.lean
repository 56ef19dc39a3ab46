/-
  The walk of LinkHands: it returns true for any two ends and names. No conditions.
-/
import Derived.Test.YtlkgloakcpfnnaaRefHands
import Derived.Test.YtlkgloakcpfnnaaLinkEnds
import Derived.Deep.RegionHeld3
namespace Go.Proofs.Ytlkgloakcpfnnaa
open Go.RowKit

theorem keep_cells {n c0 d0 k0 m0 t0 : Int} {a1 a2 a3 c1 c2 c3 d1 d2 d3 k1 k2 k3 m1 m2 m3 t1 t2 t3 : List UInt8} {gA gC gCC gD gDD gK gKK gM gMM gT gTT : Nat} {W1 W2 : World} (hb : Below W1.heap.size W1 W2) (hl : gA < W1.heap.size ∧ gC < W1.heap.size ∧ gCC < W1.heap.size ∧ gD < W1.heap.size ∧ gDD < W1.heap.size ∧ gK < W1.heap.size ∧ gKK < W1.heap.size ∧ gM < W1.heap.size ∧ gMM < W1.heap.size ∧ gT < W1.heap.size ∧ gTT < W1.heap.size)
    (h : W1.cell? ⟨gA, 0, none⟩ = some (.int .i64 n) ∧ W1.cell? ⟨gA, 1, none⟩ = some (str a1) ∧ W1.cell? ⟨gA, 2, none⟩ = some (str a2) ∧ W1.cell? ⟨gA, 3, none⟩ = some (str a3) ∧ W1.cell? ⟨gC, 0, none⟩ = some (.int .i64 c0) ∧ W1.cell? ⟨gC, 1, none⟩ = some (str c1) ∧ W1.cell? ⟨gC, 2, none⟩ = some (str c2) ∧ W1.cell? ⟨gC, 3, none⟩ = some (str c3) ∧ W1.cell? ⟨gCC, 0, none⟩ = some (.int .i64 c0) ∧ W1.cell? ⟨gCC, 1, none⟩ = some (str c1) ∧ W1.cell? ⟨gCC, 2, none⟩ = some (str c2) ∧ W1.cell? ⟨gCC, 3, none⟩ = some (str c3) ∧ W1.cell? ⟨gD, 0, none⟩ = some (.int .i64 d0) ∧ W1.cell? ⟨gD, 1, none⟩ = some (str d1) ∧ W1.cell? ⟨gD, 2, none⟩ = some (str d2) ∧ W1.cell? ⟨gD, 3, none⟩ = some (str d3) ∧ W1.cell? ⟨gDD, 0, none⟩ = some (.int .i64 d0) ∧ W1.cell? ⟨gDD, 1, none⟩ = some (str d1) ∧ W1.cell? ⟨gDD, 2, none⟩ = some (str d2) ∧ W1.cell? ⟨gDD, 3, none⟩ = some (str d3) ∧ W1.cell? ⟨gK, 0, none⟩ = some (.int .i64 k0) ∧ W1.cell? ⟨gK, 1, none⟩ = some (str k1) ∧ W1.cell? ⟨gK, 2, none⟩ = some (str k2) ∧ W1.cell? ⟨gK, 3, none⟩ = some (str k3) ∧ W1.cell? ⟨gKK, 0, none⟩ = some (.int .i64 k0) ∧ W1.cell? ⟨gKK, 1, none⟩ = some (str k1) ∧ W1.cell? ⟨gKK, 2, none⟩ = some (str k2) ∧ W1.cell? ⟨gKK, 3, none⟩ = some (str k3) ∧ W1.cell? ⟨gM, 0, none⟩ = some (.int .i64 m0) ∧ W1.cell? ⟨gM, 1, none⟩ = some (str m1) ∧ W1.cell? ⟨gM, 2, none⟩ = some (str m2) ∧ W1.cell? ⟨gM, 3, none⟩ = some (str m3) ∧ W1.cell? ⟨gMM, 0, none⟩ = some (.int .i64 m0) ∧ W1.cell? ⟨gMM, 1, none⟩ = some (str m1) ∧ W1.cell? ⟨gMM, 2, none⟩ = some (str m2) ∧ W1.cell? ⟨gMM, 3, none⟩ = some (str m3) ∧ W1.cell? ⟨gT, 0, none⟩ = some (.int .i64 t0) ∧ W1.cell? ⟨gT, 1, none⟩ = some (str t1) ∧ W1.cell? ⟨gT, 2, none⟩ = some (str t2) ∧ W1.cell? ⟨gT, 3, none⟩ = some (str t3) ∧ W1.cell? ⟨gTT, 0, none⟩ = some (.int .i64 t0) ∧ W1.cell? ⟨gTT, 1, none⟩ = some (str t1) ∧ W1.cell? ⟨gTT, 2, none⟩ = some (str t2) ∧ W1.cell? ⟨gTT, 3, none⟩ = some (str t3)) :
    W2.cell? ⟨gA, 0, none⟩ = some (.int .i64 n) ∧ W2.cell? ⟨gA, 1, none⟩ = some (str a1) ∧ W2.cell? ⟨gA, 2, none⟩ = some (str a2) ∧ W2.cell? ⟨gA, 3, none⟩ = some (str a3) ∧ W2.cell? ⟨gC, 0, none⟩ = some (.int .i64 c0) ∧ W2.cell? ⟨gC, 1, none⟩ = some (str c1) ∧ W2.cell? ⟨gC, 2, none⟩ = some (str c2) ∧ W2.cell? ⟨gC, 3, none⟩ = some (str c3) ∧ W2.cell? ⟨gCC, 0, none⟩ = some (.int .i64 c0) ∧ W2.cell? ⟨gCC, 1, none⟩ = some (str c1) ∧ W2.cell? ⟨gCC, 2, none⟩ = some (str c2) ∧ W2.cell? ⟨gCC, 3, none⟩ = some (str c3) ∧ W2.cell? ⟨gD, 0, none⟩ = some (.int .i64 d0) ∧ W2.cell? ⟨gD, 1, none⟩ = some (str d1) ∧ W2.cell? ⟨gD, 2, none⟩ = some (str d2) ∧ W2.cell? ⟨gD, 3, none⟩ = some (str d3) ∧ W2.cell? ⟨gDD, 0, none⟩ = some (.int .i64 d0) ∧ W2.cell? ⟨gDD, 1, none⟩ = some (str d1) ∧ W2.cell? ⟨gDD, 2, none⟩ = some (str d2) ∧ W2.cell? ⟨gDD, 3, none⟩ = some (str d3) ∧ W2.cell? ⟨gK, 0, none⟩ = some (.int .i64 k0) ∧ W2.cell? ⟨gK, 1, none⟩ = some (str k1) ∧ W2.cell? ⟨gK, 2, none⟩ = some (str k2) ∧ W2.cell? ⟨gK, 3, none⟩ = some (str k3) ∧ W2.cell? ⟨gKK, 0, none⟩ = some (.int .i64 k0) ∧ W2.cell? ⟨gKK, 1, none⟩ = some (str k1) ∧ W2.cell? ⟨gKK, 2, none⟩ = some (str k2) ∧ W2.cell? ⟨gKK, 3, none⟩ = some (str k3) ∧ W2.cell? ⟨gM, 0, none⟩ = some (.int .i64 m0) ∧ W2.cell? ⟨gM, 1, none⟩ = some (str m1) ∧ W2.cell? ⟨gM, 2, none⟩ = some (str m2) ∧ W2.cell? ⟨gM, 3, none⟩ = some (str m3) ∧ W2.cell? ⟨gMM, 0, none⟩ = some (.int .i64 m0) ∧ W2.cell? ⟨gMM, 1, none⟩ = some (str m1) ∧ W2.cell? ⟨gMM, 2, none⟩ = some (str m2) ∧ W2.cell? ⟨gMM, 3, none⟩ = some (str m3) ∧ W2.cell? ⟨gT, 0, none⟩ = some (.int .i64 t0) ∧ W2.cell? ⟨gT, 1, none⟩ = some (str t1) ∧ W2.cell? ⟨gT, 2, none⟩ = some (str t2) ∧ W2.cell? ⟨gT, 3, none⟩ = some (str t3) ∧ W2.cell? ⟨gTT, 0, none⟩ = some (.int .i64 t0) ∧ W2.cell? ⟨gTT, 1, none⟩ = some (str t1) ∧ W2.cell? ⟨gTT, 2, none⟩ = some (str t2) ∧ W2.cell? ⟨gTT, 3, none⟩ = some (str t3) := by
  obtain ⟨lA, lC, lCC, lD, lDD, lK, lKK, lM, lMM, lT, lTT⟩ := hl
  obtain ⟨hA0, hA1, hA2, hA3, hC0, hC1, hC2, hC3, hCC0, hCC1, hCC2, hCC3, hD0, hD1, hD2, hD3, hDD0, hDD1, hDD2, hDD3, hK0, hK1, hK2, hK3, hKK0, hKK1, hKK2, hKK3, hM0, hM1, hM2, hM3, hMM0, hMM1, hMM2, hMM3, hT0, hT1, hT2, hT3, hTT0, hTT1, hTT2, hTT3⟩ := h
  exact ⟨(hb.cell (p := ⟨gA, 0, none⟩) lA).trans hA0, (hb.cell (p := ⟨gA, 1, none⟩) lA).trans hA1, (hb.cell (p := ⟨gA, 2, none⟩) lA).trans hA2, (hb.cell (p := ⟨gA, 3, none⟩) lA).trans hA3, (hb.cell (p := ⟨gC, 0, none⟩) lC).trans hC0, (hb.cell (p := ⟨gC, 1, none⟩) lC).trans hC1, (hb.cell (p := ⟨gC, 2, none⟩) lC).trans hC2, (hb.cell (p := ⟨gC, 3, none⟩) lC).trans hC3, (hb.cell (p := ⟨gCC, 0, none⟩) lCC).trans hCC0, (hb.cell (p := ⟨gCC, 1, none⟩) lCC).trans hCC1, (hb.cell (p := ⟨gCC, 2, none⟩) lCC).trans hCC2, (hb.cell (p := ⟨gCC, 3, none⟩) lCC).trans hCC3, (hb.cell (p := ⟨gD, 0, none⟩) lD).trans hD0, (hb.cell (p := ⟨gD, 1, none⟩) lD).trans hD1, (hb.cell (p := ⟨gD, 2, none⟩) lD).trans hD2, (hb.cell (p := ⟨gD, 3, none⟩) lD).trans hD3, (hb.cell (p := ⟨gDD, 0, none⟩) lDD).trans hDD0, (hb.cell (p := ⟨gDD, 1, none⟩) lDD).trans hDD1, (hb.cell (p := ⟨gDD, 2, none⟩) lDD).trans hDD2, (hb.cell (p := ⟨gDD, 3, none⟩) lDD).trans hDD3, (hb.cell (p := ⟨gK, 0, none⟩) lK).trans hK0, (hb.cell (p := ⟨gK, 1, none⟩) lK).trans hK1, (hb.cell (p := ⟨gK, 2, none⟩) lK).trans hK2, (hb.cell (p := ⟨gK, 3, none⟩) lK).trans hK3, (hb.cell (p := ⟨gKK, 0, none⟩) lKK).trans hKK0, (hb.cell (p := ⟨gKK, 1, none⟩) lKK).trans hKK1, (hb.cell (p := ⟨gKK, 2, none⟩) lKK).trans hKK2, (hb.cell (p := ⟨gKK, 3, none⟩) lKK).trans hKK3, (hb.cell (p := ⟨gM, 0, none⟩) lM).trans hM0, (hb.cell (p := ⟨gM, 1, none⟩) lM).trans hM1, (hb.cell (p := ⟨gM, 2, none⟩) lM).trans hM2, (hb.cell (p := ⟨gM, 3, none⟩) lM).trans hM3, (hb.cell (p := ⟨gMM, 0, none⟩) lMM).trans hMM0, (hb.cell (p := ⟨gMM, 1, none⟩) lMM).trans hMM1, (hb.cell (p := ⟨gMM, 2, none⟩) lMM).trans hMM2, (hb.cell (p := ⟨gMM, 3, none⟩) lMM).trans hMM3, (hb.cell (p := ⟨gT, 0, none⟩) lT).trans hT0, (hb.cell (p := ⟨gT, 1, none⟩) lT).trans hT1, (hb.cell (p := ⟨gT, 2, none⟩) lT).trans hT2, (hb.cell (p := ⟨gT, 3, none⟩) lT).trans hT3, (hb.cell (p := ⟨gTT, 0, none⟩) lTT).trans hTT0, (hb.cell (p := ⟨gTT, 1, none⟩) lTT).trans hTT1, (hb.cell (p := ⟨gTT, 2, none⟩) lTT).trans hTT2, (hb.cell (p := ⟨gTT, 3, none⟩) lTT).trans hTT3⟩

theorem lt_step {W1 W2 : World} {gA gC gCC gD gDD gK gKK gM gMM gT gTT : Nat} (h : Hid (gA < W1.heap.size ∧ gC < W1.heap.size ∧ gCC < W1.heap.size ∧ gD < W1.heap.size ∧ gDD < W1.heap.size ∧ gK < W1.heap.size ∧ gKK < W1.heap.size ∧ gM < W1.heap.size ∧ gMM < W1.heap.size ∧ gT < W1.heap.size ∧ gTT < W1.heap.size)) (hb : W1.heap.size ≤ W2.heap.size) : Hid (gA < W2.heap.size ∧ gC < W2.heap.size ∧ gCC < W2.heap.size ∧ gD < W2.heap.size ∧ gDD < W2.heap.size ∧ gK < W2.heap.size ∧ gKK < W2.heap.size ∧ gM < W2.heap.size ∧ gMM < W2.heap.size ∧ gT < W2.heap.size ∧ gTT < W2.heap.size) := by
  have h := h.out
  exact Lib.hid (by omega)

set_option maxRecDepth 100000 in
set_option maxHeartbeats 1600000 in
theorem linkHands_walk (n : Int) (u1 u2 u3 : List UInt8) (n' : Int) (v1 v2 v3 i0 i1 : List UInt8) (w : World) :
    Calls Try.prog 5 #[.agg #[.int .i64 n, str u1, str u2, str u3], .agg #[.int .i64 n', str v1, str v2, str v3], .agg #[str i0, str i1]] w fun e w' => e = .returned (.bool true) ∧ Below w.heap.size w w' := by
  obtain ⟨a1, ha1⟩ : ∃ z, z = cut40 u1 := ⟨_, rfl⟩
  have fa1 : Fits a1 := ha1 ▸ cut40_fits _
  have Ha1 := Lib.hid ha1
  clear ha1
  obtain ⟨a2, ha2⟩ : ∃ z, z = cut40 u2 := ⟨_, rfl⟩
  have fa2 : Fits a2 := ha2 ▸ cut40_fits _
  have Ha2 := Lib.hid ha2
  clear ha2
  obtain ⟨a3, ha3⟩ : ∃ z, z = cut40 u3 := ⟨_, rfl⟩
  have fa3 : Fits a3 := ha3 ▸ cut40_fits _
  have Ha3 := Lib.hid ha3
  clear ha3
  obtain ⟨b1, hb1⟩ : ∃ z, z = cut40 v1 := ⟨_, rfl⟩
  have fb1 : Fits b1 := hb1 ▸ cut40_fits _
  have Hb1 := Lib.hid hb1
  clear hb1
  obtain ⟨b2, hb2⟩ : ∃ z, z = cut40 v2 := ⟨_, rfl⟩
  have fb2 : Fits b2 := hb2 ▸ cut40_fits _
  have Hb2 := Lib.hid hb2
  clear hb2
  obtain ⟨b3, hb3⟩ : ∃ z, z = cut40 v3 := ⟨_, rfl⟩
  have fb3 : Fits b3 := hb3 ▸ cut40_fits _
  have Hb3 := Lib.hid hb3
  clear hb3
  obtain ⟨x, hx⟩ : ∃ z, z = cut40 i0 := ⟨_, rfl⟩
  have fx : Fits x := hx ▸ cut40_fits _
  have Hx := Lib.hid hx
  clear hx
  obtain ⟨y, hy⟩ : ∃ z, z = cut40 i1 := ⟨_, rfl⟩
  have fy : Fits y := hy ▸ cut40_fits _
  have Hy := Lib.hid hy
  clear hy
  obtain ⟨⟨⟨c0, c1, c2, c3⟩, e1⟩, hc⟩ : ∃ r, initR x y = r := ⟨_, rfl⟩
  have Hc := Lib.hid hc
  clear hc
  obtain ⟨⟨⟨d0, d1, d2, d3⟩, e2⟩, hd⟩ : ∃ r, tryR x y (n', b1, b2, b3) = r := ⟨_, rfl⟩
  have Hd := Lib.hid hd
  clear hd
  obtain ⟨⟨⟨k0, k1, k2, k3⟩, e3⟩, hk⟩ : ∃ r, ackR (n, a1, a2, a3) x y (n', b1, b2, b3) = r := ⟨_, rfl⟩
  have Hk := Lib.hid hk
  clear hk
  obtain ⟨⟨⟨m0, m1, m2, m3⟩, e4⟩, hm⟩ : ∃ r, confirmR (n, a1, a2, a3) x (n', b1, b2, b3) = r := ⟨_, rfl⟩
  have Hm := Lib.hid hm
  clear hm
  obtain ⟨⟨⟨t0, t1, t2, t3⟩, e5⟩, ht⟩ : ∃ r, closeR (n, a1, a2, a3) = r := ⟨_, rfl⟩
  have Ht := Lib.hid ht
  clear ht
  obtain ⟨q, hq⟩ : ∃ q, checkE (n, a1, a2, a3) = q := ⟨_, rfl⟩
  have Hq := Lib.hid hq
  clear hq
  go_enter Try.func5, Try.ntmps5
  go_wp2_with fail
  refine (awake15_any _).mono ?_
  rintro e w1 ⟨rfl, hb1⟩
  have hkO := Blk.step (((Blk.new w _ _).alloc _).alloc _) hb1
  have hkP := Blk.step ((Blk.new_at (n := w.heap.size + 1) (by simp) _ _).alloc _) hb1
  have hkQ := Blk.step (Blk.new_at (n := w.heap.size + 2) (by simp) _ _) hb1
  have hc1 := bel_step (w := w) (by go_grown) hb1
  clear hb1
  have hz1 := hc1.size
  have lO := hkO.lt
  obtain ⟨cO0, cO1, cO2, cO3, fO0, fO1, fO2, fO3⟩ := cells4 hkO
  have HkO := Lib.hid hkO
  have lP := hkP.lt
  have HkP := Lib.hid hkP
  have lQ := hkQ.lt
  have HkQ := Lib.hid hkQ
  clear hkO hkP hkQ
  go_wp2_with fail
  refine (small_any n u1 u2 u3 _).mono ?_
  rw [← Ha1.out, ← Ha2.out, ← Ha3.out]
  rintro e w2 ⟨rfl, hb2⟩
  have hkP := Blk.step (HkP.out) hb2
  have hkQ := Blk.step (HkQ.out) hb2
  have hc2 := bel_step (w := w) (by go_grown) hb2
  clear hb2 hc1 hz1 HkO HkP HkQ lO lP lQ cO0 cO1 cO2 cO3 fO0 fO1 fO2 fO3
  have hz2 := hc2.size
  have lP := hkP.lt
  obtain ⟨cP0, cP1, cP2, cP3, fP0, fP1, fP2, fP3⟩ := cells4 hkP
  have HkP := Lib.hid hkP
  have lQ := hkQ.lt
  have HkQ := Lib.hid hkQ
  clear hkP hkQ
  go_wp2_with fail
  refine (small_any n' v1 v2 v3 _).mono ?_
  rw [← Hb1.out, ← Hb2.out, ← Hb3.out]
  rintro e w3 ⟨rfl, hb3⟩
  have hkQ := Blk.step ((HkQ.out).alloc _) hb3
  have hkA := Blk.step (Blk.new w2 _ _) hb3
  have hc3 := bel_step (w := w) (by go_grown) hb3
  clear hb3 hc2 hz2 HkP HkQ lP lQ cP0 cP1 cP2 cP3 fP0 fP1 fP2 fP3
  have hz3 := hc3.size
  have lQ := hkQ.lt
  obtain ⟨cQ0, cQ1, fQ0, fQ1⟩ := cells2 hkQ
  have HkQ := Lib.hid hkQ
  have lA := hkA.lt
  have HkA := Lib.hid hkA
  clear hkQ hkA
  go_wp2_with fail
  refine (short15_any i0 _).mono ?_
  rw [← Hx.out]
  rintro e wx ⟨rfl, rfl⟩
  go_wp2_with fail
  refine (short15_any i1 _).mono ?_
  rw [← Hy.out]
  rintro e wx ⟨rfl, rfl⟩
  go_wp2_with fail
  refine (init_any x y c0 c1 c2 c3 e1 _ Hc.out fx fy).mono ?_
  rintro e w4 ⟨rfl, hb4⟩
  have hkA := Blk.step ((HkA.out).alloc _) hb4
  have hkB := Blk.step (Blk.new w3 _ _) hb4
  have hc4 := bel_step (w := w) (by go_grown) hb4
  clear hb4 hc3 hz3 HkA HkQ lA lQ cQ0 cQ1 fQ0 fQ1
  have hz4 := hc4.size
  have lA := hkA.lt
  have HkA := Lib.hid hkA
  have lB := hkB.lt
  have HkB := Lib.hid hkB
  clear hkA hkB
  go_wp2_with fail
  refine (refInit_any x y c0 c1 c2 c3 e1 _ Hc.out fx fy).mono ?_
  rintro e w5 ⟨rfl, hb5⟩
  have hkA := Blk.step ((HkA.out).alloc _) hb5
  have hkB := Blk.step ((HkB.out).alloc _) hb5
  have hkC := Blk.step (Blk.new w4 _ _) hb5
  have hc5 := bel_step (w := w) (by go_grown) hb5
  clear hb5 hc4 hz4 HkA HkB lA lB
  have hz5 := hc5.size
  have lA := hkA.lt
  have HkA := Lib.hid hkA
  have lB := hkB.lt
  obtain ⟨cB0, cB1, cB2, cB3, fB0, fB1, fB2, fB3⟩ := cells4 hkB
  have HkB := Lib.hid hkB
  have lC := hkC.lt
  have HkC := Lib.hid hkC
  clear hkA hkB hkC
  go_wp2_with fail
  refine (try_any x y n' b1 b2 b3 d0 d1 d2 d3 e2 _ Hd.out fx fy fb1 fb2 fb3).mono ?_
  rintro e w6 ⟨rfl, hb6⟩
  have hkA := Blk.step ((HkA.out).alloc _) hb6
  have hkB := Blk.step ((HkB.out).alloc _) hb6
  have hkC := Blk.step ((HkC.out).alloc _) hb6
  have hkCC := Blk.step (Blk.new w5 _ _) hb6
  have hc6 := bel_step (w := w) (by go_grown) hb6
  clear hb6 hc5 hz5 HkA HkB HkC lA lB lC cB0 cB1 cB2 cB3 fB0 fB1 fB2 fB3
  have hz6 := hc6.size
  have lA := hkA.lt
  have HkA := Lib.hid hkA
  have lB := hkB.lt
  obtain ⟨cB0, cB1, cB2, cB3, fB0, fB1, fB2, fB3⟩ := cells4 hkB
  have HkB := Lib.hid hkB
  have lC := hkC.lt
  have HkC := Lib.hid hkC
  have lCC := hkCC.lt
  have HkCC := Lib.hid hkCC
  clear hkA hkB hkC hkCC
  go_wp2_with fail
  refine (refTry_any x y n' b1 b2 b3 d0 d1 d2 d3 e2 _ Hd.out fx fy fb1 fb2 fb3).mono ?_
  rintro e w7 ⟨rfl, hb7⟩
  have hkA := Blk.step ((HkA.out).alloc _) hb7
  have hkB := Blk.step ((HkB.out).alloc _) hb7
  have hkC := Blk.step ((HkC.out).alloc _) hb7
  have hkCC := Blk.step ((HkCC.out).alloc _) hb7
  have hkD := Blk.step (Blk.new w6 _ _) hb7
  have hc7 := bel_step (w := w) (by go_grown) hb7
  clear hb7 hc6 hz6 HkA HkB HkC HkCC lA lB lC lCC cB0 cB1 cB2 cB3 fB0 fB1 fB2 fB3
  have hz7 := hc7.size
  have lA := hkA.lt
  obtain ⟨cA0, cA1, cA2, cA3, fA0, fA1, fA2, fA3⟩ := cells4 hkA
  have HkA := Lib.hid hkA
  have lB := hkB.lt
  obtain ⟨cB0, cB1, cB2, cB3, fB0, fB1, fB2, fB3⟩ := cells4 hkB
  have HkB := Lib.hid hkB
  have lC := hkC.lt
  have HkC := Lib.hid hkC
  have lCC := hkCC.lt
  have HkCC := Lib.hid hkCC
  have lD := hkD.lt
  have HkD := Lib.hid hkD
  clear hkA hkB hkC hkCC hkD
  go_wp2_with fail
  refine (ack_any n a1 a2 a3 x y n' b1 b2 b3 k0 k1 k2 k3 e3 _ Hk.out fa1 fa2 fa3 fx fy fb1 fb2 fb3).mono ?_
  rintro e w8 ⟨rfl, hb8⟩
  have hkA := Blk.step ((HkA.out).alloc _) hb8
  have hkB := Blk.step ((HkB.out).alloc _) hb8
  have hkC := Blk.step ((HkC.out).alloc _) hb8
  have hkCC := Blk.step ((HkCC.out).alloc _) hb8
  have hkD := Blk.step ((HkD.out).alloc _) hb8
  have hkDD := Blk.step (Blk.new w7 _ _) hb8
  have hc8 := bel_step (w := w) (by go_grown) hb8
  clear hb8 hc7 hz7 HkA HkB HkC HkCC HkD lA lB lC lCC lD cA0 cA1 cA2 cA3 fA0 fA1 fA2 fA3 cB0 cB1 cB2 cB3 fB0 fB1 fB2 fB3
  have hz8 := hc8.size
  have lA := hkA.lt
  obtain ⟨cA0, cA1, cA2, cA3, fA0, fA1, fA2, fA3⟩ := cells4 hkA
  have HkA := Lib.hid hkA
  have lB := hkB.lt
  obtain ⟨cB0, cB1, cB2, cB3, fB0, fB1, fB2, fB3⟩ := cells4 hkB
  have HkB := Lib.hid hkB
  have lC := hkC.lt
  have HkC := Lib.hid hkC
  have lCC := hkCC.lt
  have HkCC := Lib.hid hkCC
  have lD := hkD.lt
  have HkD := Lib.hid hkD
  have lDD := hkDD.lt
  have HkDD := Lib.hid hkDD
  clear hkA hkB hkC hkCC hkD hkDD
  go_wp2_with fail
  refine (refAck_any n a1 a2 a3 x y n' b1 b2 b3 k0 k1 k2 k3 e3 _ Hk.out fa1 fa2 fa3 fb1 fb2 fb3 fx fy).mono ?_
  rintro e w9 ⟨rfl, hb9⟩
  have hkA := Blk.step ((HkA.out).alloc _) hb9
  have hkB := Blk.step ((HkB.out).alloc _) hb9
  have hkC := Blk.step ((HkC.out).alloc _) hb9
  have hkCC := Blk.step ((HkCC.out).alloc _) hb9
  have hkD := Blk.step ((HkD.out).alloc _) hb9
  have hkDD := Blk.step ((HkDD.out).alloc _) hb9
  have hkK := Blk.step (Blk.new w8 _ _) hb9
  have hc9 := bel_step (w := w) (by go_grown) hb9
  clear hb9 hc8 hz8 HkA HkB HkC HkCC HkD HkDD lA lB lC lCC lD lDD cA0 cA1 cA2 cA3 fA0 fA1 fA2 fA3 cB0 cB1 cB2 cB3 fB0 fB1 fB2 fB3
  have hz9 := hc9.size
  have lA := hkA.lt
  obtain ⟨cA0, cA1, cA2, cA3, fA0, fA1, fA2, fA3⟩ := cells4 hkA
  have HkA := Lib.hid hkA
  have lB := hkB.lt
  obtain ⟨cB0, cB1, cB2, cB3, fB0, fB1, fB2, fB3⟩ := cells4 hkB
  have HkB := Lib.hid hkB
  have lC := hkC.lt
  have HkC := Lib.hid hkC
  have lCC := hkCC.lt
  have HkCC := Lib.hid hkCC
  have lD := hkD.lt
  have HkD := Lib.hid hkD
  have lDD := hkDD.lt
  have HkDD := Lib.hid hkDD
  have lK := hkK.lt
  have HkK := Lib.hid hkK
  clear hkA hkB hkC hkCC hkD hkDD hkK
  go_wp2_with fail
  refine (confirm_any n a1 a2 a3 x n' b1 b2 b3 m0 m1 m2 m3 e4 _ Hm.out fa1 fa2 fa3 fb1 fb2 fb3).mono ?_
  rintro e w10 ⟨rfl, hb10⟩
  have hkA := Blk.step ((HkA.out).alloc _) hb10
  have hkB := Blk.step ((HkB.out).alloc _) hb10
  have hkC := Blk.step ((HkC.out).alloc _) hb10
  have hkCC := Blk.step ((HkCC.out).alloc _) hb10
  have hkD := Blk.step ((HkD.out).alloc _) hb10
  have hkDD := Blk.step ((HkDD.out).alloc _) hb10
  have hkK := Blk.step ((HkK.out).alloc _) hb10
  have hkKK := Blk.step (Blk.new w9 _ _) hb10
  have hc10 := bel_step (w := w) (by go_grown) hb10
  clear hb10 hc9 hz9 HkA HkB HkC HkCC HkD HkDD HkK lA lB lC lCC lD lDD lK cA0 cA1 cA2 cA3 fA0 fA1 fA2 fA3 cB0 cB1 cB2 cB3 fB0 fB1 fB2 fB3
  have hz10 := hc10.size
  have lA := hkA.lt
  obtain ⟨cA0, cA1, cA2, cA3, fA0, fA1, fA2, fA3⟩ := cells4 hkA
  have HkA := Lib.hid hkA
  have lB := hkB.lt
  obtain ⟨cB0, cB1, cB2, cB3, fB0, fB1, fB2, fB3⟩ := cells4 hkB
  have HkB := Lib.hid hkB
  have lC := hkC.lt
  have HkC := Lib.hid hkC
  have lCC := hkCC.lt
  have HkCC := Lib.hid hkCC
  have lD := hkD.lt
  have HkD := Lib.hid hkD
  have lDD := hkDD.lt
  have HkDD := Lib.hid hkDD
  have lK := hkK.lt
  have HkK := Lib.hid hkK
  have lKK := hkKK.lt
  have HkKK := Lib.hid hkKK
  clear hkA hkB hkC hkCC hkD hkDD hkK hkKK
  go_wp2_with fail
  refine (refConfirm_any n a1 a2 a3 x n' b1 b2 b3 m0 m1 m2 m3 e4 _ Hm.out fa1 fa2 fa3 fb1 fb2 fb3).mono ?_
  rintro e w11 ⟨rfl, hb11⟩
  have hkA := Blk.step ((HkA.out).alloc _) hb11
  have hkB := Blk.step ((HkB.out).alloc _) hb11
  have hkC := Blk.step ((HkC.out).alloc _) hb11
  have hkCC := Blk.step ((HkCC.out).alloc _) hb11
  have hkD := Blk.step ((HkD.out).alloc _) hb11
  have hkDD := Blk.step ((HkDD.out).alloc _) hb11
  have hkK := Blk.step ((HkK.out).alloc _) hb11
  have hkKK := Blk.step ((HkKK.out).alloc _) hb11
  have hkM := Blk.step (Blk.new w10 _ _) hb11
  have hc11 := bel_step (w := w) (by go_grown) hb11
  clear hb11 hc10 hz10 HkA HkB HkC HkCC HkD HkDD HkK HkKK lA lB lC lCC lD lDD lK lKK cA0 cA1 cA2 cA3 fA0 fA1 fA2 fA3 cB0 cB1 cB2 cB3 fB0 fB1 fB2 fB3
  have hz11 := hc11.size
  have lA := hkA.lt
  obtain ⟨cA0, cA1, cA2, cA3, fA0, fA1, fA2, fA3⟩ := cells4 hkA
  have HkA := Lib.hid hkA
  have lB := hkB.lt
  have HkB := Lib.hid hkB
  have lC := hkC.lt
  have HkC := Lib.hid hkC
  have lCC := hkCC.lt
  have HkCC := Lib.hid hkCC
  have lD := hkD.lt
  have HkD := Lib.hid hkD
  have lDD := hkDD.lt
  have HkDD := Lib.hid hkDD
  have lK := hkK.lt
  have HkK := Lib.hid hkK
  have lKK := hkKK.lt
  have HkKK := Lib.hid hkKK
  have lM := hkM.lt
  have HkM := Lib.hid hkM
  clear hkA hkB hkC hkCC hkD hkDD hkK hkKK hkM
  go_wp2_with fail
  refine (close_any n a1 a2 a3 t0 t1 t2 t3 e5 _ Ht.out fa1 fa2 fa3).mono ?_
  rintro e w12 ⟨rfl, hb12⟩
  have hkA := Blk.step ((HkA.out).alloc _) hb12
  have hkC := Blk.step ((HkC.out).alloc _) hb12
  have hkCC := Blk.step ((HkCC.out).alloc _) hb12
  have hkD := Blk.step ((HkD.out).alloc _) hb12
  have hkDD := Blk.step ((HkDD.out).alloc _) hb12
  have hkK := Blk.step ((HkK.out).alloc _) hb12
  have hkKK := Blk.step ((HkKK.out).alloc _) hb12
  have hkM := Blk.step ((HkM.out).alloc _) hb12
  have hkMM := Blk.step (Blk.new w11 _ _) hb12
  have hc12 := bel_step (w := w) (by go_grown) hb12
  clear hb12 hc11 hz11 HkA HkB HkC HkCC HkD HkDD HkK HkKK HkM lA lB lC lCC lD lDD lK lKK lM cA0 cA1 cA2 cA3 fA0 fA1 fA2 fA3
  have hz12 := hc12.size
  have lA := hkA.lt
  obtain ⟨cA0, cA1, cA2, cA3, fA0, fA1, fA2, fA3⟩ := cells4 hkA
  have HkA := Lib.hid hkA
  have lC := hkC.lt
  have HkC := Lib.hid hkC
  have lCC := hkCC.lt
  have HkCC := Lib.hid hkCC
  have lD := hkD.lt
  have HkD := Lib.hid hkD
  have lDD := hkDD.lt
  have HkDD := Lib.hid hkDD
  have lK := hkK.lt
  have HkK := Lib.hid hkK
  have lKK := hkKK.lt
  have HkKK := Lib.hid hkKK
  have lM := hkM.lt
  have HkM := Lib.hid hkM
  have lMM := hkMM.lt
  have HkMM := Lib.hid hkMM
  clear hkA hkC hkCC hkD hkDD hkK hkKK hkM hkMM
  go_wp2_with fail
  refine (refClose_any n a1 a2 a3 t0 t1 t2 t3 e5 _ Ht.out fa1 fa2 fa3).mono ?_
  rintro e w13 ⟨rfl, hb13⟩
  have hkA := Blk.step ((HkA.out).alloc _) hb13
  have hkC := Blk.step ((HkC.out).alloc _) hb13
  have hkCC := Blk.step ((HkCC.out).alloc _) hb13
  have hkD := Blk.step ((HkD.out).alloc _) hb13
  have hkDD := Blk.step ((HkDD.out).alloc _) hb13
  have hkK := Blk.step ((HkK.out).alloc _) hb13
  have hkKK := Blk.step ((HkKK.out).alloc _) hb13
  have hkM := Blk.step ((HkM.out).alloc _) hb13
  have hkMM := Blk.step ((HkMM.out).alloc _) hb13
  have hkT := Blk.step (Blk.new w12 _ _) hb13
  have hc13 := bel_step (w := w) (by go_grown) hb13
  clear hb13 hc12 hz12 HkA HkC HkCC HkD HkDD HkK HkKK HkM HkMM lA lC lCC lD lDD lK lKK lM lMM cA0 cA1 cA2 cA3 fA0 fA1 fA2 fA3
  have hz13 := hc13.size
  have lA := hkA.lt
  obtain ⟨cA0, cA1, cA2, cA3, fA0, fA1, fA2, fA3⟩ := cells4 hkA
  have HkA := Lib.hid hkA
  have lC := hkC.lt
  obtain ⟨cC0, cC1, cC2, cC3, fC0, fC1, fC2, fC3⟩ := cells4 hkC
  have HkC := Lib.hid hkC
  have lCC := hkCC.lt
  obtain ⟨cCC0, cCC1, cCC2, cCC3, fCC0, fCC1, fCC2, fCC3⟩ := cells4 hkCC
  have HkCC := Lib.hid hkCC
  have lD := hkD.lt
  obtain ⟨cD0, cD1, cD2, cD3, fD0, fD1, fD2, fD3⟩ := cells4 hkD
  have HkD := Lib.hid hkD
  have lDD := hkDD.lt
  obtain ⟨cDD0, cDD1, cDD2, cDD3, fDD0, fDD1, fDD2, fDD3⟩ := cells4 hkDD
  have HkDD := Lib.hid hkDD
  have lK := hkK.lt
  obtain ⟨cK0, cK1, cK2, cK3, fK0, fK1, fK2, fK3⟩ := cells4 hkK
  have HkK := Lib.hid hkK
  have lKK := hkKK.lt
  obtain ⟨cKK0, cKK1, cKK2, cKK3, fKK0, fKK1, fKK2, fKK3⟩ := cells4 hkKK
  have HkKK := Lib.hid hkKK
  have lM := hkM.lt
  obtain ⟨cM0, cM1, cM2, cM3, fM0, fM1, fM2, fM3⟩ := cells4 hkM
  have HkM := Lib.hid hkM
  have lMM := hkMM.lt
  obtain ⟨cMM0, cMM1, cMM2, cMM3, fMM0, fMM1, fMM2, fMM3⟩ := cells4 hkMM
  have HkMM := Lib.hid hkMM
  have lT := hkT.lt
  obtain ⟨cT0, cT1, cT2, cT3, fT0, fT1, fT2, fT3⟩ := cells4 hkT
  have HkT := Lib.hid hkT
  clear hkA hkC hkCC hkD hkDD hkK hkKK hkM hkMM hkT
  go_wp2_with fail
  have kA := (HkA.out).alloc (.cells #[.int .i64 t0, str t1, str t2, str t3] 35)
  have kC := (HkC.out).alloc (.cells #[.int .i64 t0, str t1, str t2, str t3] 35)
  have kCC := (HkCC.out).alloc (.cells #[.int .i64 t0, str t1, str t2, str t3] 35)
  have kD := (HkD.out).alloc (.cells #[.int .i64 t0, str t1, str t2, str t3] 35)
  have kDD := (HkDD.out).alloc (.cells #[.int .i64 t0, str t1, str t2, str t3] 35)
  have kK := (HkK.out).alloc (.cells #[.int .i64 t0, str t1, str t2, str t3] 35)
  have kKK := (HkKK.out).alloc (.cells #[.int .i64 t0, str t1, str t2, str t3] 35)
  have kM := (HkM.out).alloc (.cells #[.int .i64 t0, str t1, str t2, str t3] 35)
  have kMM := (HkMM.out).alloc (.cells #[.int .i64 t0, str t1, str t2, str t3] 35)
  have kT := (HkT.out).alloc (.cells #[.int .i64 t0, str t1, str t2, str t3] 35)
  have kTT := Blk.new w13 35 #[.int .i64 t0, str t1, str t2, str t3]
  have hcW := hc13.alloc hz13 (.cells #[.int .i64 t0, str t1, str t2, str t3] 35)
  clear HkA HkC HkCC HkD HkDD HkK HkKK HkM HkMM HkT hc13 hz13 lA lC lCC lD lDD lK lKK lM lMM lT
  generalize w13.alloc (.cells #[.int .i64 t0, str t1, str t2, str t3] 35) = W at *
  generalize w2.heap.size = gA at *
  generalize w4.heap.size = gC at *
  generalize w5.heap.size = gCC at *
  generalize w6.heap.size = gD at *
  generalize w7.heap.size = gDD at *
  generalize w8.heap.size = gK at *
  generalize w9.heap.size = gKK at *
  generalize w10.heap.size = gM at *
  generalize w11.heap.size = gMM at *
  generalize w12.heap.size = gT at *
  generalize w13.heap.size = gTT at *
  have hl : gA < W.heap.size ∧ gC < W.heap.size ∧ gCC < W.heap.size ∧ gD < W.heap.size ∧ gDD < W.heap.size ∧ gK < W.heap.size ∧ gKK < W.heap.size ∧ gM < W.heap.size ∧ gMM < W.heap.size ∧ gT < W.heap.size ∧ gTT < W.heap.size := ⟨kA.lt, kC.lt, kCC.lt, kD.lt, kDD.lt, kK.lt, kKK.lt, kM.lt, kMM.lt, kT.lt, kTT.lt⟩
  have HL := Lib.hid hl
  clear hl
  obtain ⟨cA0, cA1, cA2, cA3, -⟩ := cells4 kA
  obtain ⟨cC0, cC1, cC2, cC3, -⟩ := cells4 kC
  obtain ⟨cCC0, cCC1, cCC2, cCC3, -⟩ := cells4 kCC
  obtain ⟨cD0, cD1, cD2, cD3, -⟩ := cells4 kD
  obtain ⟨cDD0, cDD1, cDD2, cDD3, -⟩ := cells4 kDD
  obtain ⟨cK0, cK1, cK2, cK3, -⟩ := cells4 kK
  obtain ⟨cKK0, cKK1, cKK2, cKK3, -⟩ := cells4 kKK
  obtain ⟨cM0, cM1, cM2, cM3, -⟩ := cells4 kM
  obtain ⟨cMM0, cMM1, cMM2, cMM3, -⟩ := cells4 kMM
  obtain ⟨cT0, cT1, cT2, cT3, -⟩ := cells4 kT
  obtain ⟨cTT0, cTT1, cTT2, cTT3, -⟩ := cells4 kTT
  clear kA kC kCC kD kDD kK kKK kM kMM kT kTT
  go_region_held3 (fun w' => w'.cell? ⟨gA, 0, none⟩ = some (.int .i64 n) ∧ w'.cell? ⟨gA, 1, none⟩ = some (str a1) ∧ w'.cell? ⟨gA, 2, none⟩ = some (str a2) ∧ w'.cell? ⟨gA, 3, none⟩ = some (str a3) ∧ w'.cell? ⟨gC, 0, none⟩ = some (.int .i64 c0) ∧ w'.cell? ⟨gC, 1, none⟩ = some (str c1) ∧ w'.cell? ⟨gC, 2, none⟩ = some (str c2) ∧ w'.cell? ⟨gC, 3, none⟩ = some (str c3) ∧ w'.cell? ⟨gCC, 0, none⟩ = some (.int .i64 c0) ∧ w'.cell? ⟨gCC, 1, none⟩ = some (str c1) ∧ w'.cell? ⟨gCC, 2, none⟩ = some (str c2) ∧ w'.cell? ⟨gCC, 3, none⟩ = some (str c3) ∧ w'.cell? ⟨gD, 0, none⟩ = some (.int .i64 d0) ∧ w'.cell? ⟨gD, 1, none⟩ = some (str d1) ∧ w'.cell? ⟨gD, 2, none⟩ = some (str d2) ∧ w'.cell? ⟨gD, 3, none⟩ = some (str d3) ∧ w'.cell? ⟨gDD, 0, none⟩ = some (.int .i64 d0) ∧ w'.cell? ⟨gDD, 1, none⟩ = some (str d1) ∧ w'.cell? ⟨gDD, 2, none⟩ = some (str d2) ∧ w'.cell? ⟨gDD, 3, none⟩ = some (str d3) ∧ w'.cell? ⟨gK, 0, none⟩ = some (.int .i64 k0) ∧ w'.cell? ⟨gK, 1, none⟩ = some (str k1) ∧ w'.cell? ⟨gK, 2, none⟩ = some (str k2) ∧ w'.cell? ⟨gK, 3, none⟩ = some (str k3) ∧ w'.cell? ⟨gKK, 0, none⟩ = some (.int .i64 k0) ∧ w'.cell? ⟨gKK, 1, none⟩ = some (str k1) ∧ w'.cell? ⟨gKK, 2, none⟩ = some (str k2) ∧ w'.cell? ⟨gKK, 3, none⟩ = some (str k3) ∧ w'.cell? ⟨gM, 0, none⟩ = some (.int .i64 m0) ∧ w'.cell? ⟨gM, 1, none⟩ = some (str m1) ∧ w'.cell? ⟨gM, 2, none⟩ = some (str m2) ∧ w'.cell? ⟨gM, 3, none⟩ = some (str m3) ∧ w'.cell? ⟨gMM, 0, none⟩ = some (.int .i64 m0) ∧ w'.cell? ⟨gMM, 1, none⟩ = some (str m1) ∧ w'.cell? ⟨gMM, 2, none⟩ = some (str m2) ∧ w'.cell? ⟨gMM, 3, none⟩ = some (str m3) ∧ w'.cell? ⟨gT, 0, none⟩ = some (.int .i64 t0) ∧ w'.cell? ⟨gT, 1, none⟩ = some (str t1) ∧ w'.cell? ⟨gT, 2, none⟩ = some (str t2) ∧ w'.cell? ⟨gT, 3, none⟩ = some (str t3) ∧ w'.cell? ⟨gTT, 0, none⟩ = some (.int .i64 t0) ∧ w'.cell? ⟨gTT, 1, none⟩ = some (str t1) ∧ w'.cell? ⟨gTT, 2, none⟩ = some (str t2) ∧ w'.cell? ⟨gTT, 3, none⟩ = some (str t3)) (first | exact keep_cells hb15 HL2.out ‹_› | exact keep_cells hb14 HL.out ‹_› | exact ⟨cA0, cA1, cA2, cA3, cC0, cC1, cC2, cC3, cCC0, cCC1, cCC2, cCC3, cD0, cD1, cD2, cD3, cDD0, cDD1, cDD2, cDD3, cK0, cK1, cK2, cK3, cKK0, cKK1, cKK2, cKK3, cM0, cM1, cM2, cM3, cMM0, cMM1, cMM2, cMM3, cT0, cT1, cT2, cT3, cTT0, cTT1, cTT2, cTT3⟩) (first | (go_at_call 34; refine (check_any n a1 a2 a3 q _ Hq.out fa1 fa2 fa3).mono ?_; rintro e w14 ⟨rfl, hb14⟩; have HL2 := lt_step HL hb14.size) | (go_at_call 22; refine (refCheck_any n a1 a2 a3 q _ Hq.out fa1 fa2 fa3).mono ?_; rintro e w15 ⟨rfl, hb15⟩))
  all_goals
    go_wp2
    go_ret
    exact ⟨rfl, bel_step (bel_step hcW.drew hb14) hb15⟩
end Go.Proofs.Ytlkgloakcpfnnaa

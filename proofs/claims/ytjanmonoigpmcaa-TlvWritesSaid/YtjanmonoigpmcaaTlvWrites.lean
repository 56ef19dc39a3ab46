/-
  The walk of TlvWrites: it returns true for every field, number and texts. No conditions beside those in each theorem.
-/
import Derived.Test.YtjanmonoigpmcaaTlvSizes
import Derived.Test.YtjanmonoigpmcaaTlvInt
namespace Go.Proofs.Ytjanmonoigpmcaa
open Go.RowKit

set_option maxRecDepth 100000 in
set_option maxHeartbeats 1600000 in
theorem refTlvAll_any (c : Int) (v : Value) (L : List (List UInt8)) (w : World) (hv : ReadS w v L) (c0 : 0 ≤ c) (c1 : c ≤ 255) (hl : (catT c L).length ≤ 16777215) :
    Calls Try.prog 27 #[.int .u8 c, v] w fun e w' => e = .returned (str (tAll c L)) ∧ Below w.heap.size w w' := by
  obtain ⟨p, cp, rfl, hmax, hcells⟩ := hv
  unfold maxLen at hmax
  have HC := Lib.hid hcells
  clear hcells
  go_enter Try.func27, Try.ntmps27
  go_wp2_with fail
  go_loopw [5, 6] (fun s i wr => ∃ k : Nat, k ≤ L.length ∧ i = .int .i64 k ∧ s = str (catT c (L.take k)) ∧ Below w.heap.size w wr) (fun _ i _ => L.length - (intOf i).toNat)
  case atStart => exact ⟨0, Nat.zero_le _, rfl, rfl, Below.refl _ _⟩
  case round =>
    obtain ⟨k, hk, rfl, rfl, hnx⟩ := hrel
    have hsz := hnx.size
    have htl := catT_take_le c L k
    by_cases hlt : k < L.length
    · obtain ⟨b, o, rfl, hbw, hcell⟩ := HC.out (by omega)
      have c1' : wr.cell? ⟨b, o + k, none⟩ = some (str L[k]) := (hnx.cell (p := ⟨b, o + k, none⟩) hbw).trans (hcell k hlt)
      have hml := catT_mem_le c L k hlt
      have Hstep := Lib.hid (show L.take (k + 1) = L.take k ++ [L[k]] from List.take_succ_eq_append_getElem hlt)
      obtain ⟨A, hA⟩ : ∃ A, L[k] = A := ⟨_, rfl⟩
      rw [hA] at c1' Hstep hml
      clear hA hcell
      have hTl := tText_length c A
      obtain ⟨X, hX⟩ : ∃ X, tText c A = X := ⟨_, rfl⟩
      rw [hX] at hTl
      have hXl : X.length ≤ 16777219 := by omega
      have HX := Lib.hid hX
      obtain ⟨Y, hY⟩ : ∃ Y, catT c (L.take k) = Y := ⟨_, rfl⟩
      rw [hY] at htl ⊢
      have HY := Lib.hid hY
      clear hX hY hTl
      have q1 : ¬ 9223372036854775807 < Y.length + X.length := by omega
      go_wp2_with fail
      refine (refText_any c A _ c0 c1 (by omega)).mono ?_
      rw [HX.out]
      rintro e w1 ⟨rfl, hb1⟩
      have hb1' := bel_step hnx hb1
      clear c1' hb1
      go_wp2
      go_roundw
      case rel => exact ⟨k + 1, by omega, by go_num, by rw [Hstep.out, catT_snoc, HX.out, HY.out], hb1'⟩
      case measure => simp [intOf]; omega
    · obtain rfl : k = L.length := by omega
      rw [List.take_length]
      go_wp2_with fail
      refine (refText_any c (catT c L) _ c0 c1 (by omega)).mono ?_
      rintro e w2 ⟨rfl, hb2⟩
      have hb2' := bel_step hnx hb2
      go_wp2
      go_ret
      exact ⟨rfl, hb2'⟩

theorem keep3' {W w w' : World} {g : Nat} {x y z v : Value} {M : List (List UInt8)} (hb : Below w.heap.size w w') (h : w.cell? ⟨g, 0, none⟩ = some x ∧ w.cell? ⟨g, 1, none⟩ = some y ∧ w.cell? ⟨g, 2, none⟩ = some z ∧ Hid (ReadS w v M ∧ Below W.heap.size W w)) :
    w'.cell? ⟨g, 0, none⟩ = some x ∧ w'.cell? ⟨g, 1, none⟩ = some y ∧ w'.cell? ⟨g, 2, none⟩ = some z ∧ Hid (ReadS w' v M ∧ Below W.heap.size W w') := by
  obtain ⟨h0, h1, h2, h3⟩ := h
  have hlt := World.block_lt_of_cell? w _ h0
  exact ⟨(hb.cell (p := ⟨g, 0, none⟩) hlt).trans h0, (hb.cell (p := ⟨g, 1, none⟩) hlt).trans h1, (hb.cell (p := ⟨g, 2, none⟩) hlt).trans h2, Lib.hid ⟨ReadS.step h3.out.1 hb, bel_step h3.out.2 hb⟩⟩

set_option maxRecDepth 100000 in
set_option maxHeartbeats 3200000 in
theorem tlvWrites_walk (c : Int) (n : Nat) (s : List UInt8) (c0 : 0 ≤ c) (c1 : c ≤ 255) (hn : n < 256 ^ 8) (m : Int) (wm : (Lit.int .i64 m).wf = true) (v : Value) (L : List (List UInt8)) (w : World) (hv : ReadS w v L) :
    Calls Try.prog 5 #[.agg #[.int .u8 c, .int .u64 n, str s], .int .i64 m, v] w fun e w' => e = .returned (.bool true) ∧ Below w.heap.size w w' := by
  have Hm := Lib.hid (bounds_i64 wm).2
  have Hn := Lib.hid hn
  clear hn wm
  obtain ⟨S, hS⟩ : ∃ S, s.take 300 = S := ⟨_, rfl⟩
  have hSl : S.length ≤ 300 := by rw [← hS, List.length_take]; omega
  have HS := Lib.hid hS
  obtain ⟨M, hM⟩ : ∃ M, few30 L 8 = M := ⟨_, rfl⟩
  have hMl : M.length ≤ 8 := by rw [← hM]; exact few30_most L
  have hMb : ∀ b ∈ M, b.length ≤ 30 := by rw [← hM]; exact few30_le L 8
  have hcl : (catT c M).length ≤ 272 := by rw [catT_length]; have := sumT_le _ 30 hMb; omega
  have HM := Lib.hid hM
  have HV := Lib.hid hv
  clear hS hM hv hMb
  go_enter Try.func5, Try.ntmps5
  go_wp2_with fail
  have F0 := Lib.hid (Blk.new w 24 #[.int .u8 c, .int .u64 n, str s])
  have hb0 := (Below.refl w.heap.size w).alloc (Nat.le_refl _) (.cells #[.int .u8 c, .int .u64 n, str s] 24)
  refine (awake01_any _).mono ?_
  rintro e w1 ⟨rfl, hb1⟩
  have hb1' := bel_step hb0 hb1
  have F1 := Lib.hid (Blk.step F0.out hb1)
  obtain ⟨d0, d1, d2⟩ := cells3 F1.out
  clear hb1 F0 hb0
  go_wp2_with fail
  refine (short01_any s 300 _).mono ?_
  rw [HS.out]
  rintro e w2 ⟨rfl, rfl⟩
  go_wp2_with fail
  refine (few01_any v L _ (ReadS.step HV.out hb1')).mono ?_
  rw [HM.out]
  rintro e w3 ⟨v3, rfl, hown, hb3⟩
  have hb3' := bel_step hb1' hb3
  have F3 := Lib.hid (Blk.step F1.out hb3)
  have HR3 := Lib.hid hown.reads
  clear d0 d1 d2 hown F1 hb3 hb1'
  obtain ⟨d0, d1, d2⟩ := cells3 F3.out
  go_wp2_with fail
  go_region_held3 (fun w' => w'.cell? ⟨w.heap.size, 0, none⟩ = some (.int .u8 c) ∧ w'.cell? ⟨w.heap.size, 1, none⟩ = some (.int .u64 n) ∧ w'.cell? ⟨w.heap.size, 2, none⟩ = some (str s) ∧ Hid (ReadS w' v3 M ∧ Below w.heap.size w w'))
    (first | assumption | exact keep3' hb4 ‹_› | exact keep3' hb5 ‹_› | exact keep3' hb6 ‹_› | exact keep3' hb7 ‹_› | exact keep3' hb8 ‹_› | exact keep3' hb9 ‹_› | exact keep3' hb10 ‹_› | exact keep3' hb11 ‹_› | exact ⟨d0, d1, d2, Lib.hid ⟨HR3.out, hb3'.drew⟩⟩)
    (first | (go_at_call 18; refine (num_any c n _ c0 c1 Hn.out).mono ?_; rintro e w4 ⟨rfl, hb4⟩) | (go_at_call 23; refine (refNum_any c n _ c0 c1 Hn.out).mono ?_; rintro e w5 ⟨rfl, hb5⟩) | (go_at_call 24; refine (int_any c m _ c0 c1 Hm.out).mono ?_; rintro e w6 ⟨rfl, hb6⟩) | (go_at_call 25; refine (refInt_any c m _ c0 c1 Hm.out).mono ?_; rintro e w7 ⟨rfl, hb7⟩) | (go_at_call 17; refine (text_any c S _ c0 c1 (by omega)).mono ?_; rintro e w8 ⟨rfl, hb8⟩) | (go_at_call 26; refine (refText_any c S _ c0 c1 (by omega)).mono ?_; rintro e w9 ⟨rfl, hb9⟩) | (go_at_call 20; refine (tlvAll_any c _ M _ (by obtain ⟨-, -, -, hR⟩ := ‹_ ∧ _ ∧ _ ∧ Hid (ReadS _ _ _ ∧ _)›; exact hR.out.1) c0 c1 (by omega)).mono ?_; rintro e w10 ⟨rfl, hb10⟩) | (go_at_call 27; refine (refTlvAll_any c _ M _ (by obtain ⟨-, -, -, hR⟩ := ‹_ ∧ _ ∧ _ ∧ Hid (ReadS _ _ _ ∧ _)›; exact hR.out.1) c0 c1 (by omega)).mono ?_; rintro e w11 ⟨rfl, hb11⟩))
  all_goals
    obtain ⟨-, -, -, hR⟩ := ‹_ ∧ _ ∧ _ ∧ Hid (ReadS _ _ _ ∧ _)›
    go_wp2
    go_ret
    exact ⟨rfl, hR.out.2⟩
end Go.Proofs.Ytjanmonoigpmcaa

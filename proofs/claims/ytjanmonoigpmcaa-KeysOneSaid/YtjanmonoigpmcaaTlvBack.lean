/-
  The walk of TlvBack: it returns true for every field, texts and bytes behind. No conditions beside those in each theorem.
-/
import Derived.Test.YtjanmonoigpmcaaTlvSizes
import Derived.Test.YtjanmonoigpmcaaReadAll
import Derived.Test.YtjanmonoigpmcaaSame
namespace Go.Proofs.Ytjanmonoigpmcaa
open Go.RowKit

theorem bodies_back (c most : Int) (c0 : 0 ≤ c) (c1 : c ≤ 255) : ∀ (L : List (List UInt8)), (∀ b ∈ L, (b.length : Int) ≤ most) → (∀ b ∈ L, b.length ≤ 16777215) → bodies c most (catT c L) = some L := by
  intro L
  induction L with
  | nil => intro _ _; exact bodies_nil c most
  | cons a L ih =>
    intro h1 h2
    have hne : catT c (a :: L) ≠ [] := by simp [catT, tText, hd]
    have hb := rText_back c most a (catT c L) c0 c1 (h2 a (by simp)) (h1 a (by simp))
    rw [bodies_step hne (s' := catT c L) (t := a) hb, ih (fun b hb => h1 b (by simp [hb])) (fun b hb => h2 b (by simp [hb]))]
    rfl
theorem rAll_back (c many most : Int) (L : List (List UInt8)) (rest : List UInt8) (c0 : 0 ≤ c) (c1 : c ≤ 255) (h1 : ∀ b ∈ L, (b.length : Int) ≤ most) (h2 : ∀ b ∈ L, b.length ≤ 16777215) (hl : (catT c L).length ≤ 16777215) (hm : (L.length : Int) ≤ many) :
    rAll c many most (tAll c L ++ rest, false) = (L, rest, false) := by
  unfold rAll tAll
  rw [rText_back c 16777215 _ rest c0 c1 hl (by omega)]
  simp only []
  rw [bodies_back c most c0 c1 L h1 h2]
  simp only []
  rw [if_neg (by omega)]

set_option maxRecDepth 100000 in
set_option maxHeartbeats 3200000 in
theorem tlvBack_walk (c : Int) (n : Nat) (s : List UInt8) (c0 : 0 ≤ c) (c1 : c ≤ 255) (hn : n < 256 ^ 8) (v : Value) (L : List (List UInt8)) (rest : List UInt8) (w : World) (hv : ReadS w v L) :
    Calls Try.prog 10 #[.agg #[.int .u8 c, .int .u64 n, str s], v, str rest] w fun e w' => e = .returned (.bool true) ∧ Below w.heap.size w w' := by
  have Hn := Lib.hid hn
  clear hn
  obtain ⟨S, hS⟩ : ∃ S, s.take 100 = S := ⟨_, rfl⟩
  have hSl : S.length ≤ 100 := by rw [← hS, List.length_take]; omega
  have HS := Lib.hid hS
  obtain ⟨R, hR⟩ : ∃ R, rest.take 50 = R := ⟨_, rfl⟩
  have hRl : R.length ≤ 50 := by rw [← hR, List.length_take]; omega
  have HR := Lib.hid hR
  obtain ⟨M, hM⟩ : ∃ M, few30 L 8 = M := ⟨_, rfl⟩
  have hMl : M.length ≤ 8 := by rw [← hM]; exact few30_most L
  have hMb : ∀ b ∈ M, b.length ≤ 30 := by rw [← hM]; exact few30_le L 8
  have hMs : sumT M ≤ 34 * M.length := sumT_le _ 30 hMb
  have hcl : (catT c M).length ≤ 272 := by rw [catT_length]; omega
  have HM := Lib.hid hM
  have HV := Lib.hid hv
  have HN := Lib.hid (show rNum c (tNum c n ++ (tText c S ++ (tAll c M ++ R)), false) = (n, tText c S ++ (tAll c M ++ R), false) by
    exact rNum_back c n _ c0 c1 Hn.out)
  have HT := Lib.hid (rText_back c 100 S (tAll c M ++ R) c0 c1 (by omega) (by omega))
  have HA := Lib.hid (rAll_back c 8 30 M R c0 c1 (fun b hb => by have := hMb b hb; omega) (fun b hb => by have := hMb b hb; omega) (by omega) (by omega))
  have hxl := tNum_le c n
  have hyl := tText_length c S
  have hzl : (tAll c M).length ≤ 276 := by unfold tAll; rw [tText_length]; omega
  obtain ⟨X, hX⟩ : ∃ X, tNum c n = X := ⟨_, rfl⟩
  obtain ⟨Y, hY⟩ : ∃ Y, tText c S = Y := ⟨_, rfl⟩
  obtain ⟨Z, hZ⟩ : ∃ Z, tAll c M = Z := ⟨_, rfl⟩
  rw [hX, hY, hZ] at HN
  rw [hY, hZ] at HT
  rw [hZ] at HA
  rw [hX] at hxl
  rw [hY] at hyl
  have hyl' : Y.length ≤ 104 := by omega
  rw [hZ] at hzl
  have HX := Lib.hid hX
  have HY := Lib.hid hY
  have HZ := Lib.hid hZ
  have hT1 : (X ++ (Y ++ (Z ++ R))).length ≤ 1000 := by simp only [List.length_append]; omega
  have hT2 : (Y ++ (Z ++ R)).length ≤ 1000 := by simp only [List.length_append]; omega
  have hT3 : (Z ++ R).length ≤ 1000 := by simp only [List.length_append]; omega
  have HT1 := Lib.hid hT1
  have HT2 := Lib.hid hT2
  have HT3 := Lib.hid hT3
  clear hS hM hv hR hX hY hZ hMb hT1 hT2 hT3 hyl
  go_enter Try.func10, Try.ntmps10
  go_wp2_with fail
  have F0 := Lib.hid (Blk.new w 24 #[.int .u8 c, .int .u64 n, str s])
  have hb0 := (Below.refl w.heap.size w).alloc (Nat.le_refl _) (.cells #[.int .u8 c, .int .u64 n, str s] 24)
  refine (awake01_any _).mono ?_
  rintro e w1 ⟨rfl, hb1⟩
  have hb1' := bel_step hb0 hb1
  have F1 := Lib.hid (Blk.step F0.out hb1)
  obtain ⟨d0, d1, d2⟩ := cells3 F1.out
  clear hb1 F0 hb0
  go_wp2_with fail
  refine (short01_any s 100 _).mono ?_
  rw [HS.out]
  rintro e w2 ⟨rfl, rfl⟩
  go_wp2_with fail
  refine (few01_any v L _ (by
    obtain ⟨p, cp, h1, h2, h3⟩ := HV.out
    refine ⟨p, cp, h1, h2, fun h => ?_⟩
    obtain ⟨b, o, k1, k2, k3⟩ := h3 h
    have := hb1'.size
    exact ⟨b, o, k1, by omega, fun i hi => (hb1'.cell (p := ⟨b, o + i, none⟩) k2).trans (k3 i hi)⟩)).mono ?_
  rw [HM.out]
  rintro e w3 ⟨v3, rfl, hown, hb3⟩
  have hb3' := bel_step hb1' hb3
  have F3 := Lib.hid (Blk.step F1.out hb3)
  have HW3 := Lib.hid hown
  have HR3 := Lib.hid hown.reads
  clear d0 d1 d2 hown F1 hb3 hb1'
  obtain ⟨d0, d1, d2⟩ := cells3 F3.out
  go_wp2_with fail
  refine (short01_any rest 50 _).mono ?_
  rw [HR.out]
  rintro e w4 ⟨rfl, rfl⟩
  go_wp2_with fail
  have hlt4 : w.heap.size < w3.heap.size := Blk.lt F3.out
  have q1 : ¬ 9223372036854775807 < X.length + Y.length := by omega
  have q2 : ¬ 9223372036854775807 < X.length + Y.length + Z.length := by omega
  have q3 : ¬ 9223372036854775807 < X.length + (Y.length + Z.length) + R.length := by omega
  go_region_held3 (fun w' => w'.cell? ⟨w.heap.size, 0, none⟩ = some (.int .u8 c) ∧ w'.cell? ⟨w.heap.size, 1, none⟩ = some (.int .u64 n) ∧ w'.cell? ⟨w.heap.size, 2, none⟩ = some (str s) ∧ Hid (ReadS w' v3 M)) (first | assumption | exact keep3 hb5 ‹_› | exact keep3 hb6 ‹_› | exact keep3 hb7 ‹_› | exact keep3 ((Below.refl _ _).alloc (Nat.le_refl _) _) ‹_› | exact ⟨d0, d1, d2, HR3⟩)
    (first | (go_at_call 18; refine (num_any c n _ c0 c1 Hn.out).mono ?_; rw [HX.out]; rintro e w5 ⟨rfl, hb5⟩) | (go_at_call 17; refine (text_any c S _ c0 c1 (by omega)).mono ?_; rw [HY.out]; rintro e w6 ⟨rfl, hb6⟩) | (go_at_call 20; refine (tlvAll_any c _ M _ (by obtain ⟨-, -, -, hR⟩ := ‹_ ∧ _ ∧ _ ∧ Hid (ReadS _ _ _)›; exact hR.out) c0 c1 (by omega)).mono ?_; rw [HZ.out]; rintro e w7 ⟨rfl, hb7⟩) | (go_at_call 28; refine (read_any (X ++ (Y ++ (Z ++ R))) _).mono ?_; rintro e w8 ⟨rfl, rfl⟩))
  all_goals
    have hb5' := bel_step (hb3'.drew) hb5
    have hb6' := bel_step hb5' hb6
    have hb7' := bel_step hb6' hb7
    have hb8' := hb7'.alloc hb7'.size (.cells #[str (X ++ (Y ++ (Z ++ R))), .bool false] 51)
    have hb38 : Below w3.heap.size w3 (w7.alloc (.cells #[str (X ++ (Y ++ (Z ++ R))), .bool false] 51)) := by
      have k5 : Below w3.heap.size w3 w5 := (Below.refl _ _).drew.trans hb5
      have k7 := bel_step (bel_step k5 hb6) hb7
      exact k7.alloc k7.size _
    have HI8 := Lib.hid (read_isRd (X ++ (Y ++ (Z ++ R))) w7)
    have F8 := Lib.hid (Blk.step F3.out hb38)
    have HW8 := Lib.hid (OwnS.step HW3.out hb38)
    have hz7 := hb7'.size
    clear q1 q2 q3 hb5 hb6 hb7 hb5' hb6' hb7' hb38 hb3' d0 d1 d2
    go_wp2_with fail
    refine (readNum_any _ false c _ _ HI8.out c0 c1 (by have := HT1.out; omega) n _ false HN.out).mono ?_
    rintro e w9 ⟨rfl, hr9, hu9⟩
    have F9 := Lib.hid (Blk.grown F8.out hu9 (by simpa using Blk.ne F8.out HI8.out (by decide)))
    have HW9 := Lib.hid (OwnS.grown HW8.out hu9 (.inr (OwnS.ne HW8.out HI8.out (by decide))))
    have HI9 := Lib.hid hr9
    have hg9 := hu9
    obtain ⟨d0, d1, d2⟩ := cells3 F9.out
    clear hr9 hu9
    go_wp2_with fail
    refine (readText_any _ false c 100 _ _ HI9.out c0 c1 (by have := HT2.out; omega) (by decide) S _ false HT.out).mono ?_
    rintro e w10 ⟨rfl, hr10, hu10⟩
    have F10 := Lib.hid (Blk.grown F9.out hu10 (by simpa using Blk.ne F9.out HI9.out (by decide)))
    have HW10 := Lib.hid (OwnS.grown HW9.out hu10 (.inr (OwnS.ne HW9.out HI9.out (by decide))))
    have HI10 := Lib.hid hr10
    have hg10 := upd_trans hg9 hu10
    clear d0 d1 d2 hr10 hu10 hg9
    obtain ⟨d0, d1, d2⟩ := cells3 F10.out
    go_wp2_with fail
    refine (readAll_any _ false c 8 30 _ _ HI10.out c0 c1 (by have := HT3.out; omega) (by decide) M _ false HA.out).mono ?_
    rintro e w11 ⟨v11, rfl, hown11, hr11, hu11⟩
    have F11 := Lib.hid (Blk.grown F10.out hu11 (by simpa using Blk.ne F10.out HI10.out (by decide)))
    have HW11 := Lib.hid (OwnS.grown HW10.out hu11 (.inr (OwnS.ne HW10.out HI10.out (by decide))))
    have HI11 := Lib.hid hr11
    have HV11 := Lib.hid hown11
    have hb11 := hb8'.trans (upd_below (upd_trans hg10 hu11) hb8'.size hz7)
    clear d0 d1 d2 hr11 hu11 hg10 hown11 hb8'
    go_wp2_with fail
    refine (same_any _ _ M M _ _ _ HV11.out HW11.out).mono ?_
    rw [sameL_refl]
    rintro e w12 ⟨rfl, hb12⟩
    have hb12' := bel_step hb11 hb12
    have HI12 := Lib.hid (Blk.step HI11.out hb12)
    have F12 := Lib.hid (Blk.step F11.out hb12)
    clear hb11 hb12
    obtain ⟨d0, d1, d2⟩ := cells3 F12.out
    cases R with
    | nil =>
      go_wp2_with fail
      refine (left_ok [] _ _ HI12.out).mono ?_
      rintro e w13 ⟨rfl, rfl⟩
      go_wp2_with fail
      refine (good_any [] false _ _ HI12.out).mono ?_
      rintro e w13 ⟨rfl, rfl⟩
      go_wp2_with fail
      refine (end_any [] false _ _ HI12.out).mono ?_
      rintro e w13 ⟨rfl, rfl⟩
      rw [show rEnd ([], false) = 0 by decide]
      go_wp2
      go_ret
      exact ⟨rfl, hb12'⟩
    | cons r R =>
      go_wp2_with fail
      refine (left_ok (r :: R) _ _ HI12.out).mono ?_
      rintro e w13 ⟨rfl, rfl⟩
      go_wp2_with fail
      refine (good_any (r :: R) false _ _ HI12.out).mono ?_
      rintro e w13 ⟨rfl, rfl⟩
      go_wp2_with fail
      refine (end_any (r :: R) false _ _ HI12.out).mono ?_
      rintro e w13 ⟨rfl, rfl⟩
      rw [show rEnd (r :: R, false) = 10 by simp [rEnd]]
      go_wp2
      go_ret
      exact ⟨rfl, hb12'⟩
end Go.Proofs.Ytjanmonoigpmcaa

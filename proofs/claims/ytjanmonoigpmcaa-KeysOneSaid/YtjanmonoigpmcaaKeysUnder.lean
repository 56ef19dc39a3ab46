/-
  The walk of KeysUnder: it returns true for every two ids and number. No conditions beside those in each theorem.
-/
import Derived.Test.YtjanmonoigpmcaaKeysBack
namespace Go.Proofs.Ytjanmonoigpmcaa
open Go.RowKit

theorem kWith_zero (k : UInt8) (id : List UInt8) : kWith k id 0 = kOf k id ++ hd 113 0 := by
  show k :: (tText 105 id ++ tText 113 (digs 0)) = _
  rw [show digs 0 = [] from digsF_zero 8]
  rfl
theorem beg_kind (k : UInt8) (x y : List UInt8) (n : Int) (hx : x.length ≤ 16777215) (hy : y.length ≤ 16777215) : beg (kWith k y n) (kOf k x) = (x == y) := by
  refine beg_of ⟨?_, ?_⟩
  · rintro ⟨r, hr⟩
    unfold kWith kOf at hr
    rw [List.cons_append] at hr
    injection hr with _ hr
    have h1 := rText_back 105 16777215 y (tNum 113 n.toNat) (by decide) (by decide) hy (by omega)
    rw [hr, rText_back 105 16777215 x r (by decide) (by decide) hx (by omega)] at h1
    injection h1 with h1 _
    simp [h1]
  · intro h
    obtain rfl : x = y := by simpa using h
    exact ⟨tNum 113 n.toNat, rfl⟩
theorem beg_unlike (k j : UInt8) (s t : List UInt8) (h : k ≠ j) : beg (k :: s) (j :: t) = false := by
  rw [← Bool.not_eq_true, beg_iff]
  rintro ⟨r, hr⟩
  rw [List.cons_append] at hr
  injection hr with h1 _
  exact h h1

set_option maxRecDepth 100000 in
set_option maxHeartbeats 3200000 in
theorem keysUnder_walk (a b : List UInt8) (n : Int) (w : World) :
    Calls Try.prog 9 #[str a, str b, .int .i64 n] w fun e w' => e = .returned (.bool true) ∧ Below w.heap.size w w' := by
  obtain ⟨X, hX⟩ : ∃ X, a.take 40 = X := ⟨_, rfl⟩
  have hXl : X.length ≤ 40 := by rw [← hX, List.length_take]; omega
  obtain ⟨Y, hY⟩ : ∃ Y, b.take 40 = Y := ⟨_, rfl⟩
  have hYl : Y.length ≤ 40 := by rw [← hY, List.length_take]; omega
  obtain ⟨m, hm⟩ : ∃ m, n % 1099511627776 = m := ⟨_, rfl⟩
  have hm0 : 0 ≤ m := by omega
  have hm1 : m ≤ 1099511627775 := by omega
  have hmask : bits .and .i64 n 1099511627775 = m := by rw [i64_and40, hm]
  obtain ⟨Z, hZ⟩ : ∃ Z, kWith 80 X 0 = Z := ⟨_, rfl⟩
  have hZl : Z.length = 9 + X.length := by rw [← hZ, kWith_zero, List.length_append, kOf_length]; show 5 + X.length + 4 = 9 + X.length; omega
  obtain ⟨P, hP⟩ : ∃ P, tText 105 X = P := ⟨_, rfl⟩
  have hcut : List.take (Z.length - 4) Z = 80 :: P := by
    rw [← hZ, kWith_zero, List.length_append, show (hd 113 0).length = 4 from rfl, Nat.add_sub_cancel, List.take_left, ← hP]
    rfl
  obtain ⟨G, hG⟩ : ∃ G, kWith 71 X 0 = 71 :: G := ⟨_, rfl⟩
  have hGl : ((G.length : Int) + 1 == (Z.length : Int)) = true := by
    have := congrArg List.length hG
    rw [kWith_zero, List.length_append, kOf_length, List.length_cons] at this
    have h4 : (hd 113 0).length = 4 := rfl
    rw [beq_iff_eq]
    omega
  obtain ⟨u, hu⟩ : ∃ u, (X == Y) = u := ⟨_, rfl⟩
  obtain ⟨V, hV⟩ : ∃ V, kWith 80 X m = V := ⟨_, rfl⟩
  obtain ⟨U, hU⟩ : ∃ U, kWith 80 Y m = U := ⟨_, rfl⟩
  obtain ⟨T, hT⟩ : ∃ T, kWith 71 X m = T := ⟨_, rfl⟩
  have hk : kOf 80 X = 80 :: P := by rw [← hP]; rfl
  have HB1 := Lib.hid (show beg V (80 :: P) = true by rw [← hV, ← hk, beg_kind 80 X X m (by omega) (by omega)]; simp)
  have HB2 := Lib.hid (show beg U (80 :: P) = u by rw [← hU, ← hk, beg_kind 80 X Y m (by omega) (by omega), hu])
  have HB3 := Lib.hid (show beg T (80 :: P) = false by rw [← hT]; exact beg_unlike 71 80 _ _ (by decide))
  have HG := Lib.hid hG
  have HV := Lib.hid hV
  have HU := Lib.hid hU
  have HT := Lib.hid hT
  clear hP hG hV hU hT hk
  have HX := Lib.hid hX
  have HY := Lib.hid hY
  have HZ := Lib.hid hZ
  have hZ4 : 9 ≤ Z.length := by omega
  have hZ5 : (4 : Int) ≤ Z.length := by omega
  have hZm : Z.length ≤ 49 := by omega
  have HZl := Lib.hid hZl
  clear hX hY hm hZ hZl
  go_enter Try.func9, Try.ntmps9
  go_wp2_with fail
  refine (awake16_any _).mono ?_
  rintro e w1 ⟨rfl, hq⟩
  have hb1 := hq
  clear hq
  go_wp2_with fail
  refine (short16_any a 40 _).mono ?_
  rw [HX.out]
  rintro e wq ⟨rfl, rfl⟩
  go_wp2_with fail
  refine (short16_any b 40 _).mono ?_
  rw [HY.out]
  rintro e wq ⟨rfl, rfl⟩
  go_wp2_with fail
  clear hmask
  refine (kSent_any X 0 _ (by omega) (by decide)).mono ?_
  rw [HZ.out]
  rintro e w2 ⟨rfl, hq⟩
  have hb2 := bel_step hb1 hq
  clear hq hb1
  go_wp2_with fail
  refine (kGot_any X 0 _ (by omega) (by decide)).mono ?_
  rw [HG.out]
  rintro e w3 ⟨rfl, hq⟩
  have hb3 := bel_step hb2 hq
  clear hq hb2
  go_wp2_with fail
  refine (kSent_any X m _ (by omega) (by omega)).mono ?_
  rw [HV.out]
  rintro e w4 ⟨rfl, hq⟩
  have hb4 := bel_step hb3 hq
  clear hq hb3
  go_wp2_with fail
  refine (begins16_any V (80 :: P) true _ HB1.out).mono ?_
  rintro e wq ⟨rfl, rfl⟩
  go_wp2_with fail
  refine (kSent_any Y m _ (by omega) (by omega)).mono ?_
  rw [HU.out]
  rintro e w5 ⟨rfl, hq⟩
  have hb5 := bel_step hb4 hq
  clear hq hb4
  go_wp2_with fail
  refine (begins16_any U (80 :: P) u _ HB2.out).mono ?_
  rintro e wq ⟨rfl, rfl⟩
  go_wp2_with fail
  refine (kGot_any X m _ (by omega) (by omega)).mono ?_
  rw [HT.out]
  rintro e w6 ⟨rfl, hq⟩
  have hb6 := bel_step hb5 hq
  clear hq hb5
  go_wp2_with fail
  refine (begins16_any T (80 :: P) false _ HB3.out).mono ?_
  rintro e wq ⟨rfl, rfl⟩
  go_wp2_with fail
  refine (kind_cons 80 P _).mono ?_
  rintro e wq ⟨rfl, rfl⟩
  go_wp2_with fail
  refine (kind_cons 71 G _).mono ?_
  rintro e wq ⟨rfl, rfl⟩
  go_wp2
  go_ret
  exact ⟨rfl, hb6⟩

end Go.Proofs.Ytjanmonoigpmcaa

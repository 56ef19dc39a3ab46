/-
  What the document's Take and All return: as the program's; and its Same. For texts within the reach.
-/
import Derived.Test.YtlkgloakcpfnnaaRefTake
import Derived.Test.YtlkgloakcpfnnaaRefReader
namespace Go.Proofs.Ytlkgloakcpfnnaa
open Go.RowKit

theorem tRec_most (s : List UInt8) : (tRec s).length ≤ s.length + 16 := by
  unfold tRec
  have := tNum_le 83 (sumN (tText 82 s)).toNat
  rw [List.length_append, tText_length]
  omega

set_option maxRecDepth 100000 in
set_option maxHeartbeats 1600000 in
theorem refTake_any (s : List UInt8) (body : List UInt8) (n er : Int) (w : World) (hr : takeR s = (body, n, er)) (hs : s.length ≤ 140737488351232) :
    Calls Try.prog 36 #[str s] w fun e w' => e = .returned (.tuple #[str body, .int .i64 n, .int .i64 er]) ∧ Below w.heap.size w w' := by
  obtain ⟨⟨t, s1, b1⟩, ht⟩ : ∃ q, rText 82 1048576 (s, false) = q := ⟨_, rfl⟩
  have Ht := Lib.hid ht
  cases b1
  · have hi := (rText_inv ht).2
    have hil : t.length ≤ 1048576 := by omega
    have hlr2 := tRec_most t
    by_cases hq : s.take (tRec t).length = tRec t
    · rw [take_is ht hq] at hr
      simp only [Prod.mk.injEq] at hr
      obtain ⟨rfl, rfl, rfl⟩ := hr
      have hle : (tRec t).length ≤ s.length := by
        have := congrArg List.length hq
        rw [List.length_take] at this
        omega
      obtain ⟨X, hX⟩ : ∃ X, tRec t = X := ⟨_, rfl⟩
      rw [hX] at hq hle hlr2 ⊢
      have hqb : ((s.take X.length) == X) = true := by simpa using hq
      have Hq := Lib.hid hq
      have HX := Lib.hid hX
      clear hq hX ht hi
      go_enter Try.func36, Try.ntmps36
      go_wp2_with fail
      refine (refReadText_any s false 82 1048576 _ _ (Blk.new w _ _) (by decide) (by decide) hs (by decide) t s1 false Ht.out).mono ?_
      rintro e w2 ⟨rfl, hr2, hu2⟩
      have hb2 := (((Below.refl w.heap.size w).alloc (Nat.le_refl _) _).trans (upd_below hu2 (by simp) (Nat.le_refl _)))
      obtain ⟨d0, d1, f0, f1⟩ := rr_cells hr2
      clear hr2 hu2
      go_wp2_with fail
      refine (refRecord_any t _ (by omega)).mono ?_
      rw [HX.out]
      rintro e w3 ⟨rfl, hb3⟩
      have hb3' := bel_step hb2 hb3
      clear d0 d1 f0 f1
      go_wp2
      go_ret3
      exact ⟨rfl, hb3'⟩
    · rw [take_isnt ht hq] at hr
      simp only [Prod.mk.injEq] at hr
      obtain ⟨rfl, rfl, rfl⟩ := hr
      obtain ⟨X, hX⟩ : ∃ X, tRec t = X := ⟨_, rfl⟩
      rw [hX] at hq hlr2
      have hqb : ((s.take X.length) == X) = false := by simpa using hq
      have Hq := Lib.hid hq
      have HX := Lib.hid hX
      clear hq hX ht hi
      by_cases hle : X.length ≤ s.length
      all_goals
        go_enter Try.func36, Try.ntmps36
        go_wp2_with fail
        refine (refReadText_any s false 82 1048576 _ _ (Blk.new w _ _) (by decide) (by decide) hs (by decide) t s1 false Ht.out).mono ?_
        rintro e w2 ⟨rfl, hr2, hu2⟩
        have hb2 := (((Below.refl w.heap.size w).alloc (Nat.le_refl _) _).trans (upd_below hu2 (by simp) (Nat.le_refl _)))
        obtain ⟨d0, d1, f0, f1⟩ := rr_cells hr2
        clear hr2 hu2
        go_wp2_with fail
        refine (refRecord_any t _ (by omega)).mono ?_
        rw [HX.out]
        rintro e w3 ⟨rfl, hb3⟩
        have hb3' := bel_step hb2 hb3
        clear d0 d1 f0 f1
        go_wp2
        go_ret3
        exact ⟨rfl, hb3'⟩
  · rw [take_bad ht] at hr
    simp only [Prod.mk.injEq] at hr
    obtain ⟨rfl, rfl, rfl⟩ := hr
    clear ht
    go_enter Try.func36, Try.ntmps36
    go_wp2_with fail
    refine (refReadText_any s false 82 1048576 _ _ (Blk.new w _ _) (by decide) (by decide) hs (by decide) t s1 true Ht.out).mono ?_
    rintro e w2 ⟨rfl, hr2, hu2⟩
    have hb2 := (((Below.refl w.heap.size w).alloc (Nat.le_refl _) _).trans (upd_below hu2 (by simp) (Nat.le_refl _)))
    obtain ⟨d0, d1, f0, f1⟩ := rr_cells hr2
    clear hr2 hu2
    go_wp2
    go_ret3
    exact ⟨rfl, hb2⟩

set_option maxRecDepth 100000 in
set_option maxHeartbeats 1600000 in
theorem refAll_any (s : List UInt8) (w : World) (hs : s.length ≤ 16777216) :
    Calls Try.prog 38 #[str s] w fun e w' => ∃ v, e = .returned (.tuple #[v, .int .i64 (allR s).2]) ∧ OwnS w' w.heap.size v (allR s).1 ∧ Below w.heap.size w w' := by
  obtain ⟨i0, hi, hz0, hz1, hz2⟩ := info_parts Try.infoStr
  obtain ⟨⟨R, N⟩, hR⟩ : ∃ q, allR s = q := ⟨_, rfl⟩
  rw [hR]
  have HR := Lib.hid hR
  clear hR
  go_enter Try.func38, Try.ntmps38
  go_wp2
  go_loopw [4, 5] (fun b n wr => ∃ (L : List (List UInt8)) (m : Nat), m ≤ s.length ∧ L.length ≤ m ∧ n = .int .i64 m ∧ (L ++ (allR (s.drop m)).1, m + (allR (s.drop m)).2) = (R, N) ∧ OwnS wr w.heap.size b L ∧ Below w.heap.size w wr)
    (fun _ n _ => s.length - (intOf n).toNat)
  case atStart => exact ⟨[], 0, Nat.zero_le _, Nat.zero_le _, rfl, by rw [List.drop_zero, HR.out]; simp, OwnS.none _ _, Below.refl _ _⟩
  case round =>
    obtain ⟨L, m, hm, hLm, rfl, hall, hown, hnx⟩ := hrel
    have Hown := Lib.hid hown
    have hsz := hnx.size
    have hdl : (s.drop m).length = s.length - m := List.length_drop ..
    obtain ⟨⟨b, n, er⟩, ht⟩ : ∃ q, takeR (s.drop m) = q := ⟨_, rfl⟩
    have Ht := Lib.hid ht
    have Hcut := Lib.hid (show List.take (s.length - m) (List.drop m s) = List.drop m s from List.take_of_length_le (by omega))
    rcases takeR_cases ht with ⟨rfl, h1, h2, h3⟩ | ⟨rfl, rfl, rfl⟩
    · obtain ⟨n, rfl⟩ : ∃ k : Nat, n = k := ⟨n.toNat, by omega⟩
      rw [allR_step ht, List.drop_drop] at hall
      have Hall := Lib.hid hall
      clear hall hown ht
      go_wp2_with fail
      rw [Hcut.out]
      refine (refTake_any (s.drop m) b n 0 _ Ht.out (by omega)).mono ?_
      rintro e w1 ⟨rfl, hb1⟩
      have hb1' := bel_step hnx hb1
      have Hown1 := Lib.hid (Hown.out.step hb1)
      have z1 := hb1'.size
      go_wp2_with (at_builtin; refine wpList_append_own _ rfl _ _ 61 rfl w.heap.size 9 i0 (.string ByteArray.empty) 1 16 Try.underlying61 hi hz0 hz1 hz2 rfl (by decide) _ _ _ rfl (Hown1.out.alloc _) ⟨w1.heap.size, 0, none⟩ 1 1 [str b] rfl rfl (cell_one_new _ _ _) (by simp [Value.oneCell']) (by unfold maxLen; omega) (by omega) (by simp; omega) ?_; intro v' w2 hown' hgrow _)
      have hb2 := (hb1'.alloc z1 (.cells #[str b] 9)).grown hgrow (by simp; omega) (fun k hk => (Hown1.out.lt k hk).1)
      go_roundw
      case rel => exact ⟨L ++ [b], m + n, by omega, by rw [List.length_append]; simp; omega, by go_num, by rw [← Hall.out]; simp [Nat.add_assoc], OwnS.push hown', hb2⟩
      case measure => simp [intOf]; omega
    · rw [allR_stop ht] at hall
      simp only [List.append_nil, Nat.add_zero, Prod.mk.injEq] at hall
      obtain ⟨rfl, rfl⟩ := hall
      clear hown ht
      go_wp2_with fail
      rw [Hcut.out]
      refine (refTake_any (s.drop m) [] 0 10 _ Ht.out (by omega)).mono ?_
      rintro e w1 ⟨rfl, hb1⟩
      have hb1' := bel_step hnx hb1
      go_wp2
      go_ret2
      exact ⟨_, rfl, Hown.out.step hb1, hb1'⟩
end Go.Proofs.Ytlkgloakcpfnnaa

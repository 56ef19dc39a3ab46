/-
  What check.Take returns, for any text within the reach.
-/
import Derived.Test.YtlkgloakcpfnnaaReadNum
import Derived.Test.YtlkgloakcpfnnaaCheckPut
namespace Go.Proofs.Ytlkgloakcpfnnaa
open Go.RowKit

theorem rText_bad (c most : Int) (s : List UInt8) : rText c most (s, true) = ([], s, true) := by
  unfold rText
  split
  · rename_i h; injection h with h1 h2; cases h2
  · rename_i h; injection h with h1 h2; subst h1; rfl
theorem rNum_bad (c : Int) (s : List UInt8) : rNum c (s, true) = (0, s, true) := by unfold rNum; rw [rText_bad]
theorem rInt_bad (c most : Int) (s : List UInt8) : rInt c most (s, true) = (0, s, true) := by
  unfold rInt
  rw [rNum_bad]
  simp only []
  split <;> rfl
theorem rInt_bounds {c most n : Int} {r r' : Rd} (h : rInt c most r = (n, r')) : 0 ≤ n ∧ (n ≤ most ∨ n = 0) := by
  obtain ⟨⟨m, r1⟩, ht⟩ : ∃ q, rNum c r = q := ⟨_, rfl⟩
  rw [rInt, ht] at h
  simp only [] at h
  split at h
  · injection h with h1 h2; subst h1; exact ⟨by omega, .inr rfl⟩
  · injection h with h1 h2; subst h1; exact ⟨by omega, .inl (by omega)⟩

/-- A record, taken off: its body, how many bytes, whether it is none. -/
def takeR (s : List UInt8) : List UInt8 × Int × Int :=
  match rText 82 1048576 (s, false) with
  | (_, _, true) => ([], 0, 10)
  | (body, s1, false) =>
    match rInt 83 4294967295 (s1, false) with
    | (_, _, true) => ([], 0, 10)
    | (n, s2, false) => if n = sumN (s.take (s.length - s1.length)) then (body, (s.length : Int) - s2.length, 0) else ([], 0, 10)

set_option maxHeartbeats 400000 in
theorem left_ok (s : List UInt8) (g : Nat) (w : World) (h : IsRd w g (s, false)) :
    Calls Try.prog 56 #[.pointer (some ⟨g, 0, none⟩)] w fun e w' => e = .returned (.int .i64 s.length) ∧ w = w' := by
  have := left_any s false g w h
  simpa using this
theorem left_bad (s : List UInt8) (g : Nat) (w : World) (h : IsRd w g (s, true)) :
    Calls Try.prog 56 #[.pointer (some ⟨g, 0, none⟩)] w fun e w' => e = .returned (.int .i64 0) ∧ w = w' := by
  have := left_any s true g w h
  simpa using this

set_option maxRecDepth 100000 in
set_option maxHeartbeats 1600000 in
theorem take_any (s : List UInt8) (body : List UInt8) (n er : Int) (w : World) (hr : takeR s = (body, n, er)) (hs : s.length ≤ 140737488351232) :
    Calls Try.prog 35 #[str s] w fun e w' => e = .returned (.tuple #[str body, .int .i64 n, .int .i64 er]) ∧ Below w.heap.size w w' := by
  obtain ⟨⟨t, s1, b1⟩, ht⟩ : ∃ q, rText 82 1048576 (s, false) = q := ⟨_, rfl⟩
  have l1 := rText_left_le ht
  simp only [] at l1
  have Ht := Lib.hid ht
  rw [takeR, ht] at hr
  clear ht
  cases b1
  · obtain ⟨⟨m, s2, b2⟩, hi⟩ : ∃ q, rInt 83 4294967295 (s1, false) = q := ⟨_, rfl⟩
    have l2 := rInt_left_le hi
    simp only [] at l2
    have hm := rInt_bounds hi
    have hm0 := hm.1
    have hm1 : m ≤ 4294967295 := by omega
    have Hi := Lib.hid hi
    simp only [hi] at hr
    clear hi hm
    cases b2
    · have hsum := sumN_bounds (s.take (s.length - s1.length))
      by_cases hq : m = sumN (s.take (s.length - s1.length))
      · simp only [] at hr
        rw [if_pos hq] at hr
        simp only [Prod.mk.injEq] at hr
        obtain ⟨rfl, rfl, rfl⟩ := hr
        have Hq := Lib.hid hq
        clear hq
        go_enter Try.func35, Try.ntmps35
        go_wp2_with fail
        refine (read_any s _).mono ?_
        rintro e w1 ⟨rfl, rfl⟩
        go_wp2_with fail
        refine (readText_any s false 82 1048576 _ _ (read_isRd s w) (by decide) (by decide) hs (by decide) t s1 false Ht.out).mono ?_
        rintro e w2 ⟨rfl, hr2, hu2⟩
        have hz2 := hu2.size
        have hb2 := (((Below.refl w.heap.size w).alloc (Nat.le_refl _) _).trans (upd_below hu2 (by simp) (Nat.le_refl _)))
        have Hr2 := Lib.hid hr2
        clear hr2 hu2
        go_wp2_with fail
        refine (left_ok s1 _ _ Hr2.out).mono ?_
        rintro e w3 ⟨rfl, rfl⟩
        go_wp2_with fail
        refine (readInt_any s1 false 83 4294967295 _ _ Hr2.out (by decide) (by decide) (by omega) (by decide) m s2 false Hi.out).mono ?_
        rintro e w3 ⟨rfl, hr3, hu3⟩
        have hb3 := hb2.trans (upd_below hu3 hb2.size (Nat.le_refl _))
        have Hr3 := Lib.hid hr3
        clear hr3 hu3
        go_wp2_with fail
        refine (good_any s2 false _ _ Hr3.out).mono ?_
        rintro e w4 ⟨rfl, rfl⟩
        go_wp2_with fail
        refine (sum_any _ _ (by rw [List.length_take]; omega)).mono ?_
        rw [← Hq.out]
        rintro e w4 ⟨rfl, hb4⟩
        have hb5 := bel_step hb3 hb4
        have Hr5 := Lib.hid (Blk.step Hr3.out hb4)
        go_wp2_with fail
        refine (left_ok s2 _ _ Hr5.out).mono ?_
        rintro e w5 ⟨rfl, rfl⟩
        go_wp2
        go_ret3
        exact ⟨rfl, hb5⟩
      · simp only [] at hr
        rw [if_neg hq] at hr
        simp only [Prod.mk.injEq] at hr
        obtain ⟨rfl, rfl, rfl⟩ := hr
        obtain ⟨S, hS⟩ : ∃ S, sumN (s.take (s.length - s1.length)) = S := ⟨_, rfl⟩
        rw [hS] at hsum hq
        have hS0 := hsum.1
        have hS1 := hsum.2
        have hq' : (m == S) = false := by simpa using hq
        have HS := Lib.hid hS
        clear hS hsum
        go_enter Try.func35, Try.ntmps35
        go_wp2_with fail
        refine (read_any s _).mono ?_
        rintro e w1 ⟨rfl, rfl⟩
        go_wp2_with fail
        refine (readText_any s false 82 1048576 _ _ (read_isRd s w) (by decide) (by decide) hs (by decide) t s1 false Ht.out).mono ?_
        rintro e w2 ⟨rfl, hr2, hu2⟩
        have hz2 := hu2.size
        have hb2 := (((Below.refl w.heap.size w).alloc (Nat.le_refl _) _).trans (upd_below hu2 (by simp) (Nat.le_refl _)))
        have Hr2 := Lib.hid hr2
        clear hr2 hu2
        go_wp2_with fail
        refine (left_ok s1 _ _ Hr2.out).mono ?_
        rintro e w3 ⟨rfl, rfl⟩
        go_wp2_with fail
        refine (readInt_any s1 false 83 4294967295 _ _ Hr2.out (by decide) (by decide) (by omega) (by decide) m s2 false Hi.out).mono ?_
        rintro e w3 ⟨rfl, hr3, hu3⟩
        have hb3 := hb2.trans (upd_below hu3 hb2.size (Nat.le_refl _))
        have Hr3 := Lib.hid hr3
        clear hr3 hu3
        go_wp2_with fail
        refine (good_any s2 false _ _ Hr3.out).mono ?_
        rintro e w4 ⟨rfl, rfl⟩
        go_wp2_with fail
        refine (sum_any _ _ (by rw [List.length_take]; omega)).mono ?_
        rw [HS.out]
        rintro e w4 ⟨rfl, hb4⟩
        have hb5 := bel_step hb3 hb4
        go_wp2
        go_ret3
        exact ⟨rfl, hb5⟩
    · simp only [Prod.mk.injEq] at hr
      obtain ⟨rfl, rfl, rfl⟩ := hr
      go_enter Try.func35, Try.ntmps35
      go_wp2_with fail
      refine (read_any s _).mono ?_
      rintro e w1 ⟨rfl, rfl⟩
      go_wp2_with fail
      refine (readText_any s false 82 1048576 _ _ (read_isRd s w) (by decide) (by decide) hs (by decide) t s1 false Ht.out).mono ?_
      rintro e w2 ⟨rfl, hr2, hu2⟩
      have hz2 := hu2.size
      have hb2 := (((Below.refl w.heap.size w).alloc (Nat.le_refl _) _).trans (upd_below hu2 (by simp) (Nat.le_refl _)))
      have Hr2 := Lib.hid hr2
      clear hr2 hu2
      go_wp2_with fail
      refine (left_ok s1 _ _ Hr2.out).mono ?_
      rintro e w3 ⟨rfl, rfl⟩
      go_wp2_with fail
      refine (readInt_any s1 false 83 4294967295 _ _ Hr2.out (by decide) (by decide) (by omega) (by decide) m s2 true Hi.out).mono ?_
      rintro e w3 ⟨rfl, hr3, hu3⟩
      have hb3 := hb2.trans (upd_below hu3 hb2.size (Nat.le_refl _))
      have Hr3 := Lib.hid hr3
      clear hr3 hu3
      go_wp2_with fail
      refine (good_any s2 true _ _ Hr3.out).mono ?_
      rintro e w4 ⟨rfl, rfl⟩
      go_wp2
      go_ret3
      exact ⟨rfl, hb3⟩
  · simp only [Prod.mk.injEq] at hr
    obtain ⟨rfl, rfl, rfl⟩ := hr
    go_enter Try.func35, Try.ntmps35
    go_wp2_with fail
    refine (read_any s _).mono ?_
    rintro e w1 ⟨rfl, rfl⟩
    go_wp2_with fail
    refine (readText_any s false 82 1048576 _ _ (read_isRd s w) (by decide) (by decide) hs (by decide) t s1 true Ht.out).mono ?_
    rintro e w2 ⟨rfl, hr2, hu2⟩
    have hz2 := hu2.size
    have hb2 := (((Below.refl w.heap.size w).alloc (Nat.le_refl _) _).trans (upd_below hu2 (by simp) (Nat.le_refl _)))
    have Hr2 := Lib.hid hr2
    clear hr2 hu2
    go_wp2_with fail
    refine (left_bad s1 _ _ Hr2.out).mono ?_
    rintro e w3 ⟨rfl, rfl⟩
    go_wp2_with fail
    refine (readInt_any s1 true 83 4294967295 _ _ Hr2.out (by decide) (by decide) (by omega) (by decide) 0 s1 true (rInt_bad _ _ _)).mono ?_
    rintro e w3 ⟨rfl, hr3, hu3⟩
    have hb3 := hb2.trans (upd_below hu3 hb2.size (Nat.le_refl _))
    have Hr3 := Lib.hid hr3
    clear hr3 hu3
    go_wp2_with fail
    refine (good_any s1 true _ _ Hr3.out).mono ?_
    rintro e w4 ⟨rfl, rfl⟩
    go_wp2
    go_ret3
    exact ⟨rfl, hb3⟩
end Go.Proofs.Ytlkgloakcpfnnaa

/-
  What check.All returns: the bodies taken off one by one, and how many bytes. For texts within the reach.
-/
import Derived.Test.YtlkgloakcpfnnaaCheckPlain
import Derived.Test.YtlkgloakcpfnnaaStrs
namespace Go.Proofs.Ytlkgloakcpfnnaa
open Go.RowKit

theorem rText_bound {c most : Int} {r r' : Rd} {t : List UInt8} (h : rText c most r = (t, r')) : t.length + r'.1.length ≤ r.1.length := by
  unfold rText at h
  split at h
  · split at h
    · injection h with h1 h2
      subst h1 h2
      simp only [List.length_take, List.length_drop, List.length_cons]
      omega
    · injection h with h1 h2
      subst h1 h2
      simp
  · injection h with h1 h2
    subst h1 h2
    simp
theorem rText_taken {c most : Int} {r : Rd} {t s' : List UInt8} (h : rText c most r = (t, s', false)) : t.length + s'.length + 4 ≤ r.1.length := by
  unfold rText at h
  split at h
  · split at h
    · injection h with h1 h2
      injection h2 with h3 h4
      subst h1 h3
      simp only [List.length_take, List.length_drop, List.length_cons]
      omega
    · injection h with h1 h2
      injection h2 with h3 h4
      cases h4
  · rename_i h0
    injection h with h1 h2
    injection h2 with h3 h4
    cases h4
/-- What is taken off: some bytes, no more than there are; or nothing. -/
theorem takeR_cases {s b : List UInt8} {n er : Int} (h : takeR s = (b, n, er)) : (er = 0 ∧ 1 ≤ n ∧ n ≤ s.length ∧ (b.length : Int) ≤ n) ∨ (er = 10 ∧ n = 0 ∧ b = []) := by
  unfold takeR at h
  split at h
  · simp only [Prod.mk.injEq] at h
    obtain ⟨rfl, rfl, rfl⟩ := h
    exact .inr ⟨rfl, rfl, rfl⟩
  · rename_i body s1 ht
    have h1 := rText_taken ht
    simp only [] at h1
    split at h
    · simp only [Prod.mk.injEq] at h
      obtain ⟨rfl, rfl, rfl⟩ := h
      exact .inr ⟨rfl, rfl, rfl⟩
    · rename_i m s2 hi
      have h2 := rInt_left_le hi
      simp only [] at h2
      split at h
      · simp only [Prod.mk.injEq] at h
        obtain ⟨rfl, rfl, rfl⟩ := h
        exact .inl ⟨rfl, by omega, by omega, by omega⟩
      · simp only [Prod.mk.injEq] at h
        obtain ⟨rfl, rfl, rfl⟩ := h
        exact .inr ⟨rfl, rfl, rfl⟩

/-- Records, taken off one by one: k of them at most. -/
def allF : Nat → List UInt8 → List (List UInt8) × Nat
  | 0, _ => ([], 0)
  | k + 1, s => if (takeR s).2.2 = 0 then ((takeR s).1 :: (allF k (s.drop (takeR s).2.1.toNat)).1, (takeR s).2.1.toNat + (allF k (s.drop (takeR s).2.1.toNat)).2) else ([], 0)
def allR (s : List UInt8) : List (List UInt8) × Nat := allF s.length s
theorem allF_enough : ∀ (k j : Nat) (s : List UInt8), s.length ≤ k → k ≤ j → allF j s = allF k s := by
  intro k
  induction k with
  | zero =>
    intro j s hs _
    obtain rfl : s = [] := List.eq_nil_of_length_eq_zero (by omega)
    cases j with
    | zero => rfl
    | succ j => rfl
  | succ k ih =>
    intro j s hs hj
    obtain ⟨j, rfl⟩ : ∃ i, j = i + 1 := ⟨j - 1, by omega⟩
    obtain ⟨⟨b, n, er⟩, ht⟩ : ∃ q, takeR s = q := ⟨_, rfl⟩
    unfold allF
    rw [ht]
    simp only []
    rcases takeR_cases ht with ⟨rfl, h1, h2, _⟩ | ⟨rfl, _, _⟩
    · have := ih j (s.drop n.toNat) (by rw [List.length_drop]; omega) (by omega)
      rw [this]
    · rfl
theorem allR_stop {s b : List UInt8} {n : Int} (h : takeR s = (b, n, 10)) : allR s = ([], 0) := by
  unfold allR
  cases hl : s.length with
  | zero => rfl
  | succ k => unfold allF; rw [h]; rfl
theorem allR_step {s b : List UInt8} {n : Nat} (h : takeR s = (b, (n : Int), 0)) : allR s = (b :: (allR (s.drop n)).1, n + (allR (s.drop n)).2) := by
  rcases takeR_cases h with ⟨_, h1, h2, _⟩ | ⟨h0, _⟩
  · unfold allR
    obtain ⟨k, hl⟩ : ∃ k, s.length = k + 1 := ⟨s.length - 1, by omega⟩
    have hd : (s.drop n).length ≤ k := by rw [List.length_drop]; omega
    have := allF_enough _ k (s.drop n) (Nat.le_refl _) hd
    rw [hl]
    conv => lhs; unfold allF
    rw [h]
    simp only [Int.toNat_natCast, if_true]
    rw [this]
  · exact absurd h0 (by decide)
theorem drop_drop' (s : List UInt8) (m n : Nat) : (s.drop m).drop n = s.drop (m + n) := by rw [List.drop_drop]

set_option maxRecDepth 100000 in
set_option maxHeartbeats 1600000 in
theorem all_any (s : List UInt8) (w : World) (hs : s.length ≤ 16777216) :
    Calls Try.prog 37 #[str s] w fun e w' => ∃ v, e = .returned (.tuple #[v, .int .i64 (allR s).2]) ∧ OwnS w' w.heap.size v (allR s).1 ∧ Below w.heap.size w w' := by
  obtain ⟨i0, hi, hz0, hz1, hz2⟩ := info_parts Try.infoStr
  obtain ⟨⟨R, N⟩, hR⟩ : ∃ q, allR s = q := ⟨_, rfl⟩
  rw [hR]
  have HR := Lib.hid hR
  clear hR
  go_enter Try.func37, Try.ntmps37
  go_wp2
  go_step3
  go_wp2
  go_step3
  go_wp2
  go_loopw [2, 3] (fun b n wr => ∃ (L : List (List UInt8)) (m : Nat), m ≤ s.length ∧ L.length ≤ m ∧ n = .int .i64 m ∧ (L ++ (allR (s.drop m)).1, m + (allR (s.drop m)).2) = (R, N) ∧ OwnS wr w.heap.size b L ∧ Below w.heap.size w wr)
    (fun _ n _ => s.length - (intOf n).toNat)
  case atStart => exact ⟨[], 0, Nat.zero_le _, Nat.zero_le _, rfl, by rw [List.drop_zero, HR.out]; simp, OwnS.none _ _, Below.refl _ _⟩
  case round =>
    obtain ⟨L, m, hm, hLm, rfl, hall, hown, hnx⟩ := hrel
    have Hown := Lib.hid hown
    have hsz := hnx.size
    have hdl : (s.drop m).length = s.length - m := List.length_drop ..
    obtain ⟨⟨b, n, er⟩, ht⟩ : ∃ q, takeR (s.drop m) = q := ⟨_, rfl⟩
    have Ht := Lib.hid ht
    have Hcut := Lib.hid (show List.take (s.length - m) (List.drop m s) = List.drop m s from List.take_of_length_le (by omega))
    rcases takeR_cases ht with ⟨rfl, h1, h2, h3⟩ | ⟨rfl, rfl, rfl⟩
    · obtain ⟨n, rfl⟩ : ∃ k : Nat, n = k := ⟨n.toNat, by omega⟩
      rw [allR_step ht, List.drop_drop] at hall
      have Hall := Lib.hid hall
      clear hall hown ht
      go_wp2_with fail
      rw [Hcut.out]
      refine (take_any (s.drop m) b n 0 _ Ht.out (by omega)).mono ?_
      rintro e w1 ⟨rfl, hb1⟩
      have hb1' := bel_step hnx hb1
      have Hown1 := Lib.hid (Hown.out.step hb1)
      have z1 := hb1'.size
      go_wp2_with (at_builtin; refine wpList_append_own _ rfl _ _ 61 rfl w.heap.size 9 i0 (.string ByteArray.empty) 1 16 Try.underlying61 hi hz0 hz1 hz2 rfl (by decide) _ _ _ rfl (Hown1.out.alloc _) ⟨w1.heap.size, 0, none⟩ 1 1 [str b] rfl rfl (cell_one_new _ _ _) (by simp [Value.oneCell']) (by unfold maxLen; omega) (by omega) (by simp; omega) ?_; intro v' w2 hown' hgrow _)
      have hb2 := (hb1'.alloc z1 (.cells #[str b] 9)).grown hgrow (by simp; omega) (fun k hk => (Hown1.out.lt k hk).1)
      go_roundw
      case rel => exact ⟨L ++ [b], m + n, by omega, by rw [List.length_append]; simp; omega, by go_num, by rw [← Hall.out]; simp [Nat.add_assoc], OwnS.push hown', hb2⟩
      case measure => simp [intOf]; omega
    · rw [allR_stop ht] at hall
      simp only [List.append_nil, Nat.add_zero, Prod.mk.injEq] at hall
      obtain ⟨rfl, rfl⟩ := hall
      clear hown ht
      go_wp2_with fail
      rw [Hcut.out]
      refine (take_any (s.drop m) [] 0 10 _ Ht.out (by omega)).mono ?_
      rintro e w1 ⟨rfl, hb1⟩
      have hb1' := bel_step hnx hb1
      go_wp2
      rw [Exit.noGoto_ret]
      go_ret2
      exact ⟨_, rfl, Hown.out.step hb1, hb1'⟩
end Go.Proofs.Ytlkgloakcpfnnaa

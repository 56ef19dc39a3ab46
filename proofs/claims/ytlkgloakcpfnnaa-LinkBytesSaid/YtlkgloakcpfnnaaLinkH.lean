/-
  What was written of an end is read again, if it may be; else nothing is. Plain Lean; for texts of 40 bytes at most.
-/
import Derived.Test.YtlkgloakcpfnnaaLinkG
namespace Go.Proofs.Ytlkgloakcpfnnaa
open Go.RowKit

theorem rText_over (c most : Int) (s rest : List UInt8) (hs : s.length ≤ 16777215) (hm : most < (s.length : Int)) :
    rText c most (tText c s ++ rest, false) = ([], tText c s ++ rest, true) := by
  unfold tText hd
  simp only [List.cons_append, List.nil_append]
  unfold rText
  simp only []
  have hn := n3_hd s.length (by omega) (by omega)
  rw [hn, if_neg (by omega)]
theorem partB_short {s : List UInt8} (h : partB s = true) : s.length ≤ 32 := by
  unfold partB at h
  exact (of_decide_eq_true h).2.2
theorem checkE_true {n : Int} {a b c : List UInt8} (h : checkE (n, a, b, c) = true) : (n = 1 ∨ n = 2 ∨ n = 3 ∨ n = 4) ∧ a.length ≤ 32 ∧ b.length ≤ 32 ∧ c.length ≤ 32 := by
  by_cases h1 : n = 1
  · subst h1
    rw [checkE_1] at h
    simp only [Bool.and_eq_true, decide_eq_true_eq] at h
    exact ⟨.inl rfl, partB_short h.1.1, partB_short h.1.2, by rw [h.2]; simp⟩
  by_cases h2 : n = 2
  · subst h2
    rw [checkE_2] at h
    simp only [Bool.and_eq_true] at h
    exact ⟨.inr (.inl rfl), partB_short h.1.1, partB_short h.1.2, partB_short h.2⟩
  by_cases h3 : n = 3
  · subst h3
    rw [checkE_3] at h
    simp only [Bool.and_eq_true] at h
    exact ⟨.inr (.inr (.inl rfl)), partB_short h.1.1, partB_short h.1.2, partB_short h.2⟩
  by_cases h4 : n = 4
  · subst h4
    rw [checkE_4] at h
    simp only [Bool.and_eq_true] at h
    exact ⟨.inr (.inr (.inr rfl)), partB_short h.1.1, partB_short h.1.2, partB_short h.2⟩
  rw [checkE_no n a b c h1 h2 h3 h4] at h
  cases h
theorem readE_bad1 {s : List UInt8} {n : Int} {s1 : List UInt8} (h : rInt 115 4 (s, false) = (n, s1, true)) : readE s = (noEn, 10) := by
  unfold readE
  simp only [h, rText_bad]
  rw [if_neg]
  rintro ⟨h, _⟩
  simp [rEnd] at h
theorem readE_bad2 {s : List UInt8} {n : Int} {s1 : List UInt8} {a s2 : List UInt8} (h1 : rInt 115 4 (s, false) = (n, s1, false)) (h : rText 111 32 (s1, false) = (a, s2, true)) : readE s = (noEn, 10) := by
  unfold readE
  simp only [h1, h, rText_bad]
  rw [if_neg]
  rintro ⟨h, _⟩
  simp [rEnd] at h
theorem readE_bad3 {s : List UInt8} {n : Int} {s1 : List UInt8} {a s2 b s3 : List UInt8} (h1 : rInt 115 4 (s, false) = (n, s1, false)) (h2 : rText 111 32 (s1, false) = (a, s2, false)) (h : rText 113 32 (s2, false) = (b, s3, true)) : readE s = (noEn, 10) := by
  unfold readE
  simp only [h1, h2, h, rText_bad]
  rw [if_neg]
  rintro ⟨h, _⟩
  simp [rEnd] at h
theorem readE_bad4 {s : List UInt8} {n : Int} {s1 : List UInt8} {a s2 b s3 c s4 : List UInt8} (h1 : rInt 115 4 (s, false) = (n, s1, false)) (h2 : rText 111 32 (s1, false) = (a, s2, false)) (h3 : rText 113 32 (s2, false) = (b, s3, false)) (h : rText 112 32 (s3, false) = (c, s4, true)) : readE s = (noEn, 10) := by
  unfold readE
  simp only [h1, h2, h3, h]
  rw [if_neg]
  rintro ⟨h, _⟩
  simp [rEnd] at h
theorem bytes_back (n : Int) (a b c : List UInt8) (hn : n ≤ 9223372036854775807) (fa : a.length ≤ 40) (fb : b.length ≤ 40) (fc : c.length ≤ 40) :
    readE (bytesE (n, a, b, c)) = if checkE (n, a, b, c) = true then ((n, a, b, c), 0) else (noEn, 10) := by
  have hT : ∀ (l : Int) (s r : List UInt8), 0 ≤ l → l ≤ 255 → s.length ≤ 32 → rText l 32 (tText l s ++ r, false) = (s, r, false) := fun l s r l0 l1 hs => rText_back l 32 s r l0 l1 (by omega) (by omega)
  have hL : tText 112 c = tText 112 c ++ [] := by simp
  by_cases h4 : 4 < n
  · have hc : ¬ checkE (n, a, b, c) = true := fun h => by have := (checkE_true h).1; omega
    rw [if_neg hc]
    have h1 : rInt 115 4 (bytesE (n, a, b, c), false) = (0, tText 111 a ++ (tText 113 b ++ tText 112 c), true) := by
      unfold bytesE rInt
      rw [rNum_back 115 n.toNat _ (by decide) (by decide) (by omega)]
      simp only []
      rw [if_pos (.inr (by omega))]
    exact readE_bad1 h1
  · have h1 : rInt 115 4 (bytesE (n, a, b, c), false) = ((n.toNat : Int), tText 111 a ++ (tText 113 b ++ tText 112 c), false) := rInt_back 115 4 n.toNat _ (by decide) (by decide) (by omega) (by omega)
    by_cases ha : 32 < a.length
    · rw [if_neg (fun h => by have := (checkE_true h).2.1; omega)]
      exact readE_bad2 h1 (rText_over 111 32 a _ (by omega) (by omega))
    · have h2 := hT 111 a (tText 113 b ++ tText 112 c) (by decide) (by decide) (by omega)
      by_cases hb : 32 < b.length
      · rw [if_neg (fun h => by have := (checkE_true h).2.2.1; omega)]
        exact readE_bad3 h1 h2 (rText_over 113 32 b _ (by omega) (by omega))
      · have h3 := hT 113 b (tText 112 c) (by decide) (by decide) (by omega)
        by_cases hc : 32 < c.length
        · rw [if_neg (fun h => by have := (checkE_true h).2.2.2; omega)]
          exact readE_bad4 h1 h2 h3 (by rw [hL]; exact rText_over 112 32 c [] (by omega) (by omega))
        · have h5 : rText 112 32 (tText 112 c, false) = (c, [], false) := by
            have := hT 112 c [] (by decide) (by decide) (by omega)
            rwa [List.append_nil] at this
          have hr : readE (bytesE (n, a, b, c)) = if checkE ((n.toNat : Int), a, b, c) = true then (((n.toNat : Int), a, b, c), 0) else (noEn, 10) := by
            unfold readE
            simp only [h1, h2, h3, h5]
            simp [rEnd]
          rw [hr]
          by_cases h0 : 0 ≤ n
          · rw [show (n.toNat : Int) = n by omega]
          · rw [if_neg (fun h => by have := (checkE_true h).1; omega), if_neg (fun h => by have := (checkE_true h).1; omega)]
end Go.Proofs.Ytlkgloakcpfnnaa

/-
  What the document's Take and All return: as the program's; and its Same. For texts within the reach.
-/
import Derived.Test.YtlkgloakcpfnnaaCheckAll
namespace Go.Proofs.Ytlkgloakcpfnnaa
open Go.RowKit

/-- What was read off was written so. -/
theorem rText_inv {c most : Int} {s t s' : List UInt8} (h : rText c most (s, false) = (t, s', false)) : s = tText c t ++ s' ∧ (t.length : Int) ≤ most ∧ t.length ≤ 16777215 := by
  unfold rText at h
  split at h
  · rename_i a x y z r h0
    injection h0 with h0 _
    subst h0
    split at h
    · rename_i hc
      obtain ⟨h1, h2, h3⟩ := hc
      injection h with h4 h5
      injection h5 with h5 _
      have hx := UInt8.toNat_lt x
      have hy := UInt8.toNat_lt y
      have hz := UInt8.toNat_lt z
      have hn : n3 x y z = (x.toNat * 256 + y.toNat) * 256 + z.toNat := rfl
      have hlen : (t.length : Int) = n3 x y z := by rw [← h4, List.length_take]; omega
      refine ⟨?_, by omega, by omega⟩
      unfold tText hd
      rw [hlen, ← h4, ← h5, ← h1, byt_of]
      have e1 : byt (n3 x y z / 65536 % 256) = x := by rw [show n3 x y z / 65536 % 256 = (x.toNat : Int) by omega, byt_of]
      have e2 : byt (n3 x y z / 256 % 256) = y := by rw [show n3 x y z / 256 % 256 = (y.toNat : Int) by omega, byt_of]
      have e3 : byt (n3 x y z % 256) = z := by rw [show n3 x y z % 256 = (z.toNat : Int) by omega, byt_of]
      rw [e1, e2, e3]
      simp only [List.cons_append, List.nil_append, List.take_append_drop]
    · injection h with _ h5
      injection h5 with _ h6
      cases h6
  · injection h with _ h5
    injection h5 with _ h6
    cases h6
theorem digs_val_snoc (l : List UInt8) (b : UInt8) (hl : l.length ≤ 7) (hd : digs (val l) = l) (hb : l ≠ [] ∨ b ≠ 0) : digs (val (l ++ [b])) = l ++ [b] := by
  have hv := val_lt _ l rfl
  have hlt : val l < 256 ^ 7 := Nat.lt_of_lt_of_le hv (Nat.pow_le_pow_right (by decide) hl)
  have hbl := UInt8.toNat_lt b
  have h87 : (256 : Nat) ^ 8 = 256 ^ 7 * 256 := rfl
  rw [val_snoc, digs_step _ (by omega), if_neg]
  · rw [show (val l * 256 + b.toNat) / 256 = val l by omega, show (val l * 256 + b.toNat) % 256 = b.toNat by omega, hd]
    simp
  · intro h0
    rcases hb with hb | hb
    · have : val l = 0 := by omega
      rw [this, show digs 0 = [] from digsF_zero 8] at hd
      exact hb hd.symm
    · exact hb (UInt8.toNat_inj.1 (by show b.toNat = 0; omega))
theorem digs_val : ∀ (n : Nat) (l : List UInt8), l.length = n → n ≤ 8 → (∀ b t, l = b :: t → b ≠ 0) → digs (val l) = l := by
  intro n
  induction n with
  | zero =>
    intro l hl _ _
    rw [List.eq_nil_of_length_eq_zero hl]
    exact digsF_zero 8
  | succ n ih =>
    intro l hl hn hb
    rcases List.eq_nil_or_concat l with rfl | ⟨l', b, rfl⟩
    · cases hl
    · rw [List.concat_eq_append] at *
      simp only [List.length_append, List.length_cons, List.length_nil] at hl
      refine digs_val_snoc l' b (by omega) (ih l' (by omega) (by omega) ?_) ?_
      · intro b' t' e
        exact hb b' (t' ++ [b]) (by rw [e]; rfl)
      · rcases l' with _ | ⟨x, t⟩
        · exact .inr (hb b [] rfl)
        · exact .inl (by simp)
theorem rNum_inv {c : Int} {s s' : List UInt8} {n : Nat} (h : rNum c (s, false) = (n, s', false)) : s = tNum c n ++ s' := by
  unfold rNum at h
  obtain ⟨⟨t, s1, b1⟩, ht⟩ : ∃ q, rText c 8 (s, false) = q := ⟨_, rfl⟩
  rw [ht] at h
  rcases t with _ | ⟨b, t⟩
  · simp only [Prod.mk.injEq] at h
    obtain ⟨rfl, rfl, rfl⟩ := h
    exact (rText_inv ht).1
  · simp only [] at h
    split at h
    · injection h with _ h2
      injection h2 with _ h3
      cases h3
    · rename_i h0
      simp only [Prod.mk.injEq] at h
      obtain ⟨rfl, rfl, rfl⟩ := h
      have hi := rText_inv ht
      unfold tNum
      rw [digs_val _ (b :: t) rfl (by have := hi.2.1; omega) (by
        intro b' t' e
        injection e with e1 e2
        rw [← e1]
        exact h0)]
      exact hi.1
theorem rInt_inv {c most n : Int} {s s' : List UInt8} (h : rInt c most (s, false) = (n, s', false)) : s = tNum c n.toNat ++ s' := by
  unfold rInt at h
  obtain ⟨⟨m, s1, b1⟩, ht⟩ : ∃ q, rNum c (s, false) = q := ⟨_, rfl⟩
  rw [ht] at h
  simp only [] at h
  split at h
  · simp at h
  · simp only [Prod.mk.injEq] at h
    obtain ⟨rfl, rfl, rfl⟩ := h
    rw [Int.toNat_natCast]
    exact rNum_inv ht
/-- The record of the body stands ahead, or there is none. -/
theorem take_is {s body s1 : List UInt8} (ht : rText 82 1048576 (s, false) = (body, s1, false)) (h : s.take (tRec body).length = tRec body) : takeR s = (body, ((tRec body).length : Int), 0) := by
  have hi := rText_inv ht
  have := take_back body (s.drop (tRec body).length) (by have := hi.2.1; omega)
  rwa [show tRec body ++ s.drop (tRec body).length = s by conv => rhs; rw [← List.take_append_drop (tRec body).length s, h]] at this
theorem take_isnt {s body s1 : List UInt8} (ht : rText 82 1048576 (s, false) = (body, s1, false)) (h : ¬ s.take (tRec body).length = tRec body) : takeR s = ([], 0, 10) := by
  have hi := rText_inv ht
  unfold takeR
  rw [ht]
  simp only []
  split
  · rfl
  · rename_i n s2 hn
    split
    · rename_i hs
      have hj := rInt_inv hn
      refine absurd ?_ h
      have hl : s.length - s1.length = (tText 82 body).length := by
        conv => lhs; rw [hi.1, List.length_append]
        omega
      rw [hl] at hs
      have hs2 : n = sumN (tText 82 body) := by rw [hs]; congr 1; conv => lhs; rw [hi.1, List.take_left]
      have : s = tRec body ++ s2 := by
        unfold tRec
        rw [List.append_assoc, ← hs2, ← hj]
        exact hi.1
      rw [this, List.take_left]
    · rfl
theorem take_bad {s body s1 : List UInt8} (ht : rText 82 1048576 (s, false) = (body, s1, true)) : takeR s = ([], 0, 10) := by
  unfold takeR
  rw [ht]
end Go.Proofs.Ytlkgloakcpfnnaa

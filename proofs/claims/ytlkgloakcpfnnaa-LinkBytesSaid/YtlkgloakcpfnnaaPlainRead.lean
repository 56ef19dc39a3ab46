/-
  Plain laws of readers: what was written is read again; cut short it is not; what was read off was written so. No conditions beside those in each theorem.
-/
import Derived.Test.YtlkgloakcpfnnaaReadNum
namespace Go.Proofs.Ytlkgloakcpfnnaa
open Go.RowKit

theorem val_digsF : ∀ (k n : Nat), n < 256 ^ k → val (digsF k n) = n := by
  intro k
  induction k with
  | zero => intro n h; simp at h; subst h; rfl
  | succ k ih =>
    intro n h
    unfold digsF
    split
    · subst_vars; rfl
    · rw [val_snoc, ih (n / 256) (by rw [Nat.pow_succ] at h; omega), UInt8.toNat_ofNat']
      omega
theorem val_digs (n : Nat) (h : n < 256 ^ 8) : val (digs n) = n := val_digsF 8 n h
theorem digsF_head : ∀ (k n : Nat) (b : UInt8) (t : List UInt8), n < 256 ^ k → digsF k n = b :: t → b ≠ 0 := by
  intro k
  induction k with
  | zero => intro n b t _ h; simp [digsF] at h
  | succ k ih =>
    intro n b t hn h
    unfold digsF at h
    split at h
    · cases h
    · rename_i h0
      rcases hd : digsF k (n / 256) with _ | ⟨b', t'⟩
      · rw [hd] at h
        have hz : n / 256 = 0 := by
          have := val_digsF k (n / 256) (by rw [Nat.pow_succ] at hn; omega)
          rw [hd] at this
          exact this.symm
        simp only [List.nil_append, List.cons.injEq] at h
        intro hb
        rw [hb] at h
        have := congrArg UInt8.toNat h.1
        rw [UInt8.toNat_ofNat'] at this
        have h00 : (0 : UInt8).toNat = 0 := rfl
        omega
      · rw [hd] at h
        simp only [List.cons_append, List.cons.injEq] at h
        rw [← h.1]
        exact ih (n / 256) b' t' (by rw [Nat.pow_succ] at hn; omega) hd
theorem digs_head {n : Nat} {b : UInt8} {t : List UInt8} (hn : n < 256 ^ 8) (h : digs n = b :: t) : b ≠ 0 := digsF_head 8 n b t hn h

theorem n3_hd (n : Int) (h0 : 0 ≤ n) (h1 : n ≤ 16777215) : n3 (byt (n / 65536 % 256)) (byt (n / 256 % 256)) (byt (n % 256)) = n := by
  unfold n3
  rw [byt_toNat _ (by omega) (by omega), byt_toNat _ (by omega) (by omega), byt_toNat _ (by omega) (by omega)]
  omega
/-- What was written is read again, and what stands behind it is left. -/
theorem rText_back (c most : Int) (s rest : List UInt8) (c0 : 0 ≤ c) (c1 : c ≤ 255) (hs : s.length ≤ 16777215) (hm : (s.length : Int) ≤ most) :
    rText c most (tText c s ++ rest, false) = (s, rest, false) := by
  unfold tText hd
  simp only [List.cons_append, List.nil_append]
  unfold rText
  simp only []
  have hn := n3_hd s.length (by omega) (by omega)
  rw [hn, byt_toNat c c0 c1, if_pos ⟨rfl, hm, by rw [List.length_append]; omega⟩]
  simp
theorem rNum_back (c : Int) (n : Nat) (rest : List UInt8) (c0 : 0 ≤ c) (c1 : c ≤ 255) (hn : n < 256 ^ 8) : rNum c (tNum c n ++ rest, false) = (n, rest, false) := by
  have hl := digs_length n
  unfold rNum tNum
  rw [rText_back c 8 (digs n) rest c0 c1 (by omega) (by omega)]
  rcases hd : digs n with _ | ⟨b, t⟩
  · have : n = 0 := (digs_nil n hn).1 hd
    subst this
    rfl
  · simp only []
    rw [if_neg (digs_head hn hd), ← hd, val_digs n hn]
theorem rInt_back (c most : Int) (n : Nat) (rest : List UInt8) (c0 : 0 ≤ c) (c1 : c ≤ 255) (hn : n < 256 ^ 8) (hm : (n : Int) ≤ most) : rInt c most (tNum c n ++ rest, false) = ((n : Int), rest, false) := by
  unfold rInt
  rw [rNum_back c n rest c0 c1 hn]
  simp only []
  rw [if_neg (by omega)]
theorem rText_bad (c most : Int) (s : List UInt8) : rText c most (s, true) = ([], s, true) := by
  unfold rText
  split
  · rename_i h; injection h with h1 h2; cases h2
  · rename_i h; injection h with h1 h2; subst h1; rfl
theorem rNum_bad (c : Int) (s : List UInt8) : rNum c (s, true) = (0, s, true) := by unfold rNum; rw [rText_bad]
theorem rInt_bad (c most : Int) (s : List UInt8) : rInt c most (s, true) = (0, s, true) := by
  unfold rInt
  rw [rNum_bad]
  simp only []
  split <;> rfl
theorem rInt_bounds {c most n : Int} {r r' : Rd} (h : rInt c most r = (n, r')) : 0 ≤ n ∧ (n ≤ most ∨ n = 0) := by
  obtain ⟨⟨m, r1⟩, ht⟩ : ∃ q, rNum c r = q := ⟨_, rfl⟩
  rw [rInt, ht] at h
  simp only [] at h
  split at h
  · injection h with h1 h2; subst h1; exact ⟨by omega, .inr rfl⟩
  · injection h with h1 h2; subst h1; exact ⟨by omega, .inl (by omega)⟩


set_option maxHeartbeats 400000 in
theorem left_ok (s : List UInt8) (g : Nat) (w : World) (h : IsRd w g (s, false)) :
    Calls Try.prog 56 #[.pointer (some ⟨g, 0, none⟩)] w fun e w' => e = .returned (.int .i64 s.length) ∧ w = w' := by
  have := left_any s false g w h
  simpa using this
theorem left_bad (s : List UInt8) (g : Nat) (w : World) (h : IsRd w g (s, true)) :
    Calls Try.prog 56 #[.pointer (some ⟨g, 0, none⟩)] w fun e w' => e = .returned (.int .i64 0) ∧ w = w' := by
  have := left_any s true g w h
  simpa using this

/-- Cut short it is not read. -/
theorem rText_cut (c most : Int) (s rest : List UInt8) (k : Nat) (hk : k < 4 + s.length) (hs : s.length ≤ 16777215) :
    rText c most ((tText c s ++ rest).take k, false) = ([], (tText c s ++ rest).take k, true) := by
  have hn := n3_hd s.length (by omega) (by omega)
  unfold tText hd
  simp only [List.cons_append, List.nil_append]
  match k with
  | 0 => rfl
  | 1 => rfl
  | 2 => rfl
  | 3 => rfl
  | k + 4 =>
    simp only [List.take_succ_cons]
    unfold rText
    simp only []
    rw [hn, if_neg]
    rintro ⟨_, _, h⟩
    rw [List.length_take] at h
    omega

/-- What was read off was written so. -/
theorem rText_inv {c most : Int} {s t s' : List UInt8} (h : rText c most (s, false) = (t, s', false)) : s = tText c t ++ s' ∧ (t.length : Int) ≤ most ∧ t.length ≤ 16777215 := by
  unfold rText at h
  split at h
  · rename_i a x y z r h0
    injection h0 with h0 _
    subst h0
    split at h
    · rename_i hc
      obtain ⟨h1, h2, h3⟩ := hc
      injection h with h4 h5
      injection h5 with h5 _
      have hx := UInt8.toNat_lt x
      have hy := UInt8.toNat_lt y
      have hz := UInt8.toNat_lt z
      have hn : n3 x y z = (x.toNat * 256 + y.toNat) * 256 + z.toNat := rfl
      have hlen : (t.length : Int) = n3 x y z := by rw [← h4, List.length_take]; omega
      refine ⟨?_, by omega, by omega⟩
      unfold tText hd
      rw [hlen, ← h4, ← h5, ← h1, byt_of]
      have e1 : byt (n3 x y z / 65536 % 256) = x := by rw [show n3 x y z / 65536 % 256 = (x.toNat : Int) by omega, byt_of]
      have e2 : byt (n3 x y z / 256 % 256) = y := by rw [show n3 x y z / 256 % 256 = (y.toNat : Int) by omega, byt_of]
      have e3 : byt (n3 x y z % 256) = z := by rw [show n3 x y z % 256 = (z.toNat : Int) by omega, byt_of]
      rw [e1, e2, e3]
      simp only [List.cons_append, List.nil_append, List.take_append_drop]
    · injection h with _ h5
      injection h5 with _ h6
      cases h6
  · injection h with _ h5
    injection h5 with _ h6
    cases h6
theorem digs_val_snoc (l : List UInt8) (b : UInt8) (hl : l.length ≤ 7) (hd : digs (val l) = l) (hb : l ≠ [] ∨ b ≠ 0) : digs (val (l ++ [b])) = l ++ [b] := by
  have hv := val_lt _ l rfl
  have hlt : val l < 256 ^ 7 := Nat.lt_of_lt_of_le hv (Nat.pow_le_pow_right (by decide) hl)
  have hbl := UInt8.toNat_lt b
  have h87 : (256 : Nat) ^ 8 = 256 ^ 7 * 256 := rfl
  rw [val_snoc, digs_step _ (by omega), if_neg]
  · rw [show (val l * 256 + b.toNat) / 256 = val l by omega, show (val l * 256 + b.toNat) % 256 = b.toNat by omega, hd]
    simp
  · intro h0
    rcases hb with hb | hb
    · have : val l = 0 := by omega
      rw [this, show digs 0 = [] from digsF_zero 8] at hd
      exact hb hd.symm
    · exact hb (UInt8.toNat_inj.1 (by show b.toNat = 0; omega))
theorem digs_val : ∀ (n : Nat) (l : List UInt8), l.length = n → n ≤ 8 → (∀ b t, l = b :: t → b ≠ 0) → digs (val l) = l := by
  intro n
  induction n with
  | zero =>
    intro l hl _ _
    rw [List.eq_nil_of_length_eq_zero hl]
    exact digsF_zero 8
  | succ n ih =>
    intro l hl hn hb
    rcases List.eq_nil_or_concat l with rfl | ⟨l', b, rfl⟩
    · cases hl
    · rw [List.concat_eq_append] at *
      simp only [List.length_append, List.length_cons, List.length_nil] at hl
      refine digs_val_snoc l' b (by omega) (ih l' (by omega) (by omega) ?_) ?_
      · intro b' t' e
        exact hb b' (t' ++ [b]) (by rw [e]; rfl)
      · rcases l' with _ | ⟨x, t⟩
        · exact .inr (hb b [] rfl)
        · exact .inl (by simp)
theorem rNum_inv {c : Int} {s s' : List UInt8} {n : Nat} (h : rNum c (s, false) = (n, s', false)) : s = tNum c n ++ s' := by
  unfold rNum at h
  obtain ⟨⟨t, s1, b1⟩, ht⟩ : ∃ q, rText c 8 (s, false) = q := ⟨_, rfl⟩
  rw [ht] at h
  rcases t with _ | ⟨b, t⟩
  · simp only [Prod.mk.injEq] at h
    obtain ⟨rfl, rfl, rfl⟩ := h
    exact (rText_inv ht).1
  · simp only [] at h
    split at h
    · injection h with _ h2
      injection h2 with _ h3
      cases h3
    · rename_i h0
      simp only [Prod.mk.injEq] at h
      obtain ⟨rfl, rfl, rfl⟩ := h
      have hi := rText_inv ht
      unfold tNum
      rw [digs_val _ (b :: t) rfl (by have := hi.2.1; omega) (by
        intro b' t' e
        injection e with e1 e2
        rw [← e1]
        exact h0)]
      exact hi.1
theorem rInt_inv {c most n : Int} {s s' : List UInt8} (h : rInt c most (s, false) = (n, s', false)) : s = tNum c n.toNat ++ s' := by
  unfold rInt at h
  obtain ⟨⟨m, s1, b1⟩, ht⟩ : ∃ q, rNum c (s, false) = q := ⟨_, rfl⟩
  rw [ht] at h
  simp only [] at h
  split at h
  · simp at h
  · simp only [Prod.mk.injEq] at h
    obtain ⟨rfl, rfl, rfl⟩ := h
    rw [Int.toNat_natCast]
    exact rNum_inv ht
end Go.Proofs.Ytlkgloakcpfnnaa

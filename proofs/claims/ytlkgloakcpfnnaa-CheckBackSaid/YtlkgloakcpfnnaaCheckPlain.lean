/-
  Plain laws of records: what was put is taken again; a byte turned, or cut short, it is not. No program in sight; no conditions beside those in each theorem.
-/
import Derived.Test.YtlkgloakcpfnnaaTake
namespace Go.Proofs.Ytlkgloakcpfnnaa
open Go.RowKit

theorem val_digsF : ∀ (k n : Nat), n < 256 ^ k → val (digsF k n) = n := by
  intro k
  induction k with
  | zero => intro n h; simp at h; subst h; rfl
  | succ k ih =>
    intro n h
    unfold digsF
    split
    · subst_vars; rfl
    · rw [val_snoc, ih (n / 256) (by rw [Nat.pow_succ] at h; omega), UInt8.toNat_ofNat']
      omega
theorem val_digs (n : Nat) (h : n < 256 ^ 8) : val (digs n) = n := val_digsF 8 n h
theorem digsF_head : ∀ (k n : Nat) (b : UInt8) (t : List UInt8), n < 256 ^ k → digsF k n = b :: t → b ≠ 0 := by
  intro k
  induction k with
  | zero => intro n b t _ h; simp [digsF] at h
  | succ k ih =>
    intro n b t hn h
    unfold digsF at h
    split at h
    · cases h
    · rename_i h0
      rcases hd : digsF k (n / 256) with _ | ⟨b', t'⟩
      · rw [hd] at h
        have hz : n / 256 = 0 := by
          have := val_digsF k (n / 256) (by rw [Nat.pow_succ] at hn; omega)
          rw [hd] at this
          exact this.symm
        simp only [List.nil_append, List.cons.injEq] at h
        intro hb
        rw [hb] at h
        have := congrArg UInt8.toNat h.1
        rw [UInt8.toNat_ofNat'] at this
        have h00 : (0 : UInt8).toNat = 0 := rfl
        omega
      · rw [hd] at h
        simp only [List.cons_append, List.cons.injEq] at h
        rw [← h.1]
        exact ih (n / 256) b' t' (by rw [Nat.pow_succ] at hn; omega) hd
theorem digs_head {n : Nat} {b : UInt8} {t : List UInt8} (hn : n < 256 ^ 8) (h : digs n = b :: t) : b ≠ 0 := digsF_head 8 n b t hn h

theorem n3_hd (n : Int) (h0 : 0 ≤ n) (h1 : n ≤ 16777215) : n3 (byt (n / 65536 % 256)) (byt (n / 256 % 256)) (byt (n % 256)) = n := by
  unfold n3
  rw [byt_toNat _ (by omega) (by omega), byt_toNat _ (by omega) (by omega), byt_toNat _ (by omega) (by omega)]
  omega
/-- What was written is read again, and what stands behind it is left. -/
theorem rText_back (c most : Int) (s rest : List UInt8) (c0 : 0 ≤ c) (c1 : c ≤ 255) (hs : s.length ≤ 16777215) (hm : (s.length : Int) ≤ most) :
    rText c most (tText c s ++ rest, false) = (s, rest, false) := by
  unfold tText hd
  simp only [List.cons_append, List.nil_append]
  unfold rText
  simp only []
  have hn := n3_hd s.length (by omega) (by omega)
  rw [hn, byt_toNat c c0 c1, if_pos ⟨rfl, hm, by rw [List.length_append]; omega⟩]
  simp
theorem rNum_back (c : Int) (n : Nat) (rest : List UInt8) (c0 : 0 ≤ c) (c1 : c ≤ 255) (hn : n < 256 ^ 8) : rNum c (tNum c n ++ rest, false) = (n, rest, false) := by
  have hl := digs_length n
  unfold rNum tNum
  rw [rText_back c 8 (digs n) rest c0 c1 (by omega) (by omega)]
  rcases hd : digs n with _ | ⟨b, t⟩
  · have : n = 0 := (digs_nil n hn).1 hd
    subst this
    rfl
  · simp only []
    rw [if_neg (digs_head hn hd), ← hd, val_digs n hn]
theorem rInt_back (c most : Int) (n : Nat) (rest : List UInt8) (c0 : 0 ≤ c) (c1 : c ≤ 255) (hn : n < 256 ^ 8) (hm : (n : Int) ≤ most) : rInt c most (tNum c n ++ rest, false) = ((n : Int), rest, false) := by
  unfold rInt
  rw [rNum_back c n rest c0 c1 hn]
  simp only []
  rw [if_neg (by omega)]
theorem take_back (s rest : List UInt8) (hs : s.length ≤ 1048576) : takeR (tRec s ++ rest) = (s, ((tRec s).length : Int), 0) := by
  have hb := sumN_bounds (tText 82 s)
  unfold takeR tRec
  rw [List.append_assoc, rText_back 82 1048576 s _ (by decide) (by decide) (by omega) (by omega)]
  simp only []
  rw [rInt_back 83 4294967295 _ rest (by decide) (by decide) (sum_lt _) (by rw [sum_toNat]; omega)]
  simp only []
  have hlen : (tText 82 s ++ (tNum 83 (sumN (tText 82 s)).toNat ++ rest)).length - (tNum 83 (sumN (tText 82 s)).toNat ++ rest).length = (tText 82 s).length := by
    simp only [List.length_append]
    omega
  rw [hlen, List.take_left, sum_toNat, if_pos rfl]
  simp only [List.length_append, Prod.mk.injEq, true_and, and_true]
  omega
end Go.Proofs.Ytlkgloakcpfnnaa

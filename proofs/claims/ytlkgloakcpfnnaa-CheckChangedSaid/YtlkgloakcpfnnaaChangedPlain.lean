/-
  Plain laws of records: a byte of the body turned, or cut short, it is none. No program in sight; no conditions beside those in each theorem.
-/
import Derived.Test.YtlkgloakcpfnnaaCheckPlain
namespace Go.Proofs.Ytlkgloakcpfnnaa
open Go.RowKit

/-- The bytes' sum. -/
def bsum : List UInt8 → Int
  | [] => 0
  | b :: l => b.toNat + bsum l
theorem bsum_append : ∀ (a b : List UInt8), bsum (a ++ b) = bsum a + bsum b := by
  intro a
  induction a with
  | nil => intro b; simp [bsum]
  | cons x a ih => intro b; simp only [List.cons_append, bsum, ih]; omega
theorem bsum_set : ∀ (l : List UInt8) (k : Nat) (c : UInt8) (h : k < l.length), bsum (l.set k c) = bsum l - (l[k].toNat : Int) + c.toNat := by
  intro l
  induction l with
  | nil => intro k c h; simp at h
  | cons x l ih =>
    intro k c h
    cases k with
    | zero => simp only [List.set_cons_zero, bsum, List.getElem_cons_zero]; omega
    | succ k =>
      simp only [List.length_cons] at h
      have := ih k c (by omega)
      simp only [List.set_cons_succ, bsum, List.getElem_cons_succ, this]
      omega
theorem foldl_fst : ∀ (l : List UInt8) (p : Int × Int), 0 ≤ p.1 → p.1 ≤ 65520 → (l.foldl addOn p).1 = (p.1 + bsum l) % 65521 := by
  intro l
  induction l with
  | nil => intro p h0 h1; simp only [List.foldl_nil, bsum]; omega
  | cons x l ih =>
    intro p h0 h1
    have hb := addOn_bounds p x
    rw [List.foldl_cons, ih _ hb.1 hb.2.1]
    simp only [addOn, bsum]
    omega
theorem halves_fst (l : List UInt8) : (halves l).1 = (1 + bsum l) % 65521 := foldl_fst l (1, 0) (by decide) (by decide)
theorem sum_turned (p s : List UInt8) (k : Nat) (c : UInt8) (h : k < s.length) (hc : s[k] ≠ c) : sumN (p ++ s) ≠ sumN (p ++ s.set k c) := by
  intro he
  have h1 := halves_fst (p ++ s)
  have h2 := halves_fst (p ++ s.set k c)
  have b1 := halves_bounds (p ++ s)
  have b2 := halves_bounds (p ++ s.set k c)
  rw [bsum_append] at h1 h2
  rw [bsum_set s k c h] at h2
  unfold sumN at he
  have hx := UInt8.toNat_lt s[k]
  have hy := UInt8.toNat_lt c
  have hne : (s[k].toNat : Int) ≠ c.toNat := by
    intro hh
    exact hc (UInt8.toNat_inj.1 (by omega))
  omega
theorem take_turned (s : List UInt8) (k : Nat) (c : UInt8) (h : k < s.length) (hc : s[k] ≠ c) (hs : s.length ≤ 1048576) : takeR ((tRec s).set (4 + k) c) = ([], 0, 10) := by
  have hb := sumN_bounds (tText 82 s)
  have e : (tRec s).set (4 + k) c = tText 82 (s.set k c) ++ (tNum 83 (sumN (tText 82 s)).toNat ++ []) := by
    unfold tRec
    rw [List.append_nil, List.set_append_left _ _ (by rw [tText_length]; omega)]
    congr 1
    unfold tText
    rw [List.set_append_right _ _ (by rw [hd_length]; omega), hd_length, List.length_set, show 4 + k - 4 = k by omega]
  have hne := sum_turned (Proofs.Ytlkgloakcpfnnaa.hd 82 s.length) s k c h hc
  unfold takeR
  rw [e, rText_back 82 1048576 _ _ (by decide) (by decide) (by rw [List.length_set]; omega) (by rw [List.length_set]; omega)]
  simp only []
  rw [rInt_back 83 4294967295 _ [] (by decide) (by decide) (sum_lt _) (by rw [sum_toNat]; omega)]
  simp only []
  rw [List.append_nil]
  have hlen : (tText 82 (s.set k c) ++ tNum 83 (sumN (tText 82 s)).toNat).length - (tNum 83 (sumN (tText 82 s)).toNat).length = (tText 82 (s.set k c)).length := by
    rw [List.length_append]
    omega
  rw [hlen, List.take_left, sum_toNat, if_neg]
  intro hh
  apply hne
  have : tText 82 (s.set k c) = Proofs.Ytlkgloakcpfnnaa.hd 82 s.length ++ s.set k c := by unfold tText; rw [List.length_set]
  rw [this] at hh
  exact hh
/-- Cut short it is not read. -/
theorem rText_cut (c most : Int) (s rest : List UInt8) (k : Nat) (hk : k < 4 + s.length) (hs : s.length ≤ 16777215) :
    rText c most ((tText c s ++ rest).take k, false) = ([], (tText c s ++ rest).take k, true) := by
  have hn := n3_hd s.length (by omega) (by omega)
  unfold tText hd
  simp only [List.cons_append, List.nil_append]
  match k with
  | 0 => rfl
  | 1 => rfl
  | 2 => rfl
  | 3 => rfl
  | k + 4 =>
    simp only [List.take_succ_cons]
    unfold rText
    simp only []
    rw [hn, if_neg]
    rintro ⟨_, _, h⟩
    rw [List.length_take] at h
    omega
theorem take_short (s : List UInt8) (k : Nat) (hk : k < s.length) (hs : s.length ≤ 1048576) : takeR ((tRec s).take k) = ([], 0, 10) := by
  unfold takeR tRec
  rw [rText_cut 82 1048576 s _ k (by omega) (by omega)]

theorem xor_u8 (b : UInt8) (t : Int) (h0 : 0 ≤ t) (h1 : t ≤ 255) : bits BinOp.xor IntKind.u8 (b.toNat : Int) t = ((b ^^^ byt t).toNat : Int) := by
  obtain ⟨n, rfl⟩ := Int.eq_ofNat_of_zero_le h0
  have hn : n < 256 := by omega
  have hb := UInt8.toNat_lt b
  show IntKind.u8.wrap ((BitVec.ofInt 8 (b.toNat : Int) ^^^ BitVec.ofInt 8 (n : Int)).toNat : Nat) = _
  have e : (b ^^^ byt (n : Int)).toNat = b.toNat ^^^ n := by
    rw [UInt8.toNat_xor]
    have := byt_toNat n h0 h1
    have : (byt (n : Int)).toNat = n := by omega
    rw [this]
  have hx : b.toNat ^^^ n < 256 := Nat.xor_lt_two_pow (n := 8) (by omega) (by omega)
  rw [BitVec.toNat_xor, BitVec.toNat_ofInt, BitVec.toNat_ofInt, e]
  have a1 : (((b.toNat : Nat) : Int) % ((2 ^ 8 : Nat) : Int)).toNat = b.toNat := by omega
  have a2 : (((n : Nat) : Int) % ((2 ^ 8 : Nat) : Int)).toNat = n := by omega
  rw [a1, a2, IntKind.wrap_u8]
  omega
theorem xor_ne (b t : UInt8) (h : t ≠ 0) : b ≠ b ^^^ t := by
  intro he
  apply h
  have h2 : b ^^^ b = b ^^^ (b ^^^ t) := congrArg (b ^^^ ·) he
  rw [← UInt8.xor_assoc, UInt8.xor_self, UInt8.zero_xor] at h2
  exact h2.symm
end Go.Proofs.Ytlkgloakcpfnnaa

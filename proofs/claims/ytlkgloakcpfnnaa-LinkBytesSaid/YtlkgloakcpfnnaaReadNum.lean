/-
  What tlv.Read, (*tlv.Reader).Num and Int return, and how they leave the reader. For readers that are not nil, of texts within the reach.
-/
import Derived.Test.YtlkgloakcpfnnaaReadText
namespace Go.Proofs.Ytlkgloakcpfnnaa
open Go.RowKit

/-- The number of bytes. -/
def val (l : List UInt8) : Nat := l.foldl (fun n b => n * 256 + b.toNat) 0
theorem val_snoc (l : List UInt8) (b : UInt8) : val (l ++ [b]) = val l * 256 + b.toNat := by simp [val, List.foldl_append]
theorem val_lt : ∀ (k : Nat) (l : List UInt8), l.length = k → val l < 256 ^ k := by
  intro k
  induction k with
  | zero => intro l h; have := List.eq_nil_of_length_eq_zero h; subst this; simp [val]
  | succ k ih =>
    intro l h
    rcases List.eq_nil_or_concat l with rfl | ⟨l, b, rfl⟩
    · simp at h
    · rw [List.concat_eq_append] at h ⊢
      rw [val_snoc, Nat.pow_succ]
      have h1 := ih l (by simpa using h)
      have h2 := b.toNat_lt
      omega
theorem rText_le {c most : Int} {r r' : Rd} {t : List UInt8} (h : rText c most r = (t, r')) (hm : 0 ≤ most) : (t.length : Int) ≤ most := by
  unfold rText at h
  split at h
  · rename_i a x y z s
    split at h
    · rename_i hh
      injection h with h1 h2
      subst h1
      have := List.length_take_le (n3 x y z).toNat s
      have h0 : 0 ≤ n3 x y z := by unfold n3; omega
      omega
    · injection h with h1 h2; subst h1; simpa using hm
  · injection h with h1 h2; subst h1; simpa using hm
theorem rText_left_le {c most : Int} {r r' : Rd} {t : List UInt8} (h : rText c most r = (t, r')) : r'.1.length ≤ r.1.length := by
  unfold rText at h
  split at h
  · split at h
    · injection h with h1 h2; subst h2; simp; omega
    · injection h with h1 h2; subst h2; simp
  · injection h with h1 h2; subst h2; simp

/-- A number, taken off. -/
def rNum (c : Int) (r : Rd) : Nat × Rd :=
  match rText c 8 r with
  | ([], r') => (0, r')
  | (b :: t, s', b') => if b = 0 then (0, s', true) else (val (b :: t), s', b')

theorem u64_or8 (x : Nat) (y : UInt8) (hx : x < 256 ^ 7) : bits BinOp.or IntKind.u64 ((x : Int) * 256) (y.toNat : Int) = ((x * 256 + y.toNat : Nat) : Int) := by
  have hy := y.toNat_lt
  have h7 : (256 : Nat) ^ 7 = 72057594037927936 := rfl
  have h := u64_or_nat (x * 256) y.toNat (by omega) (by omega)
  rw [show x * 256 ||| y.toNat = x * 256 + y.toNat from by
    have := Nat.two_pow_add_eq_or_of_lt (b := y.toNat) (i := 8) (by omega) x
    rw [Nat.mul_comm]
    exact this.symm] at h
  rw [show ((x : Int) * 256) = ((x * 256 : Nat) : Int) by omega, h]

set_option maxHeartbeats 400000 in
theorem read_any (s : List UInt8) (w : World) :
    Calls Try.prog 54 #[str s] w fun e w' => e = .returned (.pointer (some ⟨w.heap.size, 0, none⟩)) ∧ w.alloc (.cells #[str s, .bool false] 92) = w' := by
  go_enter Try.func54, Try.ntmps54
  go_wp2
  go_ret
  exact ⟨rfl, rfl⟩
theorem read_isRd (s : List UInt8) (w : World) : IsRd (w.alloc (.cells #[str s, .bool false] 92)) w.heap.size (s, false) := Blk.new w _ _

set_option maxRecDepth 100000 in
set_option maxHeartbeats 1600000 in
theorem readNum_any (s : List UInt8) (b : Bool) (c : Int) (g : Nat) (w : World) (h : IsRd w g (s, b)) (c0 : 0 ≤ c) (c1 : c ≤ 255) (hs : s.length ≤ 140737488351232)
    (n : Nat) (s' : List UInt8) (b' : Bool) (hr : rNum c (s, b) = (n, s', b')) :
    Calls Try.prog 73 #[.pointer (some ⟨g, 0, none⟩), .int .u8 c] w fun e w' => e = .returned (.int .u64 n) ∧ IsRd w' g (s', b') ∧ w.grownBy w' (some g) := by
  obtain ⟨⟨t, s1, b1⟩, ht⟩ : ∃ q, rText c 8 (s, b) = q := ⟨_, rfl⟩
  have hl := rText_le ht (by decide)
  have Ht := Lib.hid ht
  have H := Lib.hid h
  rw [rNum, ht] at hr
  have Hr := Lib.hid hr
  clear ht hr h
  go_enter Try.func73, Try.ntmps73
  go_wp2_with fail
  refine (readText_any s b c 8 g _ H.out c0 c1 hs (by decide) t s1 b1 Ht.out).mono ?_
  rintro e w1 ⟨rfl, hr1, hu1⟩
  have Hr1 := Lib.hid hr1
  clear hr1
  go_wp2_with fail
  go_loop [6, 13] (fun a i => ∃ k : Nat, k ≤ t.length ∧ i = .int .i64 k ∧ a = .int .u64 (val (t.take k) : Nat)) (fun _ i => t.length - (intOf i).toNat)
  case atStart => exact ⟨0, Nat.zero_le _, rfl, rfl⟩
  case round =>
    obtain ⟨k, hk, rfl, rfl⟩ := hrel
    by_cases hlt : k < t.length
    · have hv : val (t.take k) < 256 ^ 7 := Nat.lt_of_lt_of_le (val_lt k _ (by simp; omega)) (Nat.pow_le_pow_right (by decide) (by omega))
      have hvi : ((val (t.take k) : Nat) : Int) ≤ 72057594037927935 := by have h7 : (256 : Nat) ^ 7 = 72057594037927936 := rfl; omega
      have hor := u64_or8 (val (t.take k)) t[k] hv
      have hts : t.take (k + 1) = t.take k ++ [t[k]] := by rw [List.take_succ_eq_append_getElem hlt]
      have Hts := Lib.hid hts
      have hb8 : (t[k].toNat : Int) < 256 := by have := t[k].toNat_lt; omega
      clear hv hts
      go_wp2
      go_round
      case rel => exact ⟨k + 1, by omega, by go_num, by rw [Hts.out, val_snoc]; go_num⟩
      case measure => simp [intOf]; omega
    · obtain rfl : k = t.length := by omega
      rw [List.take_length]
      cases t with
      | nil =>
        have hr := Hr.out
        simp only [Prod.mk.injEq] at hr
        obtain ⟨rfl, rfl, rfl⟩ := hr
        go_wp2
        go_ret
        exact ⟨rfl, Hr1.out, hu1⟩
      | cons x t =>
        by_cases hx : (x.toNat : Int) = 0
        · have hr := Hr.out
          simp only [] at hr
          rw [if_pos (UInt8.toNat_inj.1 (by simpa using hx))] at hr
          simp only [Prod.mk.injEq] at hr
          obtain ⟨rfl, rfl, rfl⟩ := hr
          go_wp2_with fail
          refine (fails_any s1 b1 g _ Hr1.out).mono ?_
          rintro e w2 ⟨rfl, hr2, hu2⟩
          go_wp2
          go_ret
          exact ⟨rfl, hr2, upd_trans hu1 hu2⟩
        · have hr := Hr.out
          simp only [] at hr
          rw [if_neg (fun h => hx (by rw [h]; rfl))] at hr
          simp only [Prod.mk.injEq] at hr
          obtain ⟨rfl, rfl, rfl⟩ := hr
          go_wp2
          go_ret
          exact ⟨rfl, Hr1.out, hu1⟩

theorem rNum_lt {c : Int} {r r' : Rd} {n : Nat} (h : rNum c r = (n, r')) : n < 256 ^ 8 := by
  unfold rNum at h
  split at h
  · injection h with h1 h2; subst h1; decide
  · rename_i b t s' b' hh
    have hl := rText_le hh (by decide)
    split at h
    · injection h with h1 h2; subst h1; decide
    · injection h with h1 h2
      subst h1
      exact Nat.lt_of_lt_of_le (val_lt (b :: t).length _ rfl) (Nat.pow_le_pow_right (by decide) (by omega))
/-- An int that is not above another one, taken off. -/
def rInt (c most : Int) (r : Rd) : Int × Rd :=
  let (n, r') := rNum c r
  if most < 0 ∨ most < (n : Int) then (0, r'.1, true) else ((n : Int), r')

set_option maxRecDepth 100000 in
set_option maxHeartbeats 1600000 in
theorem readInt_any (s : List UInt8) (b : Bool) (c most : Int) (g : Nat) (w : World) (h : IsRd w g (s, b)) (c0 : 0 ≤ c) (c1 : c ≤ 255) (hs : s.length ≤ 140737488351232) (hm : most ≤ 9223372036854775807)
    (n : Int) (s' : List UInt8) (b' : Bool) (hr : rInt c most (s, b) = (n, s', b')) :
    Calls Try.prog 57 #[.pointer (some ⟨g, 0, none⟩), .int .u8 c, .int .i64 most] w fun e w' => e = .returned (.int .i64 n) ∧ IsRd w' g (s', b') ∧ w.grownBy w' (some g) := by
  obtain ⟨⟨m, s1, b1⟩, ht⟩ : ∃ q, rNum c (s, b) = q := ⟨_, rfl⟩
  have hl := rNum_lt ht
  have hl' : (m : Int) ≤ 18446744073709551615 := by have h8 : (256 : Nat) ^ 8 = 18446744073709551616 := rfl; omega
  have Ht := Lib.hid ht
  have H := Lib.hid h
  rw [rInt, ht] at hr
  simp only [] at hr
  clear ht h hl
  by_cases h1 : most < 0
  · rw [if_pos (.inl h1)] at hr
    simp only [Prod.mk.injEq] at hr
    obtain ⟨rfl, rfl, rfl⟩ := hr
    go_enter Try.func57, Try.ntmps57
    go_wp2_with fail
    refine (readNum_any s b c g _ H.out c0 c1 hs m s1 b1 Ht.out).mono ?_
    rintro e w1 ⟨rfl, hr1, hu1⟩
    go_wp2_with fail
    refine (fails_any s1 b1 g _ hr1).mono ?_
    rintro e w2 ⟨rfl, hr2, hu2⟩
    go_wp2
    go_ret
    exact ⟨rfl, hr2, upd_trans hu1 hu2⟩
  · have h0 : 0 ≤ most := by omega
    by_cases h2 : most < (m : Int)
    · rw [if_pos (.inr h2)] at hr
      simp only [Prod.mk.injEq] at hr
      obtain ⟨rfl, rfl, rfl⟩ := hr
      go_enter Try.func57, Try.ntmps57
      go_wp2_with fail
      refine (readNum_any s b c g _ H.out c0 c1 hs m s1 b1 Ht.out).mono ?_
      rintro e w1 ⟨rfl, hr1, hu1⟩
      go_wp2_with fail
      refine (fails_any s1 b1 g _ hr1).mono ?_
      rintro e w2 ⟨rfl, hr2, hu2⟩
      go_wp2
      go_ret
      exact ⟨rfl, hr2, upd_trans hu1 hu2⟩
    · rw [if_neg (by omega)] at hr
      simp only [Prod.mk.injEq] at hr
      obtain ⟨rfl, rfl, rfl⟩ := hr
      go_enter Try.func57, Try.ntmps57
      go_wp2_with fail
      refine (readNum_any s b c g _ H.out c0 c1 hs m s1 b1 Ht.out).mono ?_
      rintro e w1 ⟨rfl, hr1, hu1⟩
      go_wp2
      go_ret
      exact ⟨rfl, hr1, hu1⟩
theorem rNum_left_le {c : Int} {r r' : Rd} {n : Nat} (h : rNum c r = (n, r')) : r'.1.length ≤ r.1.length := by
  unfold rNum at h
  split at h
  · rename_i hh
    injection h with h1 h2; subst h2; exact rText_left_le hh
  · rename_i hh
    have := rText_left_le hh
    split at h <;> (injection h with h1 h2; subst h2; exact this)
theorem rInt_left_le {c most : Int} {r r' : Rd} {n : Int} (h : rInt c most r = (n, r')) : r'.1.length ≤ r.1.length := by
  obtain ⟨⟨m, r1⟩, ht⟩ : ∃ q, rNum c r = q := ⟨_, rfl⟩
  have := rNum_left_le ht
  rw [rInt, ht] at h
  simp only [] at h
  split at h <;> (injection h with h1 h2; subst h2; exact this)
end Go.Proofs.Ytlkgloakcpfnnaa

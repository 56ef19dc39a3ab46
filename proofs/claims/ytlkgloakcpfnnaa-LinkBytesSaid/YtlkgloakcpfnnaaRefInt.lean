/-
  What the methods Num, Int and End of the document's own reader return, and how they leave it. For texts within the reach.
-/
import Derived.Test.YtlkgloakcpfnnaaRefReader
import Derived.Test.YtlkgloakcpfnnaaRefNum
import Derived.Test.YtlkgloakcpfnnaaPlainRead
namespace Go.Proofs.Ytlkgloakcpfnnaa
open Go.RowKit

theorem rText_empty {c most : Int} {r : Rd} {t s' : List UInt8} (h : rText c most r = (t, s', true)) : t = [] := by
  unfold rText at h
  split at h
  · split at h
    · injection h with _ h2; injection h2 with _ h3; cases h3
    · injection h with h1 _; exact h1.symm
  · injection h with h1 _; exact h1.symm
theorem rNum_zero {c : Int} {r : Rd} {n : Nat} {s' : List UInt8} (h : rNum c r = (n, s', true)) : n = 0 := by
  unfold rNum at h
  split at h
  · injection h with h1 _; exact h1.symm
  · rename_i hh
    split at h
    · injection h with h1 _; exact h1.symm
    · injection h with h1 h2
      injection h2 with h2 h3
      subst h3
      cases rText_empty hh
theorem digs_is {b : UInt8} {t : List UInt8} (hl : (b :: t).length ≤ 8) : (digs (val (b :: t)) = b :: t) ↔ b ≠ 0 := by
  constructor
  · intro h
    exact digs_head (Nat.lt_of_lt_of_le (val_lt (b :: t).length _ rfl) (Nat.pow_le_pow_right (by decide) hl)) h
  · intro h
    exact digs_val _ (b :: t) rfl hl (fun b' t' he => by injection he with h1 _; rw [← h1]; exact h)

set_option maxRecDepth 100000 in
set_option maxHeartbeats 1600000 in
theorem refReadNum_any (s : List UInt8) (b : Bool) (c : Int) (g : Nat) (w : World) (h : IsRR w g (s, b)) (c0 : 0 ≤ c) (c1 : c ≤ 255) (hs : s.length ≤ 140737488351232)
    (n : Nat) (s' : List UInt8) (b' : Bool) (hr : rNum c (s, b) = (n, s', b')) :
    Calls Try.prog 74 #[.pointer (some ⟨g, 0, none⟩), .int .u8 c] w fun e w' => e = .returned (.int .u64 n) ∧ IsRR w' g (s', b') ∧ w.grownBy w' (some g) := by
  obtain ⟨⟨t, s1, b1⟩, ht⟩ : ∃ q, rText c 8 (s, b) = q := ⟨_, rfl⟩
  have hl := rText_le ht (by decide)
  have Ht := Lib.hid ht
  have H := Lib.hid h
  rw [rNum, ht] at hr
  have Hr := Lib.hid hr
  clear ht hr h
  go_enter Try.func74, Try.ntmps74
  go_wp2_with fail
  refine (refReadText_any s b c 8 g _ H.out c0 c1 hs (by decide) t s1 b1 Ht.out).mono ?_
  rintro e w1 ⟨rfl, hr1, hu1⟩
  have Hr1 := Lib.hid hr1
  clear hr1
  go_wp2_with fail
  go_loop [6, 7] (fun a i => ∃ k : Nat, k ≤ t.length ∧ i = .int .i64 k ∧ a = .int .u64 (val (t.take k) : Nat)) (fun _ i => t.length - (intOf i).toNat)
  case atStart => exact ⟨0, Nat.zero_le _, rfl, rfl⟩
  case round =>
    obtain ⟨k, hk, rfl, rfl⟩ := hrel
    by_cases hlt : k < t.length
    · have hv : val (t.take k) < 256 ^ 7 := Nat.lt_of_lt_of_le (val_lt k _ (by simp; omega)) (Nat.pow_le_pow_right (by decide) (by omega))
      have hvi : ((val (t.take k) : Nat) : Int) ≤ 72057594037927935 := by have h7 : (256 : Nat) ^ 7 = 72057594037927936 := rfl; omega
      have hts : t.take (k + 1) = t.take k ++ [t[k]] := by rw [List.take_succ_eq_append_getElem hlt]
      have Hts := Lib.hid hts
      have hb8 : (t[k].toNat : Int) < 256 := by have := t[k].toNat_lt; omega
      clear hv hts
      go_wp2
      go_round
      case rel => exact ⟨k + 1, by omega, by go_num, by rw [Hts.out, val_snoc]; go_num⟩
      case measure => simp [intOf]; omega
    · obtain rfl : k = t.length := by omega
      rw [List.take_length]
      have hv8 : val t < 256 ^ 8 := Nat.lt_of_lt_of_le (val_lt t.length _ rfl) (Nat.pow_le_pow_right (by decide) (by omega))
      have Hv8 := Lib.hid hv8
      clear hv8
      obtain ⟨d0, d1, f0, f1⟩ := rr_cells Hr1.out
      cases t with
      | nil =>
        have hr := Hr.out
        simp only [Prod.mk.injEq] at hr
        obtain ⟨rfl, rfl, rfl⟩ := hr
        clear d0 d1 f0 f1
        go_wp2_with fail
        refine (refDigits_any 0 _ (by decide)).mono ?_
        rw [show digs 0 = [] from digsF_zero 8]
        rintro e w2 ⟨rfl, hb2⟩
        have Hr2 := Lib.hid (Blk.step Hr1.out hb2)
        have hu2 := upd_trans hu1 (upd_of_below hb2 (some g))
        clear hb2
        go_wp2
        go_ret
        exact ⟨rfl, Hr2.out, hu2⟩
      | cons x t =>
        by_cases hx : x = 0
        · have hr := Hr.out
          simp only [] at hr
          rw [if_pos hx] at hr
          simp only [Prod.mk.injEq] at hr
          obtain ⟨rfl, rfl, rfl⟩ := hr
          have hne : (digs (val (x :: t)) != x :: t) = true := by
            rw [bne_iff_ne]
            exact fun h => (digs_is (by omega)).1 h hx
          obtain ⟨D, hD⟩ : ∃ D, digs (val (x :: t)) = D := ⟨_, rfl⟩
          rw [hD] at hne
          have hne2 : (D == x :: t) = false := by simpa using hne
          have HD := Lib.hid hD
          clear hD hx d0 d1 f0 f1
          go_wp2_with fail
          refine (refDigits_any _ _ Hv8.out).mono ?_
          rw [HD.out]
          rintro e w2 ⟨rfl, hb2⟩
          have Hr2 := Lib.hid (Blk.step Hr1.out hb2)
          have hu2 := upd_trans hu1 (upd_of_below hb2 (some g))
          obtain ⟨d0, d1, f0, f1⟩ := rr_cells Hr2.out
          clear hb2
          go_wp2
          go_ret
          exact ⟨rfl, Blk.set_ Hr2.out 1 _, upd_trans hu2 (upd_set _ g 1 _)⟩
        · have hr := Hr.out
          simp only [] at hr
          rw [if_neg hx] at hr
          simp only [Prod.mk.injEq] at hr
          obtain ⟨rfl, rfl, rfl⟩ := hr
          have HD := Lib.hid ((digs_is (b := x) (t := t) (by omega)).2 hx)
          clear hx d0 d1 f0 f1
          go_wp2_with fail
          refine (refDigits_any _ _ Hv8.out).mono ?_
          rw [HD.out]
          rintro e w2 ⟨rfl, hb2⟩
          have Hr2 := Lib.hid (Blk.step Hr1.out hb2)
          have hu2 := upd_trans hu1 (upd_of_below hb2 (some g))
          clear hb2
          go_wp2
          go_ret
          exact ⟨rfl, Hr2.out, hu2⟩

set_option maxHeartbeats 800000 in
theorem refEnd_any (s : List UInt8) (b : Bool) (g : Nat) (w : World) (h : IsRR w g (s, b)) :
    Calls Try.prog 62 #[.pointer (some ⟨g, 0, none⟩)] w fun e w' => e = .returned (.int .i64 (rEnd (s, b))) ∧ w = w' := by
  have H := Lib.hid h
  obtain ⟨c0, c1, f0, f1⟩ := rr_cells h
  clear h
  cases b
  · cases s
    all_goals
      go_enter Try.func62, Try.ntmps62
      go_wp2
      go_ret
      exact ⟨by simp [rEnd], rfl⟩
  · go_enter Try.func62, Try.ntmps62
    go_wp2
    go_ret
    exact ⟨by simp [rEnd], rfl⟩

set_option maxRecDepth 100000 in
set_option maxHeartbeats 1600000 in
theorem refReadInt_any (s : List UInt8) (b : Bool) (c most : Int) (g : Nat) (w : World) (h : IsRR w g (s, b)) (c0 : 0 ≤ c) (c1 : c ≤ 255) (hs : s.length ≤ 140737488351232) (hm : most ≤ 9223372036854775807)
    (n : Int) (s' : List UInt8) (b' : Bool) (hr : rInt c most (s, b) = (n, s', b')) :
    Calls Try.prog 61 #[.pointer (some ⟨g, 0, none⟩), .int .u8 c, .int .i64 most] w fun e w' => e = .returned (.int .i64 n) ∧ IsRR w' g (s', b') ∧ w.grownBy w' (some g) := by
  obtain ⟨⟨m, s1, b1⟩, ht⟩ : ∃ q, rNum c (s, b) = q := ⟨_, rfl⟩
  have hl := rNum_lt ht
  have hl' : (m : Int) ≤ 18446744073709551615 := by have h8 : (256 : Nat) ^ 8 = 18446744073709551616 := rfl; omega
  have Ht := Lib.hid ht
  have H := Lib.hid h
  rw [rInt, ht] at hr
  simp only [] at hr
  clear ht h hl
  by_cases h1 : most < 0 ∨ most < (m : Int)
  · rw [if_pos h1] at hr
    simp only [Prod.mk.injEq] at hr
    obtain ⟨rfl, rfl, rfl⟩ := hr
    by_cases h2 : most < 0
    all_goals
      have h3 : most < 0 ∨ 0 ≤ most := by omega
      have h4 : most < 0 ∨ most < (m : Int) := h1
      clear h1
      go_enter Try.func61, Try.ntmps61
    · clear h3 h4
      go_wp2_with fail
      refine (refReadNum_any s b c g _ H.out c0 c1 hs m s1 b1 Ht.out).mono ?_
      rintro e w1 ⟨rfl, hr1, hu1⟩
      obtain ⟨d0, d1, f0, f1⟩ := rr_cells hr1
      have HR1 := Lib.hid hr1
      clear hr1
      go_wp2
      go_ret
      exact ⟨rfl, Blk.set_ HR1.out 1 _, upd_trans hu1 (upd_set _ g 1 _)⟩
    · have h5 : 0 ≤ most := by omega
      have h6 : most < (m : Int) := by omega
      clear h2 h3 h4
      go_wp2_with fail
      refine (refReadNum_any s b c g _ H.out c0 c1 hs m s1 b1 Ht.out).mono ?_
      rintro e w1 ⟨rfl, hr1, hu1⟩
      obtain ⟨d0, d1, f0, f1⟩ := rr_cells hr1
      have HR1 := Lib.hid hr1
      clear hr1
      go_wp2
      go_ret
      exact ⟨rfl, Blk.set_ HR1.out 1 _, upd_trans hu1 (upd_set _ g 1 _)⟩
  · rw [if_neg h1] at hr
    simp only [Prod.mk.injEq] at hr
    obtain ⟨rfl, rfl, rfl⟩ := hr
    have h0 : 0 ≤ most := by omega
    have h2 : (m : Int) ≤ most := by omega
    clear h1
    cases b1
    · go_enter Try.func61, Try.ntmps61
      go_wp2_with fail
      refine (refReadNum_any s b c g _ H.out c0 c1 hs m s1 false Ht.out).mono ?_
      rintro e w1 ⟨rfl, hr1, hu1⟩
      obtain ⟨d0, d1, f0, f1⟩ := rr_cells hr1
      have HR1 := Lib.hid hr1
      clear hr1
      go_wp2
      go_ret
      exact ⟨rfl, HR1.out, hu1⟩
    · obtain rfl : m = 0 := rNum_zero Ht.out
      go_enter Try.func61, Try.ntmps61
      go_wp2_with fail
      refine (refReadNum_any s b c g _ H.out c0 c1 hs 0 s1 true Ht.out).mono ?_
      rintro e w1 ⟨rfl, hr1, hu1⟩
      obtain ⟨d0, d1, f0, f1⟩ := rr_cells hr1
      have HR1 := Lib.hid hr1
      clear hr1
      go_wp2
      go_ret
      exact ⟨rfl, HR1.out, hu1⟩
end Go.Proofs.Ytlkgloakcpfnnaa

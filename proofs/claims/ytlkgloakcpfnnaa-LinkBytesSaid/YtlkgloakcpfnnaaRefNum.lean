/-
  What the reference Text, digits and Num return: the same fields. No conditions beside those in each theorem.
-/
import Derived.Test.YtlkgloakcpfnnaaTlvNum
namespace Go.Proofs.Ytlkgloakcpfnnaa
open Go.RowKit

set_option maxHeartbeats 400000 in
theorem refText_any (c : Int) (s : List UInt8) (w : World) (c0 : 0 ≤ c) (c1 : c ≤ 255) (hs : s.length ≤ 16777215) :
    Calls Try.prog 65 #[.int .u8 c, str s] w fun e w' => e = .returned (str (tText c s)) ∧ Below w.heap.size w w' := by
  have kc := run_str_head (P := Try.prog) w 24 9 5 5 c s.length c0 c1 Try.underlying24 Try.underlying5 Try.underlying9
  have h2 : (s.length : Int) / 65536 % 256 = s.length / 65536 := by omega
  rw [h2] at kc
  clear h2
  go_enter Try.func65, Try.ntmps65
  go_wp2
  go_ret
  exact ⟨rfl, (Below.refl _ _).alloc (Nat.le_refl _) _⟩

theorem run_str_one {P : Program} (w : World) (src dst e t : TypeId) (n : Int) (n0 : 0 ≤ n) (n1 : n ≤ 255)
    (hs : P.underlying src = some (.slice e)) (he : P.underlying e = some (.int .u8)) (hd : P.underlying dst = some .string) :
    (convert src dst (.slice (some ⟨w.heap.size, 0, none⟩) 1 1)).run P (w.alloc (.cells #[.int .u8 n] t)) = .ok (.string ⟨[byt n].toArray⟩) (w.alloc (.cells #[.int .u8 n] t)) :=
  run_str_new (P := P) w src dst e t [n] 1 1 rfl (by simp; omega) hs he hd

theorem byt_ofNat (n : Nat) : byt ((n : Int) % 256) = UInt8.ofNat (n % 256) := by unfold byt; rw [show ((n : Int) % 256).toNat = n % 256 by omega]

set_option maxRecDepth 100000 in
set_option maxHeartbeats 400000 in
theorem refDigits_any (n : Nat) (w : World) (hn : n < 256 ^ 8) :
    Calls Try.prog 75 #[.int .u64 n] w fun e w' => e = .returned (str (digs n)) ∧ Below w.heap.size w w' := by
  have Hn := Lib.hid hn
  clear hn
  go_enter Try.func75, Try.ntmps75
  go_wp2
  go_loopw [0, 3] (fun a b wr => ∃ (m : Nat) (t : List UInt8), a = .int .u64 m ∧ b = str t ∧ digs m ++ t = digs n ∧ m ≤ n ∧ t.length ≤ 8 ∧ Below w.heap.size w wr)
    (fun a _ _ => (intOf a).toNat)
  case atStart => exact ⟨n, [], rfl, rfl, by simp, Nat.le_refl _, by simp, Below.refl _ _⟩
  case round =>
    obtain ⟨m, t, rfl, rfl, hd, hm, ht, hnx⟩ := hrel
    have Hd := Lib.hid hd
    clear hd
    by_cases h0 : m = 0
    · subst h0
      go_wp2
      go_ret
      exact ⟨by have := Hd.out; rw [show digs 0 = [] from digsF_zero 8] at this; rw [← this]; rfl, hnx⟩
    · have hp : 0 < m := by omega
      have hm64 : (m : Int) ≤ 18446744073709551615 := by have := Hn.out; omega
      have Hstep := Lib.hid (digs_step m (Nat.lt_of_le_of_lt hm Hn.out))
      have kc := run_str_one (P := Try.prog) wr 24 9 5 5 (m % 256) (by omega) (by omega) Try.underlying24 Try.underlying5 Try.underlying9
      have H0 := Lib.hid h0
      clear h0
      go_wp2
      go_roundw
      case rel =>
        have e := Hstep.out
        rw [if_neg H0.out] at e
        have hd := Hd.out
        have hl := digs_length n
        rw [← hd, e] at hl
        simp at hl
        exact ⟨m / 256, byt (m % 256) :: t, by go_num, rfl, by rw [← hd, e, byt_ofNat]; simp, by omega, by simp; omega, hnx.alloc hnx.size _⟩
      case measure => simp [intOf]; omega

set_option maxHeartbeats 400000 in
theorem refNum_any (c : Int) (n : Nat) (w : World) (c0 : 0 ≤ c) (c1 : c ≤ 255) (hn : n < 256 ^ 8) :
    Calls Try.prog 68 #[.int .u8 c, .int .u64 n] w fun e w' => e = .returned (str (tNum c n)) ∧ Below w.heap.size w w' := by
  have Hn := Lib.hid hn
  clear hn
  go_enter Try.func68, Try.ntmps68
  go_wp2_with fail
  refine (refDigits_any n _ Hn.out).mono ?_
  rintro e w1 ⟨rfl, hb1⟩
  go_wp2_with fail
  refine (refText_any c (digs n) _ c0 c1 (by have := digs_length n; omega)).mono ?_
  rintro e w2 ⟨rfl, hb2⟩
  go_wp2
  go_ret
  exact ⟨rfl, hb1.trans (hb2.mono hb1.size)⟩
end Go.Proofs.Ytlkgloakcpfnnaa

/-
  The walk of CheckLimit: it returns true for every number. No conditions.
-/
import Derived.Test.YtlkgloakcpfnnaaCheckPlain
import Derived.Test.YtlkgloakcpfnnaaCheckSums
namespace Go.Proofs.Ytlkgloakcpfnnaa
open Go.RowKit

set_option maxHeartbeats 400000 in
theorem put_long (s : List UInt8) (w : World) (hs : 1048576 < s.length) :
    Calls Try.prog 16 #[str s] w fun e w' => e = .returned (.tuple #[str [], .int .i64 11]) ∧ w = w' := by
  go_enter Try.func16, Try.ntmps16
  go_wp2
  go_ret2
  exact ⟨rfl, rfl⟩

set_option maxRecDepth 100000 in
set_option maxHeartbeats 1600000 in
theorem checkLimit_walk (more : Int) (w : World) :
    Calls Try.prog 9 #[.int .i64 more] w fun e w' => e = .returned (.bool true) ∧ Below w.heap.size w w' := by
  obtain ⟨i0, hi, hz0, hz1, hz2⟩ := info_parts Try.infoU8
  have m0 : -2 ≤ more.tmod 3 ∧ more.tmod 3 ≤ 2 := by
    have h1 := Int.tmod_lt_of_pos more (show (0 : Int) < 3 by decide)
    have h2 := Int.lt_tmod_of_pos more (show (0 : Int) < 3 by decide)
    omega
  obtain ⟨m1, m2⟩ := m0
  obtain ⟨k, hk⟩ : ∃ k : Nat, (more.tmod 3 + 3) % 3 = k := ⟨((more.tmod 3 + 3) % 3).toNat, by omega⟩
  have hk2 : k ≤ 2 := by omega
  go_enter Try.func9, Try.ntmps9
  go_wp2_with fail
  refine (awake05_any _).mono ?_
  rintro e w1 ⟨rfl, hb1⟩
  have z1 := hb1.size
  obtain ⟨N, hN1, hN2⟩ : ∃ N : Nat, N ≤ 1048576 + k ∧ 1048576 + k ≤ N := ⟨1048576 + k, Nat.le_refl _, Nat.le_refl _⟩
  have hlen := fill_length N 0 (Nat.zero_le _)
  obtain ⟨S, hS⟩ : ∃ S, S = fill N 0 := ⟨_, rfl⟩
  rw [← hS] at hlen
  have HS := Lib.hid hS
  have hSl1 : S.length ≤ 1048576 + k := by omega
  have hSl2 : 1048576 + k ≤ S.length := by omega
  clear hlen hS
  go_wp2_with (at_make; refine wpList_make_full _ rfl _ _ 24 rfl w1.heap.size 5 i0 (.int .u8 0) 1 Try.underlying24 hi hz0 hz1 _ _ _ _ N rfl rfl (by omega) (by omega) (by rw [hz2]; omega) (by unfold maxLen; omega) (Nat.le_refl _) ?_; rw [made_fill, ← HS.out]; intro w2 hown hgrow; have kc := run_str_own (P := Try.prog) (w := w2) (src := 24) (dst := 9) Try.underlying24 Try.underlying5 Try.underlying9 hown; clear hown)
  have hb2 := hb1.grown hgrow z1 (by simp)
  clear kc hgrow
  by_cases h0 : k = 0
  · subst h0
    refine (put_any S _ (by omega)).mono ?_
    rintro e w3 ⟨rfl, hb3⟩
    have hb3' := bel_step hb2 hb3
    have hl := tRec_length S
    have hT := take_back S [] (by omega)
    rw [List.append_nil] at hT
    obtain ⟨X, hX⟩ : ∃ X, X = tRec S := ⟨_, rfl⟩
    rw [← hX] at hT hl ⊢
    have HT := Lib.hid hT
    have hl2 := hl.2
    clear hT hX hl hk
    go_wp2_with fail
    refine (take_any X S X.length 0 _ HT.out (by omega)).mono ?_
    rintro e w4 ⟨rfl, hb4⟩
    have hb4' := bel_step hb3' hb4
    go_wp2
    go_ret
    exact ⟨rfl, hb4'⟩
  · have hpos : 0 < k := by omega
    clear hk
    refine (put_long S _ (by omega)).mono ?_
    rintro e w3 ⟨rfl, rfl⟩
    go_wp2
    go_ret
    exact ⟨rfl, hb2⟩
end Go.Proofs.Ytlkgloakcpfnnaa

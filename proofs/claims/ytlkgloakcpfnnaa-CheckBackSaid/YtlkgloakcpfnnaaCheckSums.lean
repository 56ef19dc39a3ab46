/-
  The walk of CheckSums: it returns true for every text and number. No conditions beside those in each theorem.
-/
import Derived.Test.YtlkgloakcpfnnaaLaw05
namespace Go.Proofs.Ytlkgloakcpfnnaa
open Go.RowKit
set_option linter.unusedVariables false

/-- A row of bytes of which the first j are 255. -/
def fill (n j : Nat) : List UInt8 := List.replicate j 255 ++ List.replicate (n - j) 0
theorem fill_length (n j : Nat) (h : j ≤ n) : (fill n j).length = n := by simp [fill]; omega
theorem fill_zero (n : Nat) : fill n 0 = List.replicate n 0 := by simp [fill]
theorem fill_all (n : Nat) : fill n n = List.replicate n 255 := by simp [fill]
theorem fill_set (n j : Nat) (h : j < n) : (Lib.byteCells (fill n j)).set j (.int .u8 255) = Lib.byteCells (fill n (j + 1)) := by
  unfold fill Lib.byteCells
  obtain ⟨m, rfl⟩ : ∃ m, n = j + 1 + m := ⟨n - j - 1, by omega⟩
  rw [show j + 1 + m - j = m + 1 by omega, show j + 1 + m - (j + 1) = m by omega]
  rw [List.replicate_succ' (n := j)]
  simp [List.replicate_succ]
theorem fill_at (n j : Nat) (h : j < n) : (Lib.byteCells (fill n j))[j]? = some (.int .u8 0) := by
  unfold fill Lib.byteCells
  obtain ⟨m, rfl⟩ : ∃ m, n = j + 1 + m := ⟨n - j - 1, by omega⟩
  rw [show j + 1 + m - j = m + 1 by omega]
  simp

theorem made_fill (n : Nat) : (madeCells (Value.cells (.int .u8 0)) (n * 1)).toList = Lib.byteCells (fill n 0) := by
  show (madeCells #[.int .u8 0] (n * 1)).toList = _
  rw [Nat.mul_one, toList_madeCells_one, fill_zero]
  simp [Lib.byteCells]

theorem own_base {w : World} {base base' : Nat} {e : TypeId} {size : Nat} {v : Value} {n : Nat} {xs : List Value} (h : w.ownsRow base e size v n xs) (hb : base' ≤ base) : w.ownsRow base' e size v n xs := by
  refine ⟨h.1, ?_⟩
  rcases h.2 with h | ⟨g, cap, cur, h1, h2, h3⟩
  · exact .inl h
  · exact .inr ⟨g, cap, cur, h1, Nat.le_trans hb h2, h3⟩

set_option maxRecDepth 100000 in
set_option maxHeartbeats 800000 in
theorem checkSums_walk (l : List UInt8) (more : Int) (w : World) :
    Calls Try.prog 3 #[str l, .int .i64 more] w fun e w' => e = .returned (.bool true) ∧ Below w.heap.size w w' := by
  obtain ⟨i0, hi, hz0, hz1, hz2⟩ := info_parts Try.infoU8
  obtain ⟨k, hk⟩ : ∃ k : Nat, more % 4 = k := ⟨(more % 4).toNat, by omega⟩
  have hk3 : k ≤ 3 := by omega
  have ek := i64_and2 more
  rw [hk] at ek
  clear hk
  have hlt : (l.take 300).length ≤ 300 := List.length_take_le _ _
  go_enter Try.func3, Try.ntmps3
  go_wp2_with fail
  refine (awake05_any _).mono ?_
  rintro e w1 ⟨rfl, hb1⟩
  go_wp2_with fail
  refine (short05_any l 300 _).mono ?_
  rintro e w2 ⟨rfl, rfl⟩
  go_wp2_with (at_make; refine wpList_make_full _ rfl _ _ 24 rfl w1.heap.size 5 i0 (.int .u8 0) 1 Try.underlying24 hi hz0 hz1 _ _ _ _ (3000 * k) rfl rfl (by omega) (by omega) (by rw [hz2]; omega) (by unfold maxLen; omega) (Nat.le_refl _) ?_; rw [made_fill]; intro w2 hown hgrow)
  have hn2 := hb1.grown hgrow hb1.size (by simp)
  obtain ⟨g, hg⟩ : ∃ g, g = w1.heap.size := ⟨_, rfl⟩
  rw [← hg] at hown ⊢
  have hgB : w.heap.size ≤ g := by rw [hg]; exact hb1.size
  have HG := Lib.hid hg
  clear hg
  go_loopw [8] (fun i wr => ∃ j : Nat, j ≤ 3000 * k ∧ i = .int .i64 j ∧ wr.ownsRow w.heap.size 5 1 (.slice (some ⟨g, 0, none⟩) (3000 * k) (3000 * k)) (3000 * k) (Lib.byteCells (fill (3000 * k) j)) ∧ Below w.heap.size w wr)
    (fun i _ => 3000 * k - (intOf i).toNat)
  case atStart => exact ⟨0, Nat.zero_le _, rfl, own_base hown hgB, hn2⟩
  case round =>
    obtain ⟨j, hj, rfl, hown, hnx⟩ := hrel
    have Hown := Lib.hid hown
    by_cases hlt : j < 3000 * k
    · have hc := hown.cellAt j (by omega)
      rw [fill_at _ _ hlt] at hc
      have hf := hown.frozenAt j
      clear hown
      go_wp2
      go_roundw
      case rel => exact ⟨j + 1, by omega, by go_num, by have := (Hown.out.stored j (.int .u8 255)).1; rw [fill_set _ _ hlt] at this; exact this, hnx.setCell hgB _⟩
      case measure => simp [intOf]; omega
    · obtain rfl : j = 3000 * k := by omega
      have kc := run_str_own (P := Try.prog) (w := wr) (v := .slice (some ⟨g, 0, none⟩) (3000 * k) (3000 * k)) (src := 24) (dst := 9) Try.underlying24 Try.underlying5 Try.underlying9 hown
      clear hown
      have hfl := fill_length (3000 * k) (3000 * k) (Nat.le_refl _)
      have Hfl := Lib.hid hfl
      have hfl' : (fill (3000 * k) (3000 * k)).length ≤ 9000 := by omega
      clear hfl
      go_wp2_with fail
      obtain ⟨S, hS⟩ : ∃ S, S = List.take 300 l ++ fill (3000 * k) (3000 * k) := ⟨_, rfl⟩
      have hSl : S.length ≤ 9300 := by rw [hS, List.length_append]; omega
      rw [← hS]
      clear hS hfl' kc
      refine (put_any S _ (by omega)).mono ?_
      rintro e w3 ⟨rfl, hb3⟩
      go_wp2_with fail
      refine (refPut_any S _ (by omega)).mono ?_
      rintro e w4 ⟨rfl, hb4⟩
      go_wp2_with fail
      refine (sum_any S _ (by omega)).mono ?_
      rintro e w5 ⟨rfl, hb5⟩
      go_wp2_with fail
      refine (refSum_any S _ (by omega)).mono ?_
      rintro e w6 ⟨rfl, rfl⟩
      go_wp2
      go_ret
      have z3 := hb3.size
      have z4 := hb4.size
      have z5 := hb5.size
      have z := hnx.size
      exact ⟨rfl, ((hnx.trans (hb3.mono z)).trans (hb4.mono (by omega))).trans (hb5.mono (by omega))⟩
end Go.Proofs.Ytlkgloakcpfnnaa

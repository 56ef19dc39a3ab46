/-
  Plain laws of (*tlv.Reader).All: the bodies in a body. No program in sight; no conditions beside those in each theorem.
-/
import Derived.Test.YtjanmonoigpmcaaPlainRead
import Derived.Test.YtjanmonoigpmcaaStrs
namespace Go.Proofs.Ytjanmonoigpmcaa
open Go.RowKit

theorem rText_shorter {c most : Int} {s t s' : List UInt8} (h : rText c most (s, false) = (t, s', false)) : s'.length + 4 ≤ s.length := by
  have := congrArg List.length (rText_inv h).1
  rw [List.length_append, tText_length] at this
  omega
/-- The bodies in a body, of so many at most. -/
def bodiesF (c most : Int) : Nat → List UInt8 → Option (List (List UInt8))
  | 0, s => if s = [] then some [] else Option.none
  | k + 1, s =>
    if s = [] then some [] else
    match rText c most (s, false) with
    | (t, s', false) => (bodiesF c most k s').map (t :: ·)
    | (_, _, true) => Option.none
def bodies (c most : Int) (s : List UInt8) : Option (List (List UInt8)) := bodiesF c most s.length s
theorem bodiesF_enough (c most : Int) : ∀ (k j : Nat) (s : List UInt8), s.length ≤ k → k ≤ j → bodiesF c most j s = bodiesF c most k s := by
  intro k
  induction k with
  | zero =>
    intro j s h _
    obtain rfl : s = [] := List.eq_nil_of_length_eq_zero (by omega)
    cases j <;> simp [bodiesF]
  | succ k ih =>
    intro j s h hj
    obtain ⟨j, rfl⟩ : ∃ i, j = i + 1 := ⟨j - 1, by omega⟩
    unfold bodiesF
    split
    · rfl
    · split
      · rename_i hh
        have := rText_shorter hh
        rw [ih j _ (by omega) (by omega)]
      · rfl
theorem bodies_nil (c most : Int) : bodies c most [] = some [] := by simp [bodies, bodiesF]
theorem bodiesF_succ {c most : Int} {s t s' : List UInt8} (k : Nat) (h0 : s ≠ []) (h : rText c most (s, false) = (t, s', false)) : bodiesF c most (k + 1) s = (bodiesF c most k s').map (t :: ·) := by
  rw [bodiesF, if_neg h0, h]
theorem bodiesF_fail {c most : Int} {s t s' : List UInt8} (k : Nat) (h0 : s ≠ []) (h : rText c most (s, false) = (t, s', true)) : bodiesF c most (k + 1) s = Option.none := by
  rw [bodiesF, if_neg h0, h]
theorem pred_of_ne {s : List UInt8} (h0 : s ≠ []) : ∃ k, s.length = k + 1 := by
  cases s with
  | nil => exact absurd rfl h0
  | cons a s => exact ⟨s.length, rfl⟩
theorem bodies_step {c most : Int} {s t s' : List UInt8} (h0 : s ≠ []) (h : rText c most (s, false) = (t, s', false)) : bodies c most s = (bodies c most s').map (t :: ·) := by
  have := rText_shorter h
  obtain ⟨k, hk⟩ := pred_of_ne h0
  unfold bodies
  rw [hk, bodiesF_succ k h0 h, bodiesF_enough c most s'.length k s' (Nat.le_refl _) (by omega)]
theorem bodies_bad {c most : Int} {s t s' : List UInt8} (h0 : s ≠ []) (h : rText c most (s, false) = (t, s', true)) : bodies c most s = Option.none := by
  obtain ⟨k, hk⟩ := pred_of_ne h0
  unfold bodies
  rw [hk, bodiesF_fail k h0 h]
/-- All bodies in a body, taken off. -/
def rAll (c many most : Int) (r : Rd) : List (List UInt8) × Rd :=
  match rText c 16777215 r with
  | (t, s1, b1) =>
    match bodies c most t with
    | Option.none => ([], s1, true)
    | some L => if many < (L.length : Int) then ([], s1, true) else (L, s1, b1)
theorem rAll_left_le {c many most : Int} {r r' : Rd} {L : List (List UInt8)} (h : rAll c many most r = (L, r')) : r'.1.length ≤ r.1.length := by
  obtain ⟨⟨t, s1, b1⟩, ht⟩ : ∃ q, rText c 16777215 r = q := ⟨_, rfl⟩
  have := rText_left_le ht
  rw [rAll, ht] at h
  simp only [] at h
  split at h
  · injection h with h1 h2; subst h2; exact this
  · split at h <;> (injection h with h1 h2; subst h2; exact this)
theorem rAll_bad (c many most : Int) (s : List UInt8) : rAll c many most (s, true) = ([], s, true) := by
  unfold rAll
  rw [rText_bad]
  simp only [bodies_nil]
  split <;> rfl
end Go.Proofs.Ytjanmonoigpmcaa

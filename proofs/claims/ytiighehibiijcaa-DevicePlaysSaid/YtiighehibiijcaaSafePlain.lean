/-
  What a crash may leave of a sector that was flushed and written once more: the plain law of DeviceSafe. No conditions beside those in each theorem.
-/
import Derived.Test.YtiighehibiijcaaDevPlain
namespace Go.Proofs.Ytiighehibiijcaa
open Go.RowKit
set_option linter.unusedSimpArgs false

/-- What waits: of the first k sectors those whose byte is not 0. -/
def waitsG (G : Nat → UInt8) : Nat → List (Int × List UInt8)
  | 0 => []
  | k + 1 => waitsG G k ++ (if G k = 0 then [] else [((k : Int), secB (G k))])
theorem waitsG_mem {G : Nat → UInt8} : ∀ {k : Nat} {p : Int × List UInt8}, p ∈ waitsG G k → ∃ i : Nat, i < k ∧ p = ((i : Int), secB (G i)) ∧ G i ≠ 0 := by
  intro k
  induction k with
  | zero => intro p hp; cases hp
  | succ k ih =>
    intro p hp
    rcases List.mem_append.1 hp with h | h
    · obtain ⟨i, h1, h2⟩ := ih h
      exact ⟨i, by omega, h2⟩
    · split at h
      · cases h
      · simp only [List.mem_cons, List.not_mem_nil, or_false] at h
        exact ⟨k, by omega, h, by assumption⟩
theorem waitsG_apart (G : Nat → UInt8) : ∀ k, (waitsG G k).Pairwise (fun a b => a.1 ≠ b.1) := by
  intro k
  induction k with
  | zero => exact List.Pairwise.nil
  | succ k ih =>
    refine List.pairwise_append.2 ⟨ih, ?_, ?_⟩
    · split
      · exact List.Pairwise.nil
      · exact List.pairwise_singleton _ _
    · intro a ha b hb
      obtain ⟨i, h1, rfl, -⟩ := waitsG_mem ha
      split at hb
      · cases hb
      · simp only [List.mem_cons, List.not_mem_nil, or_false] at hb
        subst hb
        simp only []
        omega
theorem waitsG_length (G : Nat → UInt8) : ∀ k, (waitsG G k).length ≤ k := by
  intro k
  induction k with
  | zero => exact Nat.le_refl _
  | succ k ih =>
    unfold waitsG
    rw [List.length_append]
    split
    · simp; omega
    · simp; omega
/-- Behind i of what waits: a sector is as it was, or begins as one that waited for it. -/
theorem crash_cases {ks : List Bool} {torn : Int} {cc : Nat} (hcc : cc ≤ 64) {d : Dev} {l : List (Int × List UInt8)} (hp : l.Pairwise (fun a b => a.1 ≠ b.1)) (hl : ∀ p ∈ l, p.2.length = 64) (hs : SafeOk d) :
    ∀ i, i ≤ l.length → ∀ q, safeD (crashN ks torn cc d l i) q = safeD d q ∨ ∃ p ∈ l, p.1 = q ∧ ∃ c, c ≤ 64 ∧ safeD (crashN ks torn cc d l i) q = p.2.take c ++ (safeD d q).drop c := by
  intro i
  induction i with
  | zero => intro _ q; exact .inl rfl
  | succ i ih =>
    intro hi q
    have hlt : i < l.length := by omega
    obtain ⟨p, hpe⟩ : ∃ p, l[i]? = some p := ⟨_, List.getElem?_eq_getElem hlt⟩
    have hpm : p ∈ l := List.mem_of_getElem? hpe
    rw [crashN_succ hpe]
    unfold crash1
    split
    · rw [safeD_keep]
      by_cases hq : q = p.1
      · subst hq
        rw [if_pos rfl]
        refine .inr ⟨p, hpm, rfl, ?_⟩
        have hno : safeD (crashN ks torn cc d l i) p.1 = safeD d p.1 := by
          refine crashN_none i fun p' hp' => ?_
          obtain ⟨j, hj, hje⟩ := List.mem_iff_getElem.1 hp'
          have hjl : j < i := by simpa using Nat.lt_of_lt_of_le hj (by simp; omega)
          have h1 : l[j]'(by omega) = p' := by rw [← hje, List.getElem_take]
          have h2 : l[i] = p := (List.getElem?_eq_some_iff.1 hpe).2
          rw [← h1, ← h2]
          exact List.pairwise_iff_getElem.1 hp j i (by omega) hlt hjl
        split
        · exact ⟨cc, hcc, by unfold tornS; rw [hno]⟩
        · refine ⟨64, Nat.le_refl _, ?_⟩
          rw [List.take_of_length_le (by rw [hl p hpm]; omega), List.drop_eq_nil_of_le (by rw [hs.safeD]; omega), List.append_nil]
      · rw [if_neg hq]
        exact ih (by omega) q
    · exact ih (by omega) q
/-- c bytes of the one, then the other one's: 64 in all. -/
def mixB (a b : UInt8) (c : Nat) : List UInt8 := List.replicate c a ++ List.replicate (64 - c) b
theorem mixB_length {a b : UInt8} {c : Nat} (h : c ≤ 64) : (mixB a b c).length = 64 := by simp [mixB]; omega
theorem mixB_zero (a b : UInt8) : mixB a b 0 = secB b := by simp [mixB, secB]
theorem mixB_at {a b : UInt8} {c k : Nat} (hc : c ≤ 64) (hk : k < 64) : (mixB a b c)[k]'(by rw [mixB_length hc]; exact hk) = if k < c then a else b := by
  unfold mixB
  split
  · rename_i h
    rw [List.getElem_append_left (by simpa using h), List.getElem_replicate]
  · rename_i h
    rw [List.getElem_append_right (by simpa using Nat.le_of_not_lt h), List.getElem_replicate]
theorem mix_of {a b : UInt8} {c : Nat} (hc : c ≤ 64) : (secB a).take c ++ (secB b).drop c = mixB a b c := by
  unfold secB mixB
  rw [List.take_replicate, List.drop_replicate, Nat.min_eq_left hc]
theorem safe_mix {G old : Nat → UInt8} {k : Nat} {ks : List Bool} {torn : Int} {cc : Nat} (hcc : cc ≤ 64) {d : Dev} (hw : d.waits = waitsG G k) (hs : SafeOk d) (hold : ∀ q : Nat, q < 8 → safeD d q = secB (old q)) {q : Nat} (hq : q < 8) :
    ∃ c, c ≤ 64 ∧ safeD (crashD ks torn cc d) q = mixB (if q < k then G q else 0) (old q) c ∧ ((if q < k then G q else 0) = 0 → c = 0) := by
  rw [crash_safeD, hw]
  rcases crash_cases (ks := ks) (torn := torn) hcc (waitsG_apart G k) (fun p hp => by obtain ⟨i, -, rfl, -⟩ := waitsG_mem hp; exact secB_length _) hs _ (Nat.le_refl _) (q : Int) with h | ⟨p, hp, hpq, c, hc, h⟩
  · exact ⟨0, Nat.zero_le _, by rw [h, hold q hq, mixB_zero], fun _ => rfl⟩
  · obtain ⟨i, hi, rfl, hg⟩ := waitsG_mem hp
    have hiq : i = q := by simp only [] at hpq; omega
    subst hiq
    refine ⟨c, hc, ?_, fun e => ?_⟩
    · rw [h, hold i hq, if_pos hi]
      exact mix_of hc
    · rw [if_pos hi] at e
      exact absurd e hg
theorem OnD.crash {n : Int} {i j : Nat} {d : Dev} (h : OnD n i j d) (ks : List Bool) (torn : Int) {cc : Nat} (hcc : cc ≤ 64) : OnD n i 0 (crashD ks torn cc d) := by
  obtain ⟨h1, h2, h3, h4, h5, h6, h7, h8, h9⟩ := h
  obtain ⟨a1, a2, a3, a4⟩ := crashN_n ks torn cc d d.waits d.waits.length
  have hs := crashN_safe (ks := ks) (torn := torn) h9 hcc (h1 ▸ h8) d.waits.length
  exact ⟨a1.trans h1, rfl, rfl, a3.trans h4, by show 0 ≤ (crashN ks torn cc d d.waits d.waits.length).steps; rw [a4]; exact h5, by show (crashN ks torn cc d d.waits d.waits.length).steps ≤ _; rw [a4]; exact h6, Nat.le_refl _, (by intro p hp; cases hp), hs⟩
theorem crashD_readD (ks : List Bool) (torn : Int) (cc : Nat) (d : Dev) (q : Int) : readD (crashD ks torn cc d) q = safeD (crashD ks torn cc d) q := rfl
end Go.Proofs.Ytiighehibiijcaa

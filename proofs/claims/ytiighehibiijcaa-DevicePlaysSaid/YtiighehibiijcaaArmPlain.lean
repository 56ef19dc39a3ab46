/-
  A device that was armed with k steps, behind i of them: the plain law of DeviceArmed. No conditions beside those in each theorem.
-/
import Derived.Test.YtiighehibiijcaaAwake06
namespace Go.Proofs.Ytiighehibiijcaa
open Go.RowKit

def ArmI (k i : Nat) (d : Dev) : Prop := d.n = 4 ∧ d.on = true ∧ d.armed = true ∧ d.left = (k : Int) - i ∧ d.steps = i ∧ WaitOk 4 d.waits ∧ d.waits.length ≤ i ∧ SafeOk d
theorem keepAll_fields : ∀ (l : List (Int × List UInt8)) (d : Dev), (keepAll d l).n = d.n ∧ (keepAll d l).on = d.on ∧ (keepAll d l).armed = d.armed ∧ (keepAll d l).left = d.left ∧ (keepAll d l).steps = d.steps := by
  intro l
  induction l with
  | nil => intro d; exact ⟨rfl, rfl, rfl, rfl, rfl⟩
  | cons p l ih => intro d; exact ih (keepD d p.1 p.2)
theorem WaitOk.weak {n : Int} {l : List (Int × List UInt8)} (h : WaitOk n l) : WaitsOk l := fun p hp => ⟨(h p hp).1, by have := (h p hp).2.1; omega⟩
theorem keepAll_safe {n : Int} : ∀ (l : List (Int × List UInt8)) (d : Dev), WaitOk n l → SafeOk d → SafeOk (keepAll d l) := by
  intro l
  induction l with
  | nil => intro d _ h; exact h
  | cons p l ih => intro d hw h; exact ih (keepD d p.1 p.2) (fun q hq => hw q (by simp [hq])) (h.keep _ (hw p (by simp)).2.1)
theorem ArmI.start (k : Nat) : ArmI k 0 (armD (newD 4) k) := by
  refine ⟨rfl, rfl, rfl, ?_, rfl, by intro p hp; simp [armD, newD] at hp, Nat.le_refl _, fun k s h => by cases h⟩
  show max (k : Int) 0 = _
  omega
theorem ArmI.ok {k i : Nat} {d : Dev} (h : ArmI k i d) (hi : i ≤ k) (hk : k ≤ 31) : OkD d := by
  obtain ⟨h1, h2, h3, h4, h5, h6, h7, h8⟩ := h
  exact ⟨by omega, by omega, by omega, by omega, by omega⟩
theorem ArmI.goes {k i : Nat} {d : Dev} (h : ArmI k i d) (hi : i < k) : goesD d = true := by
  have := h.2.2.2.1
  have hne : ¬ d.left = 0 := by omega
  simp [goesD, hne]
theorem ArmI.stops {k : Nat} {d : Dev} (h : ArmI k k d) : goesD d = false := by
  have := h.2.2.2.1
  have he : d.left = 0 := by omega
  simp [goesD, he, h.2.2.1]
theorem ArmI.flush {k i : Nat} {d : Dev} (h : ArmI k i d) (hi : i < k) : flushE d = 0 ∧ ArmI k (i + 1) (flushR d) := by
  have hg := h.goes hi
  obtain ⟨h1, h2, h3, h4, h5, h6, h7, h8⟩ := h
  refine ⟨by simp [flushE, h2, hg], ?_⟩
  obtain ⟨f1, f2, f3, f4, f5⟩ := keepAll_fields (stepD d).waits (stepD d)
  unfold flushR fluD flushD
  rw [h2, hg]
  simp only [if_true]
  refine ⟨f1.trans ?_, f2.trans ?_, f3.trans ?_, f4.trans ?_, f5.trans ?_, by intro p hp; simp at hp, Nat.zero_le _, keepAll_safe (n := 4) _ _ (by unfold stepD; rw [h3]; exact h6) (by unfold stepD; rw [h3]; exact h8)⟩
  all_goals simp only [stepD, h3, if_true, h1, h2, h4, h5]
  · omega
  · omega
theorem ArmI.write {k i : Nat} {d : Dev} {s : List UInt8} {j : Int} (h : ArmI k i d) (hi : i < k) (hs : s.length = 64) (hj : hasD 4 j = true) (hw : (Lit.int .i64 j).wf = true) : writeE d j s = 0 ∧ ArmI k (i + 1) (writeR d j s) := by
  have hg := h.goes hi
  obtain ⟨h1, h2, h3, h4, h5, h6, h7, h8⟩ := h
  refine ⟨by simp [writeE, h1, h2, hj, hs, hg], ?_⟩
  unfold writeR writeD
  rw [h2, h1, hj, hg]
  simp only [if_true, hs]
  refine ⟨?_, ?_, ?_, ?_, ?_, ?_, ?_, by unfold stepD; rw [h3]; exact h8⟩
  all_goals simp only [stepD, h3, if_true, h1, h2, h4, h5, List.length_append, List.length_cons, List.length_nil]
  · omega
  · omega
  · intro p hp
    rcases List.mem_append.1 hp with hp | hp
    · exact h6 p hp
    · simp only [List.mem_cons, List.not_mem_nil, or_false] at hp
      subst hp
      exact ⟨hw, hs, hj⟩
  · omega
end Go.Proofs.Ytiighehibiijcaa

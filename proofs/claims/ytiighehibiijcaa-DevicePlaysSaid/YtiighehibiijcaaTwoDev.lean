/-
  A device and the document's device beside each other, both as one plain device says; what holds of it behind each call. No conditions beside those in each theorem.
-/
import Derived.Test.YtiighehibiijcaaRefDevE
import Derived.Test.YtiighehibiijcaaSafePlain
namespace Go.Proofs.Ytiighehibiijcaa
open Go.RowKit
set_option linter.unusedSimpArgs false
set_option linter.unnecessarySimpa false
set_option linter.unusedVariables false

section
variable {w w' : World} {B : Nat} {v : Value}
theorem OwnS.of_block {L : List (List UInt8)} (h : OwnS w B v L) (hs : ∀ i, v.ownBlock = some i → w'.heap[i]? = w.heap[i]?) : OwnS w' B v L := by
  refine ⟨h.1, ?_⟩
  rcases h.2 with h1 | ⟨g, cap, cur, h1, h2, h3, h4⟩
  · exact .inl h1
  · exact .inr ⟨g, cap, cur, h1, h2, (hs g (by rw [h1]; rfl)).trans h3, h4⟩
theorem OwnW.of_block {L : List (Int × List UInt8)} (h : OwnW w B v L) (hs : ∀ i, v.ownBlock = some i → w'.heap[i]? = w.heap[i]?) : OwnW w' B v L := by
  refine ⟨h.1, ?_⟩
  rcases h.2 with h1 | ⟨g, cap, cur, h1, h2, h3, h4⟩
  · exact .inl h1
  · exact .inr ⟨g, cap, cur, h1, h2, (hs g (by rw [h1]; rfl)).trans h3, h4⟩
theorem MapIs.of_block {b cap : Nat} {F : Int → Option (List UInt8)} (h : MapIs w b cap F) (hb : w'.heap[b]? = w.heap[b]?) : MapIs w' b cap F := by
  obtain ⟨D, ⟨es, clock, h1, h2⟩, h3⟩ := h
  exact ⟨D, ⟨es, clock, hb.trans h1, h2⟩, h3⟩
end
theorem OwnS.apart2 {w : World} {B B' : Nat} {v rv : Value} {L : List (List UInt8)} {M : List (Int × List UInt8)} (h : OwnS w B v L) (k : OwnW w B' rv M) {i : Nat} (hi : v.ownBlock = some i) : rv.ownBlock ≠ some i := by
  rcases h.2 with ⟨h1, _⟩ | ⟨g, cap, cur, h1, h2, h3, _⟩
  · subst h1; simp [Value.ownBlock] at hi
  · subst h1
    have : g = i := by simpa [Value.ownBlock] using hi
    subst this
    exact k.ne (show Blk w g 9 cur from h3) (by decide)
def Apart (a b : Value) : Prop := ∀ i, a.ownBlock = some i → b.ownBlock ≠ some i
section
variable {w w' : World} {g gm cap B B2 rh : Nat} {v v' sv rv rv' : Value} {d d' : Dev}
theorem IsRef.beside (hr : IsRef w rh sv rv B2 d) (hd : IsDev w g gm v cap B d') (ht : Touch g gm w v w' v') (ha : Apart rv v) : IsRef w' rh sv rv B2 d ∧ Apart rv v' := by
  have hs : ∀ i, sv.ownBlock = some i → w'.heap[i]? = w.heap[i]? := fun i hi => ht.block i (hr.2.1.own_lt hi).1 (fun e => hr.2.1.ne hd.1 (by decide) (by rw [hi, e])) (fun e => by
      rcases hr.2.1.2 with ⟨h1, _⟩ | ⟨k, c, cur, h1, h2, h3, _⟩
      · subst h1; simp [Value.ownBlock] at hi
      · subst h1
        have : k = i := by simpa [Value.ownBlock] using hi
        subst this
        exact hd.2.1.ne (show Blk w k 9 cur from h3) e) (fun e => OwnS.apart2 hr.2.1 hd.2.2.1 hi e)
  have hw : ∀ i, rv.ownBlock = some i → w'.heap[i]? = w.heap[i]? := fun i hi => ht.block i (hr.2.2.1.own_lt hi).1 (fun e => hr.2.2.1.ne hd.1 (by decide) (by rw [hi, e])) (fun e => hd.2.1.apart hr.2.2.1 (by rw [hi, e])) (fun e => ha i hi e)
  refine ⟨⟨(ht.block rh hr.1.lt (blk_ne hr.1 hd.1 (by decide)) (hd.2.1.ne hr.1) (hd.2.2.1.ne hr.1 (by decide))).trans hr.1, hr.2.1.of_block hs, hr.2.2.1.of_block hw, hr.2.2.2⟩, fun i hi e => ?_⟩
  rcases ht.own i e with h1 | h1
  · exact ha i hi h1
  · have := (hr.2.2.1.own_lt hi).1; omega
theorem IsDev.beside (hd : IsDev w g gm v cap B d) (hr : IsRef w rh sv rv B2 d') (ht : RTouch rh sv w rv w' rv') (ha : Apart rv v) : IsDev w' g gm v cap B d ∧ Apart rv' v := by
  have hsne : ∀ i, sv.ownBlock = some i → i ≠ gm := fun i hi e => by
      rcases hr.2.1.2 with ⟨h1, _⟩ | ⟨k, c, cur, h1, h2, h3, _⟩
      · subst h1; simp [Value.ownBlock] at hi
      · subst h1
        have : k = i := by simpa [Value.ownBlock] using hi
        subst this
        exact hd.2.1.ne (show Blk w k 9 cur from h3) e
  refine ⟨⟨(ht.block g hd.1.lt (blk_ne hd.1 hr.1 (by decide)) (hr.2.1.ne hd.1 (by decide)) (hr.2.2.1.ne hd.1 (by decide))).trans hd.1, hd.2.1.of_block (ht.block gm hd.2.1.lt (fun e => hd.2.1.ne hr.1 e.symm) (fun e => hsne gm e rfl) (fun e => hd.2.1.apart hr.2.2.1 e)), hd.2.2.1.of_block (fun i hi => ht.block i (hd.2.2.1.own_lt hi).1 (fun e => hd.2.2.1.ne hr.1 (by decide) (by rw [hi, e])) (fun e => OwnS.apart2 hr.2.1 hd.2.2.1 e hi) (fun e => ha i e hi)), hd.2.2.2⟩, fun i hi e => ?_⟩
  rcases ht.own i hi with h1 | h1
  · exact ha i h1 e
  · have := (hd.2.2.1.own_lt e).1; omega
end

/-- A device as a script finds it: j calls at most. -/
def OkP (n : Int) (j : Nat) (d : Dev) : Prop := d.n = n ∧ 0 ≤ d.left ∧ d.left ≤ 100 ∧ 0 ≤ d.steps ∧ d.steps ≤ j ∧ d.waits.length ≤ j ∧ WaitOk n d.waits ∧ SafeOk d
section
variable {n : Int} {j : Nat} {d : Dev}
theorem OkP.new (n : Int) : OkP n 0 (newD n) := ⟨rfl, Int.le_refl _, by show (0 : Int) ≤ 100; decide, Int.le_refl _, Int.le_refl _, Nat.le_refl _, (by intro p hp; cases hp), fun k s h => by cases h⟩
theorem OkP.ok (h : OkP n j d) (hj : j ≤ 1000000) : OkD d := by
  obtain ⟨-, h2, h3, h4, h5, h6, -, -⟩ := h
  exact ⟨h2, by omega, h4, by omega, by omega⟩
theorem OkP.more (h : OkP n j d) : OkP n (j + 1) d := by
  obtain ⟨h1, h2, h3, h4, h5, h6, h7, h8⟩ := h
  exact ⟨h1, h2, h3, h4, by omega, by omega, h7, h8⟩
theorem step_bounds (h : OkP n j d) (hg : goesD d = true) : OkP n (j + 1) (stepD d) := by
  obtain ⟨h1, h2, h3, h4, h5, h6, h7, h8⟩ := h
  refine ⟨(stepD_n d).trans h1, ?_, ?_, ?_, ?_, by rw [stepD_waits]; omega, by rw [stepD_waits]; exact h7, fun k s hk => h8 k s (by rw [← stepD_safe]; exact hk)⟩
  all_goals unfold stepD
  all_goals split
  all_goals simp only []
  · rename_i ha
    simp [goesD, ha] at hg
    omega
  · omega
  · omega
  · omega
  · omega
  · omega
  · omega
  · omega
theorem OkP.off (h : OkP n j d) : OkP n (j + 1) { d with on := false } := by
  obtain ⟨h1, h2, h3, h4, h5, h6, h7, h8⟩ := h
  exact ⟨h1, h2, h3, h4, by simp only []; omega, by simp only []; omega, h7, h8⟩
theorem OkP.push (h : OkP n (j + 1) d) {k : Int} {s : List UInt8} (hl : d.waits.length ≤ j) (hk : hasD n k = true) (hw : (Lit.int .i64 k).wf = true) (hs : s.length = 64) : OkP n (j + 1) { d with waits := d.waits ++ [(k, s)] } := by
  obtain ⟨h1, h2, h3, h4, h5, h6, h7, h8⟩ := h
  refine ⟨h1, h2, h3, h4, h5, by simp; omega, ?_, h8⟩
  intro p hp
  rcases List.mem_append.1 hp with hp | hp
  · exact h7 p hp
  · simp only [List.mem_cons, List.not_mem_nil, or_false] at hp
    subst hp
    exact ⟨hw, hs, hk⟩
theorem OkP.write (h : OkP n j d) {k : Int} {s : List UInt8} (hw : (Lit.int .i64 k).wf = true) : OkP n (j + 1) (writeR d k s) := by
  unfold writeR
  split
  · split
    · rename_i hk
      split
      · rename_i hs
        unfold writeD
        rcases hg : goesD d with _ | _
        · exact (h.off).push (d := { d with on := false }) h.2.2.2.2.2.1 (h.1 ▸ hk) hw hs
        · have h2 := (step_bounds h hg).push (k := k) (s := s) (by rw [stepD_waits]; exact h.2.2.2.2.2.1) (h.1 ▸ hk) hw hs
          rw [stepD_waits] at h2
          exact h2
      · exact h.more
    · exact h.more
  · exact h.more
theorem OkP.flush (h : OkP n j d) : OkP n (j + 1) (flushR d) := by
  unfold flushR
  split
  · unfold fluD
    split
    · rename_i hg
      obtain ⟨h1, h2, h3, h4, h5, h6, h7, h8⟩ := step_bounds h hg
      obtain ⟨f1, f2, f3, f4, f5⟩ := keepAll_fields (stepD d).waits (stepD d)
      unfold flushD
      exact ⟨f1.trans h1, by simp only []; rw [f4]; exact h2, by simp only []; rw [f4]; exact h3, by simp only []; rw [f5]; exact h4, by simp only []; rw [f5]; exact h5, by simp, (by intro p hp; cases hp), keepAll_safe (n := n) _ _ h7 h8⟩
    · exact h.off
  · exact h.more
theorem OkP.arm (h : OkP n j d) {k : Int} (hk : k ≤ 100) : OkP n (j + 1) (armD d k) := by
  obtain ⟨h1, h2, h3, h4, h5, h6, h7, h8⟩ := h
  exact ⟨h1, by simp only [armD]; omega, by simp only [armD]; omega, h4, by simp only [armD]; omega, by simp only [armD]; omega, h7, h8⟩
theorem OkP.crash (h : OkP n j d) (ks : List Bool) (torn : Int) {cc : Nat} (hcc : cc ≤ 64) : OkP n (j + 1) (crashD ks torn cc d) := by
  obtain ⟨h1, h2, h3, h4, h5, h6, h7, h8⟩ := h
  obtain ⟨a1, a2, a3, a4⟩ := crashN_n ks torn cc d d.waits d.waits.length
  have hs := crashN_safe (ks := ks) (torn := torn) h8 hcc (h1 ▸ h7) d.waits.length
  exact ⟨a1.trans h1, by show 0 ≤ (crashN ks torn cc d d.waits d.waits.length).left; rw [a3]; exact h2, by show (crashN ks torn cc d d.waits d.waits.length).left ≤ 100; rw [a3]; exact h3, by show 0 ≤ (crashN ks torn cc d d.waits d.waits.length).steps; rw [a4]; exact h4, by show (crashN ks torn cc d d.waits d.waits.length).steps ≤ _; rw [a4]; omega, Nat.zero_le _, (by intro p hp; cases hp), hs⟩
end
end Go.Proofs.Ytiighehibiijcaa

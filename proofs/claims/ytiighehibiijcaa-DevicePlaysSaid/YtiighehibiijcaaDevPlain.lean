/-
  What is safe of a device behind keep, flush and crash; what is read behind a write: plain laws. No conditions beside those in each theorem.
-/
import Derived.Test.YtiighehibiijcaaArmPlain
namespace Go.Proofs.Ytiighehibiijcaa
open Go.RowKit
set_option linter.unusedSimpArgs false

theorem safeD_keep (d : Dev) (k : Int) (s : List UInt8) (j : Int) : safeD (keepD d k s) j = if j = k then s else safeD d j := by
  unfold safeD keepD
  simp only []
  by_cases hz : (s == zero64) = true
  · rw [if_pos hz]
    unfold delF setF
    by_cases hj : j = k
    · rw [if_pos hj, if_pos hj]
      exact (eq_of_beq hz).symm
    · rw [if_neg hj, if_neg hj, if_neg hj]
  · rw [if_neg hz]
    unfold setF
    by_cases hj : j = k
    · rw [if_pos hj, if_pos hj]; rfl
    · rw [if_neg hj, if_neg hj]
theorem safeD_same {d d' : Dev} (h : d'.safe = d.safe) (j : Int) : safeD d' j = safeD d j := by unfold safeD; rw [h]
theorem lastW_append (j : Int) : ∀ (l m : List (Int × List UInt8)), lastW j (l ++ m) = (lastW j m).or (lastW j l) := by
  intro l
  induction l with
  | nil => intro m; simp [lastW]
  | cons p l ih =>
    intro m
    simp only [List.cons_append, lastW, ih]
    rw [Option.or_assoc]
theorem lastW_push (j k : Int) (s : List UInt8) (l : List (Int × List UInt8)) : lastW j (l ++ [(k, s)]) = if k = j then some s else lastW j l := by
  rw [lastW_append]
  simp only [lastW]
  by_cases h : k = j
  · simp [h]
  · simp [h]
theorem safeD_keepAll (j : Int) : ∀ (l : List (Int × List UInt8)) (d : Dev), safeD (keepAll d l) j = (lastW j l).getD (safeD d j) := by
  intro l
  induction l with
  | nil => intro d; rfl
  | cons p l ih =>
    intro d
    show safeD (keepAll (keepD d p.1 p.2) l) j = _
    rw [ih, safeD_keep]
    simp only [lastW]
    rcases lastW j l with _ | s
    · by_cases h : j = p.1
      · simp [h]
      · rw [if_neg h, if_neg (fun e => h e.symm)]; rfl
    · rfl
theorem keepAll_safeOk {d : Dev} {n : Int} (hs : SafeOk d) {l : List (Int × List UInt8)} (hw : WaitOk n l) : SafeOk (keepAll d l) := keepAll_safe l d hw hs

/-! A device that is on, and goes. -/
theorem writeR_on {d : Dev} {k : Int} {s : List UInt8} (h1 : d.on = true) (h2 : hasD d.n k = true) (h3 : s.length = 64) : writeR d k s = writeD d k s := by simp [writeR, h1, h2, h3]
theorem stepD_safe (d : Dev) : (stepD d).safe = d.safe := by unfold stepD; split <;> rfl
theorem stepD_waits (d : Dev) : (stepD d).waits = d.waits := by unfold stepD; split <;> rfl
theorem stepD_n (d : Dev) : (stepD d).n = d.n := by unfold stepD; split <;> rfl
theorem stepD_on (d : Dev) : (stepD d).on = d.on := by unfold stepD; split <;> rfl
theorem writeD_safe (d : Dev) (k : Int) (s : List UInt8) : (writeD d k s).safe = d.safe := by
  unfold writeD
  simp only []
  split
  · exact stepD_safe d
  · rfl
theorem writeD_waits (d : Dev) (k : Int) (s : List UInt8) : (writeD d k s).waits = d.waits ++ [(k, s)] := rfl
theorem readD_write (d : Dev) (k j : Int) (s : List UInt8) : readD (writeD d k s) j = if k = j then s else readD d j := by
  unfold readD
  rw [writeD_waits, lastW_push, safeD_same (writeD_safe d k s)]
  split <;> rfl
theorem flushD_safeD (d : Dev) (j : Int) : safeD (flushD (stepD d)) j = readD d j := by
  have h : safeD (flushD (stepD d)) j = safeD (keepAll (stepD d) (stepD d).waits) j := safeD_same rfl j
  rw [h, safeD_keepAll, stepD_waits, safeD_same (stepD_safe d)]
  rfl
theorem flushD_readD (d : Dev) (j : Int) : readD (flushD (stepD d)) j = readD d j := by
  conv => lhs; unfold readD
  rw [flushD_safeD]
  rfl

/-- A device that is on and not armed: so many steps at most, so many that wait at most. -/
def OnD (n : Int) (i j : Nat) (d : Dev) : Prop := d.n = n ∧ d.on = true ∧ d.armed = false ∧ d.left = 0 ∧ 0 ≤ d.steps ∧ d.steps ≤ i ∧ d.waits.length ≤ j ∧ WaitOk n d.waits ∧ SafeOk d
theorem OnD.new (n : Int) : OnD n 0 0 (newD n) := ⟨rfl, rfl, rfl, rfl, Int.le_refl _, Int.le_refl _, Nat.le_refl _, (by intro p hp; cases hp), fun k s h => by cases h⟩
theorem OnD.ok {n : Int} {i j : Nat} {d : Dev} (h : OnD n i j d) (hi : i ≤ 1000000) (hj : j ≤ 1000000) : OkD d := by
  obtain ⟨-, -, -, h4, h5, h6, h7, -, -⟩ := h
  exact ok_small h4 h5 (by omega) (by omega)
theorem OnD.goes {n : Int} {i j : Nat} {d : Dev} (h : OnD n i j d) : goesD d = true := goes_free h.2.2.1
theorem OnD.writeE {n : Int} {i j : Nat} {d : Dev} {k : Int} {s : List UInt8} (h : OnD n i j d) (hk : hasD n k = true) (hs : s.length = 64) : writeE d k s = 0 := by
  unfold Go.Proofs.Ytiighehibiijcaa.writeE
  rw [h.2.1, h.1, hk, h.goes]
  simp [hs]
theorem OnD.write {n : Int} {i j : Nat} {d : Dev} {k : Int} {s : List UInt8} (h : OnD n i j d) (hk : hasD n k = true) (hw : (Lit.int .i64 k).wf = true) (hs : s.length = 64) :
    OnD n (i + 1) (j + 1) (writeR d k s) ∧ (∀ q, readD (writeR d k s) q = if k = q then s else readD d q) ∧ ∀ q, safeD (writeR d k s) q = safeD d q := by
  have hg := h.goes
  obtain ⟨h1, h2, h3, h4, h5, h6, h7, h8, h9⟩ := h
  rw [writeR_on h2 (by rw [h1]; exact hk) hs]
  refine ⟨?_, fun q => readD_write d k q s, safeD_same (writeD_safe d k s)⟩
  have hw2 : WaitOk n (d.waits ++ [(k, s)]) := by
    intro p hp
    rcases List.mem_append.1 hp with hp | hp
    · exact h8 p hp
    · simp only [List.mem_cons, List.not_mem_nil, or_false] at hp
      subst hp
      exact ⟨hw, hs, hk⟩
  have hst : stepD d = { d with steps := d.steps + 1 } := by simp [stepD, h3]
  have hwr : writeD d k s = { d with steps := d.steps + 1, waits := d.waits ++ [(k, s)] } := by unfold writeD; rw [hg, if_pos rfl, hst]
  rw [hwr]
  exact ⟨h1, h2, h3, h4, by simp only []; omega, by simp only []; omega, by simp; omega, hw2, h9⟩
theorem OnD.flushE {n : Int} {i j : Nat} {d : Dev} (h : OnD n i j d) : flushE d = 0 := by
  unfold Go.Proofs.Ytiighehibiijcaa.flushE
  rw [h.2.1, h.goes]
  rfl
theorem OnD.flush {n : Int} {i j : Nat} {d : Dev} (h : OnD n i j d) :
    OnD n (i + 1) 0 (flushR d) ∧ (∀ q, readD (flushR d) q = readD d q) ∧ (∀ q, safeD (flushR d) q = readD d q) ∧ (flushR d).waits = [] := by
  have hg := h.goes
  obtain ⟨h1, h2, h3, h4, h5, h6, h7, h8, h9⟩ := h
  have hf : flushR d = flushD (stepD d) := by simp [flushR, fluD, h2, hg]
  rw [hf]
  refine ⟨?_, flushD_readD d, flushD_safeD d, rfl⟩
  obtain ⟨f1, f2, f3, f4, f5⟩ := keepAll_fields (stepD d).waits (stepD d)
  have hst : stepD d = { d with steps := d.steps + 1 } := by simp [stepD, h3]
  have hs9 : SafeOk (keepAll (stepD d) (stepD d).waits) := keepAll_safe (n := n) _ _ (by rw [stepD_waits]; exact h8) (fun k s hk => h9 k s (by rw [← stepD_safe]; exact hk))
  unfold flushD
  refine ⟨f1.trans ?_, f2.trans ?_, f3.trans ?_, f4.trans ?_, ?_, ?_, Nat.le_refl _, (by intro p hp; cases hp), hs9⟩
  · rw [hst]; exact h1
  · rw [hst]; exact h2
  · rw [hst]; exact h3
  · rw [hst]; exact h4
  · simp only []; rw [f5, hst]; simp only []; omega
  · simp only []; rw [f5, hst]; simp only []; omega
theorem OnD.read {n : Int} {i j : Nat} {d : Dev} {k : Int} (h : OnD n i j d) (hk : hasD n k = true) : readE d k = 0 ∧ readS d k = readD d k := by
  unfold readE readS
  rw [h.2.1, h.1, hk]
  exact ⟨rfl, rfl⟩
theorem OnD.weak {n : Int} {i j i' j' : Nat} {d : Dev} (h : OnD n i j d) (hi : i ≤ i') (hj : j ≤ j') : OnD n i' j' d := by
  obtain ⟨h1, h2, h3, h4, h5, h6, h7, h8, h9⟩ := h
  exact ⟨h1, h2, h3, h4, h5, by omega, by omega, h8, h9⟩

/-! Behind a crash. -/
theorem crashN_none {ks : List Bool} {torn : Int} {cc : Nat} {d : Dev} {l : List (Int × List UInt8)} {k : Int} : ∀ i, (∀ p ∈ l.take i, p.1 ≠ k) → safeD (crashN ks torn cc d l i) k = safeD d k := by
  intro i
  induction i with
  | zero => intro _; rfl
  | succ i ih =>
    intro h
    unfold crashN
    split
    · rename_i p hp
      have hlt : i < l.length := (List.getElem?_eq_some_iff.1 hp).1
      have hpe : l[i] = p := (List.getElem?_eq_some_iff.1 hp).2
      have h0 : ∀ q ∈ l.take i, q.1 ≠ k := fun q hq => h q (by rw [List.take_add_one]; exact List.mem_append_left _ hq)
      have h1 : p.1 ≠ k := h p (by rw [List.take_add_one, hp]; simp)
      unfold crash1
      split
      · rw [safeD_keep, if_neg (fun e => h1 e.symm)]
        exact ih h0
      · exact ih h0
    · exact ih (fun q hq => h q (by rw [List.take_add_one]; exact List.mem_append_left _ hq))
/-- What a sector is behind a crash: as it was, or as one that waited for it, or that one's beginning over what it was when its turn came. -/
theorem crash_safeD (ks : List Bool) (torn : Int) (cc : Nat) (d : Dev) (k : Int) : safeD (crashD ks torn cc d) k = safeD (crashN ks torn cc d d.waits d.waits.length) k := safeD_same rfl k
end Go.Proofs.Ytiighehibiijcaa

/-
  A region that draws its order and ends in one store: a condition on the world that holds until that store; loads are taken first under it. No conditions beside those in each theorem.
-/
import Derived.Test.YtiighehibiijcaaBlk
import Derived.Deep.RegionHeld
import Derived.Deep.AppendLies
namespace Go.Proofs.Ytiighehibiijcaa
open Go.RowKit

section
variable {P : Program} {md : Region.Mode} {ops : Array Oper} {Q : Exit → Act → World → Prop} {S : World → Prop} {st : Nat}

/-- Whatever order is picked; S holds behind each operation but number st. -/
def Until (P : Program) (md : Region.Mode) (ops : Array Oper) (Q : Exit → Act → World → Prop) (S : World → Prop) (st : Nat) : Nat → Array Bool → Act → World → Prop
  | 0, seen, a, w => Region.ready md ops seen = [] ∧ Q .normal a w
  | n + 1, seen, a, w =>
    (Region.ready md ops seen = [] → Q .normal a w) ∧
    ∀ i ∈ Region.ready md ops seen, wpOp P ops Q i (fun b v => (i = st ∨ S v) ∧ Until P md ops Q S st n (seen.setIfInBounds i true) b v) a w

theorem until_any : ∀ (n : Nat) (seen : Array Bool) (a : Act) (w : World), Until P md ops Q S st n seen a w → wpAny P md ops Q n seen a w := by
  intro n
  induction n with
  | zero => intro seen a w h; exact h
  | succ n ih => intro seen a w h; exact ⟨h.1, fun i hi => wpOp_mono (fun b v hv => ih _ b v hv.2) (h.2 i hi)⟩

/-- Number st waits for number i. -/
def waitsFor (md : Region.Mode) (ops : Array Oper) (st i : Nat) : Bool := ((ops[st]?).map fun o => o.after.any fun e => Region.binds md e && e.on == i).getD false
theorem waitsFor_spec {i : Nat} {o : Oper} (h : waitsFor md ops st i = true) (ho : ops[st]? = some o) : ¬ ∀ e ∈ o.after, Region.binds md e = true → e.on ≠ i := by
  intro hn
  unfold waitsFor at h
  rw [ho] at h
  simp only [Option.map_some, Option.getD_some, Array.any_eq_true] at h
  obtain ⟨k, hk, he⟩ := h
  rw [Bool.and_eq_true] at he
  exact hn _ (Array.getElem_mem hk) he.1 (by simpa using he.2)

theorem until_first {i : Nat} {oi : Oper} {u : Value} (hi : ops[i]? = some oi) (hsel : ∀ (j : Nat) (o : Oper) cs b, ops[j]? = some o → o.op ≠ .select cs b)
    (hst : (decide (ops.size ≤ st) || waitsFor md ops st i) = true) (hQ : ∀ c a w, Q (.panic c) (a.put oi.dst u) w → Q (.panic c) a w) :
    ∀ (n : Nat) (seen : Array Bool) (a : Act) (w : World),
      (∀ j oj, ops[j]? = some oj → j ≠ i → seen.getD j true = false → (∀ e ∈ oj.after, Region.binds md e = true → e.on ≠ i) → oi.apart ops oj = true) →
      i ∈ Region.ready md ops seen → YieldsIf P ops S oi u a → S w →
      Until P md ops Q S st n (seen.setIfInBounds i true) (a.put oi.dst u) w → Until P md ops Q S st (n + 1) seen a w := by
  intro n
  induction n with
  | zero =>
    intro seen a w _ hr hy hS H
    refine ⟨fun h0 => absurd (h0 ▸ hr) (by simp), fun j hj => ?_⟩
    rcases Decidable.em (j = i) with rfl | hji
    · exact hy.wpOp hi hS ⟨.inr hS, H⟩
    · exact absurd (H.1 ▸ ready_mono hj hji) (by simp)
  | succ n ih =>
    intro seen a w hfree hr hy hS H
    refine ⟨fun h0 => absurd (h0 ▸ hr) (by simp), fun j hj => ?_⟩
    rcases Decidable.em (j = i) with rfl | hji
    · exact hy.wpOp hi hS ⟨.inr hS, H⟩
    · obtain ⟨hjun, oj, hoj, hall⟩ := mem_ready.1 hj
      have hun : seen.getD i true = false := (mem_ready.1 hr).1
      have hnot : ∀ e ∈ oj.after, Region.binds md e = true → e.on ≠ i := by
        rintro e he hb rfl
        have h1 := hall e he hb
        rcases Nat.lt_or_ge e.on seen.size with hlt | hge
        · simp [hlt] at h1 hun; rw [hun] at h1; cases h1
        · simp [Array.getElem?_eq_none hge] at h1
      have hjst : j ≠ st := by
        rintro rfl
        rcases Bool.or_eq_true_iff.1 hst with h0 | h0
        · have h1 := of_decide_eq_true h0
          rw [Array.getElem?_eq_none h1] at hoj
          cases hoj
        · exact waitsFor_spec h0 hoj hnot
      refine wpOp_mono (fun b v hv => ?_) (wpOp_putIf hoj (hfree j oj hoj hji hjun hnot) (fun cs b => hsel i oi cs b hi) (fun cs b => hsel j oj cs b hoj) hQ hy (H.2 j (ready_mono hj hji)))
      obtain ⟨hy', h1, h2⟩ := hv
      have hS' : S v := h1.resolve_left hjst
      refine ⟨h1, ih _ b v (fun k ok hk hki hu hno => hfree k ok hk hki ?_ hno) (ready_mono hr (Ne.symm hji)) hy' hS' ?_⟩
      · rcases Decidable.em (j = k) with rfl | hjk
        · exact hjun
        · rwa [getD_set_ne true hjk] at hu
      · rw [Array.setIfInBounds_comm _ _ hji]
        exact h2

/-- Take number i first; its slot is d. -/
theorem until_take (i : Nat) (d : Option Tmp) {oi : Oper} {u : Value} {n : Nat} {seen : Array Bool} {a : Act} {w : World} (hi : ops[i]? = some oi) (hd : oi.dst = d)
    (hs : Region.noSelect ops = true) (hf : Region.free md ops seen i = true) (hr : (Region.ready md ops seen).contains i = true) (hst : (decide (ops.size ≤ st) || waitsFor md ops st i) = true)
    (hQ : ∀ c a w, Q (.panic c) (a.put d u) w → Q (.panic c) a w) (hwant : Region.wanted oi (yielded ops a.tmps) = true) (hy : ∀ v, S v → (execOp a.eval oi).run P v = .ok (.value u) v) (hS : S w)
    (h : Until P md ops Q S st n (seen.setIfInBounds i true) (a.put d u) w) : Until P md ops Q S st (n + 1) seen a w := by
  subst hd
  exact until_first hi (Region.noSelect_spec hs) hst hQ n seen a w (Region.free_spec hi hf) (by simpa using hr) (.inl ⟨hwant, hy⟩) hS h
/-- Number i is not carried out; its slot is d. -/
theorem until_skip (i : Nat) (d : Option Tmp) {oi : Oper} {n : Nat} {seen : Array Bool} {a : Act} {w : World} (hi : ops[i]? = some oi) (hd : oi.dst = d)
    (hs : Region.noSelect ops = true) (hf : Region.free md ops seen i = true) (hr : (Region.ready md ops seen).contains i = true) (hst : (decide (ops.size ≤ st) || waitsFor md ops st i) = true)
    (hQ : ∀ c a w, Q (.panic c) (a.put d undef) w → Q (.panic c) a w) (hwant : Region.wanted oi (yielded ops a.tmps) = false) (hS : S w)
    (h : Until P md ops Q S st n (seen.setIfInBounds i true) (a.put d undef) w) : Until P md ops Q S st (n + 1) seen a w := by
  subst hd
  exact until_first hi (Region.noSelect_spec hs) hst hQ n seen a w (Region.free_spec hi hf) (by simpa using hr) (.inr ⟨hwant, rfl⟩) hS h
/-- All have come up. -/
theorem until_done {n : Nat} {seen : Array Bool} {a : Act} {w : World} (hn : Region.ready md ops seen = []) (hQ : Q .normal a w) : Until P md ops Q S st n seen a w := by
  cases n with
  | zero => exact ⟨hn, hQ⟩
  | succ n => exact ⟨fun _ => hQ, by rw [hn]; simp⟩
/-- One alone may come up: S is to be shown behind it. -/
theorem until_one (i : Nat) {o : Oper} {n : Nat} {seen : Array Bool} {a : Act} {w : World} (hr : Region.ready md ops seen = [i]) (ho : ops[i]? = some o)
    (h : ∀ K : Act → World → Prop, Shut (∀ b v, S v → (S v → Until P md ops Q S st n (seen.setIfInBounds i true) b v) → K b v) → if Region.wanted o (yielded ops a.tmps) = true then Oper.wp P o a w K Q else K (a.put o.dst undef) w) :
    Until P md ops Q S st (n + 1) seen a w := by
  refine ⟨fun h0 => absurd (h0 ▸ hr) (by simp), fun j hj => ?_⟩
  rw [hr] at hj
  obtain rfl : j = i := by simpa using hj
  exact wpOp_step ho fun K hK => h K (fun b v hS hW => hK b v ⟨.inr hS, hW hS⟩)
/-- The last one. -/
theorem until_last {o : Oper} {n : Nat} {seen : Array Bool} {a : Act} {w : World} (hr : Region.ready md ops seen = [st]) (ho : ops[st]? = some o) (hn : Region.ready md ops (seen.setIfInBounds st true) = [])
    (h : ∀ K : Act → World → Prop, Shut (∀ b v, Q .normal b v → K b v) → if Region.wanted o (yielded ops a.tmps) = true then Oper.wp P o a w K Q else K (a.put o.dst undef) w) :
    Until P md ops Q S st (n + 1) seen a w := by
  refine ⟨fun h0 => absurd (h0 ▸ hr) (by simp), fun j hj => ?_⟩
  rw [hr] at hj
  obtain rfl : j = st := by simpa using hj
  refine wpOp_step ho fun K hK => h K (fun b v hQ => hK b v ⟨.inl rfl, ?_⟩)
  cases n with
  | zero => exact ⟨hn, hQ⟩
  | succ n => exact ⟨fun _ => hQ, by rw [hn]; simp⟩
/-- The beginning. -/
theorem until_begin (st : Nat) {l : List Oper} {id : Nat} {a : Act} {w : World} (S : World → Prop) (hm : P.follows .mixedOrders = true) (hS : S w.drew)
    (h : S w.drew → Until P .any l.toArray Q S st l.length (Array.replicate l.length false) a w.drew) : (Code.region id l.toArray true).wp P Q a w :=
  wp_region_any hm (by simpa using until_any _ _ _ _ (h hS))
end
end Go.Proofs.Ytiighehibiijcaa

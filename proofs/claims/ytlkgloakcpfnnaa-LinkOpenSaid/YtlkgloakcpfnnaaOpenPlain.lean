/-
  Two chains with three ends each: what holds behind any hands that are shaken. The plain law of LinkOpen. No conditions beside those in each theorem.
-/
import Derived.Test.YtlkgloakcpfnnaaLaw15
namespace Go.Proofs.Ytlkgloakcpfnnaa
open Go.RowKit

/-- The name of an end; on what a chain's ends may stand. -/
def lname (c o : Nat) : List UInt8 := [(97 + c).toUInt8, (48 + o).toUInt8]
def lover (c b : Nat) : List UInt8 := [(107 + b).toUInt8, (97 + c).toUInt8]
theorem lname_part {c o : Nat} (hc : c < 2) (ho : o < 3) : partB (lname c o) = true := by
  have h : ∀ c, c < 2 → ∀ o, o < 3 → partB (lname c o) = true := by decide
  exact h c hc o ho
theorem lover_part {c b : Nat} (hc : c < 2) (hb : b < 2) : partB (lover c b) = true := by
  have h : ∀ c, c < 2 → ∀ o, o < 2 → partB (lover c o) = true := by decide
  exact h c hc b hb
theorem lname_inj {c o p : Nat} (ho : o < 3) (hp : p < 3) (h : lname c o = lname c p) : o = p := by
  have h2 : (48 + o).toUInt8 = (48 + p).toUInt8 := by
    unfold lname at h
    injection h with _ h
    injection h with h
  have h3 := congrArg UInt8.toNat h2
  simp at h3
  omega
def upd2 {α : Type} (f : Nat → Nat → α) (c o : Nat) (x : α) : Nat → Nat → α := fun c' o' => if c' = c ∧ o' = o then x else f c' o'
theorem upd2_same {α : Type} (f : Nat → Nat → α) (c o : Nat) (x : α) : upd2 f c o x c o = x := by simp [upd2]
theorem upd2_other {α : Type} (f : Nat → Nat → α) {c o c' o' : Nat} (x : α) (h : ¬ (c' = c ∧ o' = o)) : upd2 f c o x c' o' = f c' o' := by simp [upd2, h]
/-- What holds of one that is there; q: it has answered (it did not begin). -/
def GoodE (E : Nat → Nat → En) (T O : Nat → Nat → Bool) (c o : Nat) (e : En) (q : Bool) : Prop :=
  checkE e = true ∧
  (q = true → (e.1 = 2 ∨ e.1 = 3 ∨ e.1 = 4) ∧ ∃ t, t < 3 ∧ e.2.2.2 = lname (1 - c) t ∧ T (1 - c) t = true ∧ O (1 - c) t = false ∧ (E (1 - c) t).2.1 = e.2.2.1 ∧ (E (1 - c) t).2.2.1 = e.2.1 ∧ (3 ≤ e.1 → 3 ≤ (E (1 - c) t).1 ∧ (E (1 - c) t).2.2.2 = lname c o)) ∧
  (q = false → e.1 = 1 ∨ (3 ≤ e.1 ∧ ∃ t, t < 3 ∧ e.2.2.2 = lname (1 - c) t ∧ T (1 - c) t = true ∧ O (1 - c) t = true ∧ (E (1 - c) t).2.1 = e.2.2.1 ∧ (E (1 - c) t).2.2.1 = e.2.1 ∧ (E (1 - c) t).2.2.2 = lname c o))
def InvE (E : Nat → Nat → En) (T O : Nat → Nat → Bool) : Prop := ∀ c o, c < 2 → o < 3 → (T c o = true → GoodE E T O c o (E c o) (O c o)) ∧ (T c o = false → E c o = noEn)
theorem InvE.start : InvE (fun _ _ => noEn) (fun _ _ => false) (fun _ _ => false) := fun _ _ _ _ => ⟨(fun h => by cases h), fun _ => rfl⟩

theorem InvE.put {E : Nat → Nat → En} {T O : Nat → Nat → Bool} (h : InvE E T O) {c o : Nat} (hc : c < 2) (ho : o < 3) (x : En) (q : Bool) (hx : GoodE E T O c o x q)
    (hk : T c o = true → q = O c o ∧ x.2.1 = (E c o).2.1 ∧ x.2.2.1 = (E c o).2.2.1 ∧ (O c o = true → x.2.2.2 = (E c o).2.2.2) ∧ (3 ≤ (E c o).1 → 3 ≤ x.1 ∧ x.2.2.2 = (E c o).2.2.2)) :
    InvE (upd2 E c o x) (upd2 T c o true) (upd2 O c o q) := by
  intro c' o' hc' ho'
  have far : ∀ t, ¬ (1 - c = c ∧ t = o) := fun t e => by omega
  by_cases heq : c' = c ∧ o' = o
  · obtain ⟨rfl, rfl⟩ := heq
    refine ⟨fun _ => ?_, (fun e => by rw [upd2_same] at e; cases e)⟩
    rw [upd2_same, upd2_same]
    obtain ⟨h1, h2, h3⟩ := hx
    refine ⟨h1, fun hq => ?_, fun hq => ?_⟩
    · obtain ⟨a, t, ht, a1, a2, a3, a4, a5, a6⟩ := h2 hq
      refine ⟨a, t, ht, a1, ?_⟩
      rw [upd2_other _ _ (far t), upd2_other _ _ (far t), upd2_other _ _ (far t)]
      exact ⟨a2, a3, a4, a5, a6⟩
    · rcases h3 hq with a | ⟨a, t, ht, a1, a2, a3, a4, a5, a6⟩
      · exact .inl a
      · refine .inr ⟨a, t, ht, a1, ?_⟩
        rw [upd2_other _ _ (far t), upd2_other _ _ (far t), upd2_other _ _ (far t)]
        exact ⟨a2, a3, a4, a5, a6⟩
  · rw [upd2_other _ _ heq, upd2_other _ _ heq, upd2_other _ _ heq]
    obtain ⟨g1, g2⟩ := h c' o' hc' ho'
    refine ⟨fun ht' => ?_, g2⟩
    obtain ⟨h1, h2, h3⟩ := g1 ht'
    refine ⟨h1, fun hq => ?_, fun hq => ?_⟩
    · obtain ⟨a, t, ht, a1, a2, a3, a4, a5, a6⟩ := h2 hq
      refine ⟨a, t, ht, a1, ?_⟩
      by_cases hto : 1 - c' = c ∧ t = o
      · obtain ⟨rfl, rfl⟩ := hto
        rw [upd2_same, upd2_same, upd2_same]
        obtain ⟨k1, k2, k3, k4, k5⟩ := hk a2
        refine ⟨rfl, k1.trans a3, k2.trans a4, k3.trans a5, fun h3 => ?_⟩
        obtain ⟨b1, b2⟩ := a6 h3
        obtain ⟨d1, d2⟩ := k5 b1
        exact ⟨d1, d2.trans b2⟩
      · rw [upd2_other _ _ hto, upd2_other _ _ hto, upd2_other _ _ hto]
        exact ⟨a2, a3, a4, a5, a6⟩
    · rcases h3 hq with a | ⟨a, t, ht, a1, a2, a3, a4, a5, a6⟩
      · exact .inl a
      · refine .inr ⟨a, t, ht, a1, ?_⟩
        by_cases hto : 1 - c' = c ∧ t = o
        · obtain ⟨rfl, rfl⟩ := hto
          rw [upd2_same, upd2_same, upd2_same]
          obtain ⟨k1, k2, k3, k4, k5⟩ := hk a2
          exact ⟨rfl, k1.trans a3, k2.trans a4, k3.trans a5, (k4 a3).trans a6⟩
        · rw [upd2_other _ _ hto, upd2_other _ _ hto, upd2_other _ _ hto]
          exact ⟨a2, a3, a4, a5, a6⟩

section
variable {E : Nat → Nat → En} {T O : Nat → Nat → Bool} {c o t : Nat}
theorem check_parts {e : En} (h : checkE e = true) : partB e.2.1 = true ∧ partB e.2.2.1 = true := by
  unfold checkE at h
  split at h
  · simp only [Bool.and_eq_true] at h; exact h.1
  · split at h
    · simp only [Bool.and_eq_true] at h; exact h.1
    · cases h
theorem check_mk {st : Int} {a b p : List UInt8} (hs : st = 2 ∨ st = 3 ∨ st = 4) (ha : partB a = true) (hb : partB b = true) (hp : partB p = true) : checkE (st, a, b, p) = true := by
  unfold checkE
  rw [if_neg (by simp only []; omega), if_pos (by simpa using hs)]
  simp [ha, hb, hp]
theorem InvE.tryer (h : InvE E T O) (hc : c < 2) (ho : o < 3) (ht : T c o = true) (h2 : (E c o).1 = 2) : O c o = true := by
  obtain ⟨g, -⟩ := h c o hc ho
  obtain ⟨-, -, g3⟩ := g ht
  rcases hO : O c o with _ | _
  · rcases g3 hO with a | ⟨a, -⟩ <;> omega
  · rfl
theorem InvE.beginner (h : InvE E T O) (hc : c < 2) (ho : o < 3) (ht : T c o = true) (h2 : (E c o).1 = 1) : O c o = false := by
  obtain ⟨g, -⟩ := h c o hc ho
  obtain ⟨-, g2, -⟩ := g ht
  rcases hO : O c o with _ | _
  · rfl
  · obtain ⟨a, -⟩ := g2 hO; omega
theorem InvE.init (h : InvE E T O) (hc : c < 2) (ho : o < 3) {b b' : Nat} (hb : b < 2) (hb' : b' < 2) (hT : T c o = false) {x : En} (hx : initR (lover c b) (lover (1 - c) b') = (x, 0)) :
    InvE (upd2 E c o x) (upd2 T c o true) (upd2 O c o false) := by
  have h1 := lover_part hc hb
  have h2 := lover_part (c := 1 - c) (by omega) hb'
  unfold initR at hx
  rw [h1, h2] at hx
  simp only [Bool.and_self, if_true, Prod.mk.injEq, and_true] at hx
  subst hx
  refine h.put hc ho _ _ ⟨?_, (fun e => by cases e), fun _ => .inl rfl⟩ (fun e => by rw [hT] at e; cases e)
  unfold checkE
  rw [if_pos rfl, h1, h2]
  rfl
theorem InvE.answer (h : InvE E T O) (hc : c < 2) (ho : o < 3) (ht : t < 3) {b : Nat} (hT : T c o = false) (hT' : T (1 - c) t = true) {x : En} (hx : tryR (lover c b) (lname (1 - c) t) (E (1 - c) t) = (x, 0)) :
    InvE (upd2 E c o x) (upd2 T c o true) (upd2 O c o true) := by
  unfold tryR at hx
  split at hx
  · simp at hx
  · rename_i h1
    split at hx
    · simp at hx
    · rename_i h2
      simp only [Prod.mk.injEq, and_true] at hx
      subst hx
      simp only [Bool.not_eq_false, Bool.and_eq_true, isE, decide_eq_true_eq] at h1 h2
      obtain ⟨p1, p2⟩ := h1
      obtain ⟨⟨s1, s2⟩, s3⟩ := h2
      obtain ⟨q1, q2⟩ := check_parts s2
      refine h.put hc ho _ _ ⟨check_mk (.inl rfl) p1 q1 p2, fun _ => ⟨.inl rfl, t, ht, rfl, hT', h.beginner (by omega) ht hT' s1, rfl, s3, fun e => ?_⟩, fun e => by cases e⟩ (fun e => by rw [hT] at e; cases e)
      simp only [] at e
      omega
theorem opens_inv {own t : En} {k k' : Int} {id p : List UInt8} {x : En} (hx : opensR own k id p t k' = (x, 0)) : own.1 = k ∧ checkE own = true ∧ t.1 = k' ∧ checkE t = true ∧ t.2.1 = own.2.2.1 ∧ t.2.2.1 = own.2.1 ∧ t.2.2.2 = id ∧ x = (3, own.2.1, own.2.2.1, p) := by
  unfold opensR at hx
  split at hx
  · rename_i h1
    simp only [Prod.mk.injEq, and_true] at hx
    simp only [Bool.and_eq_true, isE, meansE, decide_eq_true_eq] at h1
    obtain ⟨⟨⟨a1, a2⟩, a3, a4⟩, ⟨a5, a6⟩, a7⟩ := h1
    exact ⟨a1, a2, a3, a4, a5, a6, a7, hx.symm⟩
  · simp at hx
theorem InvE.ack (h : InvE E T O) (hc : c < 2) (ho : o < 3) (ht : t < 3) (hT : T c o = true) (hT' : T (1 - c) t = true) {x : En} (hx : ackR (E c o) (lname c o) (lname (1 - c) t) (E (1 - c) t) = (x, 0)) :
    InvE (upd2 E c o x) (upd2 T c o true) (upd2 O c o (O c o)) := by
  unfold ackR at hx
  rw [lname_part hc ho, lname_part (by omega) ht] at hx
  simp only [Bool.and_self, Bool.true_eq_false, if_false] at hx
  obtain ⟨a1, a2, a3, a4, a5, a6, a7, rfl⟩ := opens_inv hx
  have hO := h.beginner hc ho hT a1
  have hO' := h.tryer (by omega) ht hT' a3
  obtain ⟨q1, q2⟩ := check_parts a2
  refine h.put hc ho _ _ ⟨check_mk (.inr (.inl rfl)) q1 q2 (lname_part (by omega) ht), fun e => (by rw [hO] at e; cases e), fun _ => .inr ⟨?_, t, ht, rfl, hT', hO', a5, a6, a7⟩⟩
    (fun _ => ⟨rfl, rfl, rfl, fun e => (by rw [hO] at e; cases e), fun e => by omega⟩)
  simp only []
  omega
theorem InvE.confirm (h : InvE E T O) (hc : c < 2) (ho : o < 3) (ht : t < 3) (hT : T c o = true) (hT' : T (1 - c) t = true) {x : En} (hx : confirmR (E c o) (lname c o) (E (1 - c) t) = (x, 0)) :
    InvE (upd2 E c o x) (upd2 T c o true) (upd2 O c o (O c o)) := by
  unfold confirmR at hx
  obtain ⟨a1, a2, a3, a4, a5, a6, a7, rfl⟩ := opens_inv hx
  have hO := h.tryer hc ho hT a1
  obtain ⟨q1, q2⟩ := check_parts a2
  obtain ⟨-, g2, -⟩ := (h c o hc ho).1 hT
  obtain ⟨-, t0, ht0, b1, b2, b3, b4, b5, -⟩ := g2 hO
  have hcc : 1 - (1 - c) = c := by omega
  obtain ⟨-, k2, k3⟩ := (h (1 - c) t (by omega) ht).1 hT'
  have hO' : O (1 - c) t = false := by
    rcases hO' : O (1 - c) t with _ | _
    · rfl
    · obtain ⟨-, t1, ht1, d1, d2, d3, -⟩ := k2 hO'
      rw [hcc] at d1 d3
      rw [a7] at d1
      obtain rfl := lname_inj ho ht1 d1
      rw [hO] at d3
      cases d3
  have htt : t = t0 := by
    rcases k3 hO' with d | ⟨-, t1, ht1, d1, d2, d3, d4, d5, d6⟩
    · omega
    · rw [hcc] at d1 d6
      rw [a7] at d1
      obtain rfl := lname_inj ho ht1 d1
      rw [b1] at d6
      exact (lname_inj ht0 ht d6).symm
  subst htt
  have hpp : partB (E c o).2.2.2 = true := by rw [b1]; exact lname_part (by omega) ht
  exact h.put hc ho _ _ ⟨check_mk (.inr (.inl rfl)) q1 q2 hpp, fun _ => ⟨.inr (.inl rfl), t, ht, b1, hT', hO', a5, a6, fun _ => ⟨by omega, a7⟩⟩, fun e => (by rw [hO] at e; cases e)⟩
    (fun _ => ⟨rfl, rfl, rfl, fun _ => rfl, fun e => by omega⟩)
theorem InvE.close (h : InvE E T O) (hc : c < 2) (ho : o < 3) (hT : T c o = true) {x : En} (hx : closeR (E c o) = (x, 0)) :
    InvE (upd2 E c o x) (upd2 T c o true) (upd2 O c o (O c o)) := by
  unfold closeR at hx
  split at hx
  · rename_i h1
    simp only [Prod.mk.injEq, and_true] at hx
    subst hx
    simp only [Bool.and_eq_true, isE, decide_eq_true_eq] at h1
    obtain ⟨s1, s2⟩ := h1
    obtain ⟨-, g2, g3⟩ := (h c o hc ho).1 hT
    obtain ⟨q1, q2⟩ := check_parts s2
    have hpp : partB (E c o).2.2.2 = true := by
      unfold checkE at s2
      rw [if_neg (by omega), if_pos (by omega)] at s2
      simp only [Bool.and_eq_true] at s2
      exact s2.2
    refine h.put hc ho _ _ ⟨check_mk (.inr (.inr rfl)) q1 q2 hpp, fun e => ?_, fun e => ?_⟩ (fun _ => ⟨rfl, rfl, rfl, fun _ => rfl, fun e => ⟨by simp only []; omega, rfl⟩⟩)
    · obtain ⟨-, t, ht, b1, b2, b3, b4, b5, b6⟩ := g2 e
      exact ⟨.inr (.inr rfl), t, ht, b1, b2, b3, b4, b5, fun _ => b6 (by omega)⟩
    · rcases g3 e with d | ⟨-, d⟩
      · omega
      · exact .inr ⟨by simp only []; omega, d⟩
  · simp at hx
/-- An open end's peer, as it stands. -/
theorem InvE.peer (h : InvE E T O) (hc : c < 2) (ho : o < 3) (h3 : (E c o).1 = 3) {n : Nat} (hn : n < 3) (hp : lname (1 - c) n = (E c o).2.2.2) :
    T (1 - c) n = true ∧ (E (1 - c) n).2.1 = (E c o).2.2.1 ∧ (E (1 - c) n).2.2.1 = (E c o).2.1 ∧ 2 ≤ (E (1 - c) n).1 ∧ (E (1 - c) n).2.2.2 = lname c o := by
  have hT : T c o = true := by
    rcases hT : T c o with _ | _
    · rw [(h c o hc ho).2 hT] at h3
      cases h3
    · rfl
  obtain ⟨-, g2, g3⟩ := (h c o hc ho).1 hT
  rcases hO : O c o with _ | _
  · rcases g3 hO with d | ⟨-, t, ht, b1, b2, b3, b4, b5, b6⟩
    · omega
    · rw [b1] at hp
      obtain rfl := lname_inj hn ht hp
      obtain ⟨-, k2, -⟩ := (h (1 - c) n (by omega) ht).1 b2
      obtain ⟨k4, -⟩ := k2 b3
      exact ⟨b2, b4, b5, by omega, b6⟩
  · obtain ⟨-, t, ht, b1, b2, b3, b4, b5, b6⟩ := g2 hO
    rw [b1] at hp
    obtain rfl := lname_inj hn ht hp
    obtain ⟨b7, b8⟩ := b6 (by omega)
    exact ⟨b2, b4, b5, by omega, b8⟩
/-- Two that are open: the one means the other one just if it is meant. -/
theorem InvE.both (h : InvE E T O) (ho : o < 3) (ht : t < 3) (ha : (E 0 o).1 = 3) (hb : (E 1 t).1 = 3) : (E 0 o).2.2.2 = lname 1 t ↔ (E 1 t).2.2.2 = lname 0 o :=
  ⟨fun e => (h.peer (c := 0) (by omega) ho ha ht e.symm).2.2.2.2, fun e => (h.peer (c := 1) (by omega) ht hb ho e.symm).2.2.2.2⟩
end
end Go.Proofs.Ytlkgloakcpfnnaa

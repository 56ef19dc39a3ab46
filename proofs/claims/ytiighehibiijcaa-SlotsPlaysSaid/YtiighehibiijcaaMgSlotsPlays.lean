/-
  Both logs as SlotsPlays holds them; what its calls leave of them. For devices of 3 to 34 sectors, records of at most 1000 bytes.
  Both logs behind Open of both devices, as SlotsPlays holds them; a text of 1000 zero bytes. For devices of 3 to 34 sectors.
  How the calls of SlotsPlays that came in are spelled for the walk. No conditions beside those in each theorem.
  The walk of SlotsPlays: it returns true for any number of sectors and any calls. No conditions beside those in each theorem.
  The statement twinspanlaw07.SlotsPlays: for every input the law returns true, and its arguments read as before. The walk is in SlotsPlays; here is the row round it. No conditions.
-/
import Derived.Test.YtiighehibiijcaaMgSlotsPlaysb
import Derived.ProofKit
import Derived.OpenShut
import Derived.ShutString
import Derived.ChangeOld
import Derived.Below
namespace Go.Proofs.Ytiighehibiijcaa
open Go.RowKit
set_option linter.unusedSimpArgs false
set_option linter.unnecessarySimpa false
set_option linter.unusedVariables false

/-- A log's numbers behind j steps. -/
def LogP (n : Int) (j : Nat) (x : Log) (L : List UInt8) : Prop := x.fin = finB L ∧ x.mark.2.1 = (L.length : Int) ∧ x.mark.2.1 ≤ (n - 2) * 64 ∧ 0 ≤ x.mark.1 ∧ x.mark.1 ≤ 1099511627776 + (j : Int) ∧ 0 ≤ x.mark.2.2 ∧ x.mark.2.2 ≤ 1099511627776 + (j : Int)
theorem LogP.ok {n : Int} {j : Nat} {x : Log} {L : List UInt8} (h : LogP n j x L) (n1 : n ≤ 34) (hj : j ≤ 100000) : LogOk x := by
  obtain ⟨h1, h2, h3, h4, h5, h6, h7⟩ := h
  refine ⟨h4, by omega, by omega, by omega, h6, by omega, ?_⟩
  rw [h1, finB_length]; omega
theorem LogP.len {n : Int} {j : Nat} {x : Log} {L : List UInt8} (h : LogP n j x L) (n1 : n ≤ 34) : L.length ≤ 2048 := by
  obtain ⟨h1, h2, h3, h4, h5, h6, h7⟩ := h
  omega
theorem LogP.more {n : Int} {j i : Nat} {x : Log} {L : List UInt8} (h : LogP n j x L) (hi : j ≤ i) : LogP n i x L := by
  obtain ⟨h1, h2, h3, h4, h5, h6, h7⟩ := h
  exact ⟨h1, h2, h3, h4, by omega, h6, by omega⟩
theorem commitR_mark (d : Dev) (x : Log) (rec : List UInt8) : (commitR d x rec).1.mark = x.mark ∨ ((commitR d x rec).1.mark = nextM x (tRec rec) ∧ x.mark.2.1 + ((tRec rec).length : Int) ≤ roomD d) := by
  unfold commitR
  split
  · exact .inl rfl
  · split
    · exact .inl rfl
    · rename_i h
      unfold commitS
      split
      · exact .inl rfl
      · exact .inr ⟨rfl, by omega⟩
theorem commitR_log {n : Int} {j : Nat} {d : Dev} {x : Log} {L L' rec : List UInt8} (h : LogP n j x L) (hn : d.n = n) (h1 : (commitR d x rec).1.fin = finB L') (h2 : (commitR d x rec).1.mark.2.1 = (L'.length : Int)) : LogP n (j + 30) (commitR d x rec).1 L' := by
  obtain ⟨a1, a2, a3, a4, a5, a6, a7⟩ := h
  rcases commitR_mark d x rec with e | ⟨e, hr⟩
  · exact ⟨h1, h2, by rw [e]; exact a3, by rw [e]; exact a4, by rw [e]; omega, by rw [e]; exact a6, by rw [e]; omega⟩
  · unfold roomD at hr
    refine ⟨h1, h2, ?_, ?_, ?_, ?_, ?_⟩
    · rw [e]; show x.mark.2.1 + ((tRec rec).length : Int) ≤ _; rw [← hn]; exact hr
    · rw [e]; show 0 ≤ x.mark.1 + 1; omega
    · rw [e]; show x.mark.1 + 1 ≤ _; omega
    · rw [e]; show 0 ≤ x.mark.2.2 + 1; omega
    · rw [e]; show x.mark.2.2 + 1 ≤ _; omega
theorem commitR_okP {n : Int} {j : Nat} {d : Dev} {x : Log} {L rec : List UInt8} (h : LogP n j x L) (hp : OkP n j d) (n1 : n ≤ 34) (hr : rec.length ≤ 1000) : OkP n (j + 30) (commitR d x rec).2.1 := by
  obtain ⟨a1, a2, a3, a4, a5, a6, a7⟩ := h
  have hks : ksL x (tRec rec) + 4 ≤ 30 := by
    have h1 := tRec_most rec
    unfold ksL
    rw [List.length_append, a1, finB_length]
    omega
  have hat : 0 ≤ atL x ∧ atL x ≤ 1000000 := by unfold atL; omega
  have hI := fun i hi => hp.devI (k := ksL x (tRec rec)) (a := atL x) (s := x.fin ++ tRec rec) (m := nextM x (tRec rec)) hat.1 (by omega) (by show 0 ≤ x.mark.1 + 1; omega) i hi
  unfold commitR
  split
  · exact hp.le (by omega)
  · split
    · exact hp.le (by omega)
    · unfold commitS
      split
      · rename_i hb
        exact (hI _ (by omega)).le (by omega)
      · exact (hI 4 (by omega)).le (by omega)
theorem cap_next {a b j : Nat} (h : a ≤ j * 140000) (hc : b ≤ a + 4000000) : b ≤ (j + 30) * 140000 := by
  rw [Nat.add_mul]
  exact Nat.le_trans hc (Nat.add_le_add h (by decide))
/-- W: the world at the statement's start. -/
def P7 (W w : World) (g gm h rh y : Nat) (sv : Value) (B2 : Nat) (n : Int) (j : Nat) (v rv : Value) (cap : Nat) (D : Dev) (x : Log) (L : List UInt8) : Prop :=
  IsDev w g gm v cap gm D ∧ IsLog w h g x ∧ IsRef w rh sv rv B2 D ∧ IsRL w y rh x.mark L x.broken ∧ Apart rv v ∧ OkP n j D ∧ LogP n j x L ∧ (W.heap.size ≤ gm ∧ W.heap.size ≤ B2 ∧ W.heap.size ≤ h ∧ W.heap.size ≤ y) ∧ Below W.heap.size W w ∧ cap ≤ j * 140000
section
variable {W w w' : World} {g gm h rh y B2 j cap : Nat} {sv v rv : Value} {n : Int} {D : Dev} {x : Log} {L rec : List UInt8}
theorem P7.step (H : P7 W w g gm h rh y sv B2 n j v rv cap D x L) (hb : Below w.heap.size w w') : P7 W w' g gm h rh y sv B2 n j v rv cap D x L := by
  obtain ⟨h1, h2, h3, h4, h5, h6, h7, h8, h9, h10⟩ := H
  exact ⟨h1.step hb, Blk.step h2 hb, h3.step hb, Blk.step h4 hb, h5, h6, h7, h8, bel_step h9 hb, h10⟩
/-- Commit of the log: the document's one is as it was. -/
theorem P7.commit (H : P7 W w g gm h rh y sv B2 n j v rv cap D x L) (n0 : 3 ≤ n) (n1 : n ≤ 34) (hr : rec.length ≤ 1000) (hj : j ≤ 7000) (R : Log × Dev × Int) (hR : commitR D x rec = R) :
    Calls Try.prog 40 #[.pointer (some ⟨h, 0, none⟩), str rec] w fun e w' => e = .returned (.int .i64 R.2.2) ∧ ∃ v' cap', cap' ≤ cap + 4000000 ∧ IsDev w' g gm v' cap' gm R.2.1 ∧ IsLog w' h g R.1 ∧ IsRef w' rh sv rv B2 D ∧ IsRL w' y rh x.mark L x.broken ∧ Apart rv v' ∧
      Below W.heap.size W w' ∧ TouchL h g gm w v w' v' := by
  obtain ⟨h1, h2, h3, h4, h5, h6, h7, ⟨a1, a2, a3, a4⟩, h9, h10⟩ := H
  have h6' : OkP D.n j D := by rw [h6.1]; exact h6
  refine (commit_any w h g gm v cap gm D x rec h2 h1 (by omega) (by rw [h6.1]; omega) (by rw [h6.1]; omega) (h7.ok n1 (by omega)) j h6' (by omega) (by omega) R hR).mono ?_
  rintro e w' ⟨v', cap', rfl, hc, hd, hx, ht⟩
  obtain ⟨b1, b2⟩ := h3.besideL h1 h2 ht h5
  exact ⟨rfl, v', cap', hc, hd, hx, b1, h1.keepL ht h2 h4 (by decide) (by decide) (by decide), b2, h9.trans (h1.belowL ht a1 a3 h9.size), ht⟩
/-- Then Commit of the document's log: both go on. -/
theorem P7.commit2 (H : P7 W w g gm h rh y sv B2 n j v rv cap D x L) (n0 : 3 ≤ n) (n1 : n ≤ 34) (hr : rec.length ≤ 1000) (hj : j ≤ 7000) (R : Log × Dev × Int) (hR : commitR D x rec = R) {v' : Value} {cap' : Nat} (hc : cap' ≤ cap + 4000000)
    (hd : IsDev w' g gm v' cap' gm R.2.1) (hx : IsLog w' h g R.1) (hf : IsRef w' rh sv rv B2 D) (hl : IsRL w' y rh x.mark L x.broken) (ha : Apart rv v') (hb : Below W.heap.size W w') :
    Calls Try.prog 46 #[.pointer (some ⟨y, 0, none⟩), str rec] w' fun e w2 => e = .returned (.int .i64 R.2.2) ∧ ∃ rv2 L2, P7 W w2 g gm h rh y sv B2 n (j + 30) v' rv2 cap' R.2.1 R.1 L2 := by
  obtain ⟨h1, h2, h3, h4, h5, h6, h7, ⟨a1, a2, a3, a4⟩, h9, h10⟩ := H
  have h6' : OkP D.n j D := by rw [h6.1]; exact h6
  refine (refCommit_any w' y rh sv rv B2 D x L rec hl hf h7.1 h7.2.1 (by omega) (by rw [h6.1]; exact n0) (by rw [h6.1]; omega) (h7.ok n1 (by omega)) j h6' (by omega) R hR).mono ?_
  rintro e w2 ⟨rv2, L2, rfl, hf2, hl2, e1, e2, ht⟩
  obtain ⟨b1, b2⟩ := hd.besideR hf hl ht ha
  have hlog : LogP n (j + 30) R.1 L2 := by
    rw [← hR] at e1 e2 ⊢
    exact commitR_log h7 h6.1 e1 e2
  have hok : OkP n (j + 30) R.2.1 := by
    rw [← hR]
    exact commitR_okP h7 h6 n1 hr
  exact ⟨rfl, rv2, L2, b1, hf.keepL hl ht hx (by decide) (by decide) (by decide) (by decide), hf2, hl2, b2, hok, hlog, ⟨a1, a2, a3, a4⟩, hb.trans (hf.belowL ht a2 a4 hb.size), cap_next h10 hc⟩
/-- Arm of both devices. -/
theorem P7.arm (H : P7 W w g gm h rh y sv B2 n j v rv cap D x L) (k : Int) :
    Calls Try.prog 26 #[.pointer (some ⟨g, 0, none⟩), .int .i64 k] w fun e w' => e = .returned (.tuple #[]) ∧ IsDev w' g gm v cap gm (armD D k) ∧ IsLog w' h g x ∧ IsRef w' rh sv rv B2 D ∧ IsRL w' y rh x.mark L x.broken ∧ Below W.heap.size W w' ∧ Touch g gm w v w' v := by
  obtain ⟨h1, h2, h3, h4, h5, h6, h7, ⟨a1, a2, a3, a4⟩, h9, h10⟩ := H
  refine (arm_any w g gm v cap gm D k h1).mono ?_
  rintro e w' ⟨rfl, hd, ht⟩
  obtain ⟨b1, b2⟩ := h3.beside h1 ht h5
  exact ⟨rfl, hd, h1.keep ht h2 (by decide) (by decide), b1, h1.keep ht h4 (by decide) (by decide), h9.trans (h1.below ht a1 h9.size), ht⟩
theorem P7.arm2 (H : P7 W w g gm h rh y sv B2 n j v rv cap D x L) {k : Int} (hk : k ≤ 100) (hd : IsDev w' g gm v cap gm (armD D k)) (hx : IsLog w' h g x) (hf : IsRef w' rh sv rv B2 D) (hl : IsRL w' y rh x.mark L x.broken) (hb : Below W.heap.size W w') :
    Calls Try.prog 31 #[.pointer (some ⟨rh, 0, none⟩), .int .i64 k] w' fun e w2 => e = .returned (.tuple #[]) ∧ P7 W w2 g gm h rh y sv B2 n (j + 30) v rv cap (armD D k) x L ∧ RTouch rh sv w' rv w2 rv := by
  obtain ⟨h1, h2, h3, h4, h5, h6, h7, ⟨a1, a2, a3, a4⟩, h9, h10⟩ := H
  refine (refArm_any w' rh sv rv B2 D k hf).mono ?_
  rintro e w2 ⟨rfl, hf2, ht⟩
  obtain ⟨b1, b2⟩ := hd.beside hf ht h5
  exact ⟨rfl, ⟨b1, hf.keep ht hx (by decide) (by decide) (by decide), hf2, hf.keep ht hl (by decide) (by decide) (by decide), b2, (h6.arm hk).le (by omega), h7.more (by omega), ⟨a1, a2, a3, a4⟩, hb.trans (hf.below ht a2 hb.size), cap_next h10 (Nat.le_add_right _ _)⟩, ht⟩
theorem KeepIs.ofRead8 {W w : World} {g gm : Nat} {v kv : Value} {cap B : Nat} {d : Dev} {ks : List Bool} (hR : ReadBl W kv ks) (hd : IsDev w g gm v cap B d) (hB : Below W.heap.size W w) (hBB : W.heap.size ≤ B) : KeepIs w g gm v kv ks := by
  obtain ⟨h1, p, c, rfl, h2⟩ := hR
  refine ⟨h1, p, c, rfl, fun h => ?_⟩
  obtain ⟨b, o, rfl, hb, hc⟩ := h2 h
  refine ⟨b, o, rfl, Nat.lt_of_lt_of_le hb hB.size, fun w' v' ht i hi => ?_⟩
  have hb2 := hd.below ht hBB hB.size
  exact ((hb2.cell (p := ⟨b, o + i, Option.none⟩) hb).trans (hB.cell (p := ⟨b, o + i, Option.none⟩) hb)).trans (hc i hi)
/-- A crash of both devices. -/
theorem P7.crash (H : P7 W w g gm h rh y sv B2 n j v rv cap D x L) {kv : Value} {ks : List Bool} (hk : ReadBl W kv ks) (n0 : 3 ≤ n) (hj : j ≤ 7000) (torn cut : Int) :
    Calls Try.prog 25 #[.pointer (some ⟨g, 0, none⟩), kv, .int .i64 torn, .int .i64 cut] w fun e w' => e = .returned (.tuple #[]) ∧ ∃ cap', cap' ≤ cap + 4000000 ∧ IsDev w' g gm (.slice none 0 0) cap' gm (crashD ks torn (min (max cut 0) 64).toNat D) ∧ IsLog w' h g x ∧ IsRef w' rh sv rv B2 D ∧
      IsRL w' y rh x.mark L x.broken ∧ Apart rv (.slice none 0 0) ∧ Below W.heap.size W w' ∧ Touch g gm w v w' (.slice none 0 0) := by
  obtain ⟨h1, h2, h3, h4, h5, h6, h7, ⟨a1, a2, a3, a4⟩, h9, h10⟩ := H
  have hwl : D.waits.length ≤ j := h6.2.2.2.2.2.1
  refine (crash_any w g gm v kv cap gm D ks torn cut h1 (KeepIs.ofRead8 hk h1 h9 a1) h6.2.2.2.2.2.2.2 (by rw [h6.1]; exact h6.2.2.2.2.2.2.1) (by rw [h6.1]; omega) (by omega)).mono ?_
  rintro e w' ⟨rfl, cap', hc, hd, ht⟩
  obtain ⟨b1, b2⟩ := h3.beside h1 ht h5
  exact ⟨rfl, cap', by omega, hd, h1.keep ht h2 (by decide) (by decide), b1, h1.keep ht h4 (by decide) (by decide), b2, h9.trans (h1.below ht a1 h9.size), ht⟩
theorem P7.crash2 (H : P7 W w g gm h rh y sv B2 n j v rv cap D x L) {kv : Value} {ks : List Bool} (hk : ReadBl W kv ks) (n0 : 3 ≤ n) (n1 : n ≤ 34) (hj : j ≤ 7000) (torn cut : Int) {cap' : Nat} (hc : cap' ≤ cap + 4000000)
    (hd : IsDev w' g gm (.slice none 0 0) cap' gm (crashD ks torn (min (max cut 0) 64).toNat D)) (hx : IsLog w' h g x) (hf : IsRef w' rh sv rv B2 D) (hl : IsRL w' y rh x.mark L x.broken) (ha : Apart rv (.slice none 0 0)) (hb : Below W.heap.size W w') :
    Calls Try.prog 32 #[.pointer (some ⟨rh, 0, none⟩), kv, .int .i64 torn, .int .i64 cut] w' fun e w2 => e = .returned (.tuple #[]) ∧ ∃ rv2, P7 W w2 g gm h rh y sv B2 n (j + 30) (.slice none 0 0) rv2 cap' (crashD ks torn (min (max cut 0) 64).toNat D) x L ∧ RTouch rh sv w' rv w2 rv2 := by
  obtain ⟨h1, h2, h3, h4, h5, h6, h7, ⟨a1, a2, a3, a4⟩, h9, h10⟩ := H
  have hwl : D.waits.length ≤ j := h6.2.2.2.2.2.1
  refine (refCrash_any W w' rh sv rv kv B2 D ks torn cut hf hk a2 hb h6.2.2.2.2.2.2.2 (by rw [h6.1]; exact h6.2.2.2.2.2.2.1) (by rw [h6.1]; omega) (by rw [h6.1]; omega) (by omega)).mono ?_
  rintro e w2 ⟨rfl, rv2, hf2, ht⟩
  obtain ⟨b1, b2⟩ := hd.beside hf ht ha
  exact ⟨rfl, rv2, ⟨b1, hf.keep ht hx (by decide) (by decide) (by decide), hf2, hf.keep ht hl (by decide) (by decide) (by decide), b2, (h6.crash ks torn (by omega)).le (by omega), h7.more (by omega), ⟨a1, a2, a3, a4⟩, hb.trans (hf.below ht a2 hb.size), cap_next h10 hc⟩, ht⟩
end
end Go.Proofs.Ytiighehibiijcaa

namespace Go.Proofs.Ytiighehibiijcaa
open Go.RowKit
set_option linter.unusedSimpArgs false
set_option linter.unnecessarySimpa false
set_option linter.unusedVariables false

/-- Both devices, without logs. W: the world at the statement's start. -/
def Two7 (W w : World) (g gm rh : Nat) (sv : Value) (B2 : Nat) (n : Int) (j : Nat) (v rv : Value) (cap : Nat) (D : Dev) : Prop :=
  IsDev w g gm v cap gm D ∧ IsRef w rh sv rv B2 D ∧ Apart rv v ∧ OkP n j D ∧ (W.heap.size ≤ gm ∧ W.heap.size ≤ B2) ∧ Below W.heap.size W w ∧ cap ≤ j * 140000
section
variable {W w w' w2 : World} {g gm h rh y B2 j cap : Nat} {sv v rv : Value} {n : Int} {D : Dev} {x : Log} {L rec : List UInt8}
theorem P7.two (H : P7 W w g gm h rh y sv B2 n j v rv cap D x L) : Two7 W w g gm rh sv B2 n j v rv cap D := by
  obtain ⟨h1, h2, h3, h4, h5, h6, h7, ⟨a1, a2, a3, a4⟩, h9, h10⟩ := H
  exact ⟨h1, h3, h5, h6, ⟨a1, a2⟩, h9, h10⟩
theorem P7.below (H : P7 W w g gm h rh y sv B2 n j v rv cap D x L) : Below W.heap.size W w := by
  obtain ⟨h1, h2, h3, h4, h5, h6, h7, h8, h9, h10⟩ := H
  exact h9
theorem P7.upto (H : P7 W w g gm h rh y sv B2 n j v rv cap D x L) {i : Nat} (hi : j ≤ i) : P7 W w g gm h rh y sv B2 n i v rv cap D x L := by
  obtain ⟨h1, h2, h3, h4, h5, h6, h7, h8, h9, h10⟩ := H
  exact ⟨h1, h2, h3, h4, h5, h6.le hi, h7.more hi, h8, h9, Nat.le_trans h10 (Nat.mul_le_mul_right _ hi)⟩
theorem Two7.step (H : Two7 W w g gm rh sv B2 n j v rv cap D) (hb : Below w.heap.size w w') : Two7 W w' g gm rh sv B2 n j v rv cap D := by
  obtain ⟨h1, h2, h3, h4, h5, h6, h7⟩ := H
  exact ⟨h1.step hb, h2.step hb, h3, h4, h5, bel_step h6 hb, h7⟩
theorem Two7.open (H : Two7 W w g gm rh sv B2 n j v rv cap D) (n0 : 3 ≤ n) (n1 : n ≤ 34) (hj : j ≤ 7000) {R : Option Log × List (List UInt8) × Int} (hR : openR D = R) :
    Calls Try.prog 38 #[.pointer (some ⟨g, 0, none⟩)] w fun e w' => OpenIs w w' g e R ∧ Below w.heap.size w w' := by
  obtain ⟨h1, h2, h3, h4, h5, h6, h7⟩ := H
  have hwl : D.waits.length ≤ j := h4.2.2.2.2.2.1
  exact open_any w g gm v cap gm D h1 (by rw [h4.1]; omega) (by rw [h4.1]; omega) h4.2.2.2.2.2.2.2 (by rw [h4.1]; exact h4.2.2.2.2.2.2.1) (by omega) R hR
theorem Two7.open2 (H : Two7 W w g gm rh sv B2 n j v rv cap D) (n0 : 3 ≤ n) (n1 : n ≤ 34) (hj : j ≤ 7000) {R : Option Log × List (List UInt8) × Int} (hR : openR D = R) :
    Calls Try.prog 45 #[.pointer (some ⟨rh, 0, none⟩)] w fun e w' => OpenRIs w w' rh e D R ∧ Below w.heap.size w w' := by
  obtain ⟨h1, h2, h3, h4, h5, h6, h7⟩ := H
  have hwl : D.waits.length ≤ j := h4.2.2.2.2.2.1
  exact refOpen_any w rh sv rv B2 D h2 (by rw [h4.1]; omega) (by rw [h4.1]; omega) h4.2.2.2.2.2.2.2 (by rw [h4.1]; exact h4.2.2.2.2.2.2.1) (by omega) R hR
/-- Both opened. -/
theorem Two7.opened (H : Two7 W w g gm rh sv B2 n j v rv cap D) (n0 : 3 ≤ n) (n1 : n ≤ 34) {x' : Log} {rs : List (List UInt8)} {er : Int} (hR : openR D = (some x', rs, er)) {h' y' : Nat}
    (hb1 : Below w.heap.size w w') (hh : w.heap.size ≤ h') (hx : IsLog w' h' g x') (hb2 : Below w'.heap.size w' w2) (hy : w'.heap.size ≤ y') (hl : IsRL w2 y' rh x'.mark (logD D) false) : P7 W w2 g gm h' rh y' sv B2 n j v rv cap D x' (logD D) := by
  obtain ⟨h1, h2, h3, h4, ⟨a1, a2⟩, h6, h7⟩ := H
  obtain ⟨e1, e2, e3, e4, ⟨e5, e6⟩, e7, e8⟩ := openR_some h4.2.2.2.2.2.2.2 (by rw [h4.1]; exact h4.2.2.2.2.2.2.1) (by rw [h4.1]; omega) hR
  have hs1 := h6.size
  have hs2 := hb1.size
  refine ⟨(h1.step hb1).step hb2, Blk.step hx hb2, (h2.step hb1).step hb2, by rw [e1]; exact hl, h3, h4, ⟨e2, e3, ?_, e5, by omega, e7, by omega⟩, ⟨a1, a2, by omega, by omega⟩, bel_step (bel_step h6 hb1) hb2, h7⟩
  unfold roomD at e4
  rw [h4.1] at e4
  exact e4
theorem Two7.new (n0 : 3 ≤ n) (hW : Below W.heap.size W w) (hd : IsDev w g gm (.slice none 0 0) 0 gm (newD n)) (hg : W.heap.size ≤ gm) (hb : Below w.heap.size w w') (hr : IsRef w' rh sv (.slice none 0 0) w.heap.size (newD n)) :
    Two7 W w' g gm rh sv w.heap.size n 0 (.slice none 0 0) (.slice none 0 0) 0 (newD n) :=
  ⟨hd.step hb, hr, fun i hi => by simp [Value.ownBlock] at hi, OkP.new n, ⟨hg, hW.size⟩, bel_step hW hb, Nat.zero_le _⟩
end
/-- The cells of n zero bytes. -/
theorem made_zero (n : Nat) : (madeCells (Value.cells (.int .u8 0)) (n * 1)).toList = Lib.byteCells (List.replicate n (0 : UInt8)) := by
  show (madeCells #[.int .u8 0] (n * 1)).toList = _
  rw [Nat.mul_one, toList_madeCells_one]
  simp [Lib.byteCells]
theorem P7.drew {W w : World} {g gm h rh y B2 j cap : Nat} {sv v rv : Value} {n : Int} {D : Dev} {x : Log} {L : List UInt8} (H : P7 W w g gm h rh y sv B2 n j v rv cap D x L) : P7 W w.drew g gm h rh y sv B2 n j v rv cap D x L := H.step (below_drewN w 1)
/-- Waiting of the device, and the document's list. -/
theorem P7.waits {W w : World} {g gm h rh y B2 j cap : Nat} {sv v rv : Value} {n : Int} {D : Dev} {x : Log} {L : List UInt8} (H : P7 W w g gm h rh y sv B2 n j v rv cap D x L) (hj : j ≤ 7000) : D.waits.length < 5000000000000 := by
  have := H.2.2.2.2.2.1.2.2.2.2.2.1
  omega
/-- The rooms are the same. -/
theorem P7.room {W w : World} {g gm h rh y B2 j cap : Nat} {sv v rv : Value} {n : Int} {D : Dev} {x : Log} {L : List UInt8} (H : P7 W w g gm h rh y sv B2 n j v rv cap D x L) (n0 : 3 ≤ n) (n1 : n ≤ 34) :
    x.mark.2.1 = (L.length : Int) ∧ L.length ≤ 1000000 ∧ (0 ≤ D.n ∧ D.n ≤ 4096) := by
  obtain ⟨h1, h2, h3, h4, h5, h6, h7, h8, h9, h10⟩ := H
  have h := h7.len n1
  exact ⟨h7.2.1, by omega, by rw [h6.1]; omega⟩
end Go.Proofs.Ytiighehibiijcaa

namespace Go.Proofs.Ytiighehibiijcaa
open Go.RowKit Go.WideShapes Go.ChangeShapes Go.Joins Go.Deep

/-- A call. -/
structure Op7 where
  k : Int
  n : Int
  torn : Int
  cut : Int
  s : List UInt8
  kv : Value
  ks : List Bool
instance : Inhabited Op7 := ⟨⟨0, 0, 0, 0, [], undef, []⟩⟩
/-- The cells of one. -/
def op7C (x : Op7) : List Value := [.int .i64 x.k, .int .i64 x.n, .int .i64 x.torn, .int .i64 x.cut, str x.s, x.kv]
/-- v is a row of n calls. -/
def ReadOps7 (w : World) (v : Value) (n : Nat) (F : Nat → Op7) : Prop :=
  ∃ p c, v = .slice p n c ∧ n ≤ maxLen ∧ (0 < n → ∃ b o, p = some ⟨b, o, none⟩ ∧ b < w.heap.size ∧ ∀ i, i < n → (∀ j, j < 6 → w.cell? ⟨b, o + i * 6 + j, none⟩ = (op7C (F i))[j]?) ∧ ReadBl w (F i).kv (F i).ks)
section
variable {H : Type} {enc : TypeId × Value → H} {P : Program} {w : World} {base : Nat} {spare : Nat → Bool} {held : Bool} {r : Reach} {b0 : Nat} {t : TypeId} {v : Value} {d : DataW H} {p : List MemPlace}
theorem list6 {α : Type} {l : List α} (h : l.length = 6) : ∃ a b c d e f, l = [a, b, c, d, e, f] := by
  match l, h with
  | [a, b, c, d, e, f], _ => exact ⟨a, b, c, d, e, f, rfl⟩
theorem open_ops7 {e te : TypeId} {f0 f1 f2 f3 f4 f5 : Field} (ht : P.underlying t = some (.slice e)) (he : P.underlying e = some (.struct #[f0, f1, f2, f3, f4, f5])) (hone : oneCellFields P #[f0, f1, f2, f3, f4, f5] = true) (hC : P.cellsOf e = 6)
    (h0 : P.underlying f0.type = some (.int .i64)) (h1 : P.underlying f1.type = some (.int .i64)) (h2 : P.underlying f2.type = some (.int .i64)) (h3 : P.underlying f3.type = some (.int .i64)) (h4 : P.underlying f4.type = some .string)
    (h6 : P.underlying f5.type = some (.slice te)) (h7 : P.underlying te = some .bool) (h8 : P.cellsOf te = 1)
    (hv : Value.okWide P w r b0 t v) (h : DataW.Trod enc P w base spare held t v d p) : ∃ n F, ReadOps7 w v n F := by
  obtain ⟨n, m, R, ⟨q, c, rfl, hm, hR⟩, hy⟩ := open_rows ht (by omega) hv h
  rw [hC] at hR
  rcases Nat.eq_zero_or_pos n with hn | hn
  · subst hn
    exact ⟨0, fun _ => default, _, _, rfl, by simp, fun h => absurd h (by simp)⟩
  · obtain ⟨b, o, rfl, hb, hcell⟩ := hR hn
    obtain ⟨F, hF⟩ := choose_upto (α := Op7) (n := n) (q := fun i x => R i = op7C x ∧ ReadBl w x.kv x.ks) (fun i hi => by
      obtain ⟨y, hy⟩ := hy i hi
      obtain ⟨hl, k, hf⟩ := one_field he hone (by rw [hC]; rfl) hy
      obtain ⟨a0, a1, a2, a3, a4, a5, hRi⟩ := list6 hl
      rw [hRi] at hf
      have one : ∀ (j : Nat) (f : Field) (u : Value), #[f0, f1, f2, f3, f4, f5][j]? = some f → [a0, a1, a2, a3, a4, a5][j]? = some u → P.underlying f.type = some (.int .i64) → ∃ x : Int, u = .int .i64 x := by
        intro j f u hj hju hu
        obtain ⟨u', y, hu1, hu2⟩ := hf j f hj
        rw [hju] at hu1
        obtain rfl := Option.some.inj hu1
        obtain ⟨x, e0, _, hw⟩ := DataW.trod_int hu hu2
        simp at e0
        exact ⟨x, e0⟩
      obtain ⟨x0, rfl⟩ := one 0 f0 a0 rfl rfl h0
      obtain ⟨x1, rfl⟩ := one 1 f1 a1 rfl rfl h1
      obtain ⟨x2, rfl⟩ := one 2 f2 a2 rfl rfl h2
      obtain ⟨x3, rfl⟩ := one 3 f3 a3 rfl rfl h3
      obtain ⟨u4, y4, g4, k4⟩ := hf 4 f4 rfl
      obtain ⟨u5, y5, g5, k5⟩ := hf 5 f5 rfl
      obtain rfl : a4 = u4 := by simpa using g4
      obtain rfl : a5 = u5 := by simpa using g5
      obtain ⟨x4, e4, _⟩ := DataW.trod_string h4 k4
      simp at e4
      subst e4
      obtain ⟨ks, hks⟩ := open_bools_cells h6 h7 h8 k5
      exact ⟨⟨x0, x1, x2, x3, x4.data.toList, a5, ks⟩, by rw [hRi]; unfold op7C; simp only [str_data], hks⟩)
    exact ⟨n, F, _, c, rfl, hm, fun _ => ⟨b, o, rfl, hb, fun i hi => ⟨fun j hj => by rw [← (hF i hi).1]; exact (hcell i hi).2 j hj, (hF i hi).2⟩⟩⟩
end
end Go.Proofs.Ytiighehibiijcaa

namespace Go.Proofs.Ytiighehibiijcaa
open Go.RowKit
set_option linter.unusedSimpArgs false
set_option linter.unnecessarySimpa false
set_option linter.unusedVariables false

/-- The frame: what the variables hold; us: all else. -/
def FrP7 (v1 v5 v7 v8 v9 v12 v15 v17 : Value) (us : Nat → Value) : Act := ⟨#[us 0, v1, us 2, us 3, us 4, v5, us 6, v7, v8, v9, us 10, us 11, v12, us 13, us 14, v15, us 16, v17, us 18, us 19, us 20, us 21, us 22, us 23, us 24, us 25, us 26, us 27, us 28, us 29, us 30, us 31, us 32, us 33, us 34, us 35, us 36, us 37, us 38, us 39, us 40, us 41, us 42, us 43, us 44, us 45, us 46, us 47, us 48, us 49, us 50, us 51, us 52, us 53, us 54, us 55, us 56, us 57, us 58, us 59, us 60, us 61, us 62, us 63, us 64, us 65, us 66, us 67, us 68, us 69, us 70, us 71, us 72, us 73, us 74, us 75, us 76, us 77, us 78, us 79, us 80, us 81, us 82, us 83, us 84, us 85, us 86, us 87, us 88, us 89, us 90, us 91, us 92, us 93, us 94, us 95, us 96, us 97, us 98, us 99, us 100, us 101, us 102, us 103, us 104, us 105, us 106, us 107, us 108, us 109, us 110, us 111, us 112, us 113, us 114, us 115, us 116, us 117, us 118, us 119, us 120, us 121, us 122, us 123, us 124, us 125, us 126, us 127, us 128, us 129, us 130, us 131, us 132, us 133, us 134, us 135, us 136, us 137, us 138, us 139, us 140, us 141, us 142, us 143, us 144, us 145, us 146, us 147, us 148, us 149, us 150, us 151, us 152, us 153, us 154, us 155, us 156, us 157, us 158, us 159, us 160, us 161, us 162, us 163, us 164, us 165, us 166, us 167, us 168, us 169, us 170, us 171, us 172, us 173, us 174, us 175, us 176, us 177, us 178, us 179, us 180, us 181, us 182, us 183, us 184, us 185, us 186, us 187, us 188, us 189, us 190, us 191, us 192, us 193, us 194, us 195, us 196, us 197, us 198, us 199], []⟩

set_option maxRecDepth 100000 in
set_option maxHeartbeats 16000000 in
theorem slotsPlays_walk (sec : Int) (v0 : Value) (w : World) (m : Nat) (O : Nat → Op7) (hL : ReadOps7 w v0 m O) :
    Calls Try.prog 14 #[.int .i64 sec, v0] w fun e w' => e = .returned (.bool true) ∧ Below w.heap.size w w' := by
  obtain ⟨p, c, rfl, hmax, hcell⟩ := hL
  have HCELL := Lib.hid hcell
  clear hcell hmax
  obtain ⟨i0, hi, hz0, hz1, hz2⟩ := info_parts Try.infoU8
  obtain ⟨Z, hZ⟩ : ∃ Z, List.replicate 1000 (0 : UInt8) = Z := ⟨_, rfl⟩
  have hZl : Z.length ≤ 1000 := by rw [← hZ, List.length_replicate]; exact Nat.le_refl _
  have HZ := Lib.hid hZ
  clear hZ
  have q5 := i64_and5 sec
  obtain ⟨r5, hr5⟩ : ∃ r, sec % 32 = r := ⟨_, rfl⟩
  have hr0 : 0 ≤ r5 := by omega
  have hr1 : r5 < 32 := by omega
  rw [hr5] at q5
  clear hr5
  obtain ⟨n, hn⟩ : ∃ n, 3 + r5 = n := ⟨_, rfl⟩
  have hn3 : 3 ≤ n := by omega
  have hn34 : n ≤ 34 := by omega
  have hn01 : 1 ≤ n := by omega
  have hn1 : n ≤ 4096 := by omega
  have hopn := (Live.new hn3 hn1).open
  have HOPN := Lib.hid hopn
  clear hopn
  go_enter Try.func14, Try.ntmps14
  go_wp2_with fail
  refine (awake07_any _).mono ?_
  rintro e w0 ⟨rfl, hb0⟩
  go_wp2_with fail
  refine (new_any _ n hn01 hn1).mono ?_
  rintro e w1 ⟨rfl, hd1, hb1⟩
  obtain ⟨g, hg⟩ : ∃ g, w0.heap.size + 1 = g := ⟨_, rfl⟩
  obtain ⟨gm, hgm⟩ : ∃ gm, w0.heap.size = gm := ⟨_, rfl⟩
  have hWg : w.heap.size ≤ gm := by have := hb0.size; omega
  rw [hg, hgm] at hd1
  rw [hg]
  have HD1 := Lib.hid hd1
  have B1 := Lib.hid (bel_step hb0 hb1)
  clear hd1 hg hgm hb0 hb1
  go_wp2_with fail
  refine (refNew_any _ n hn01 hn1).mono ?_
  rintro e w2 ⟨sv, rfl, hr2, hb2⟩
  obtain ⟨B2, hB2⟩ : ∃ B, w1.heap.size = B := ⟨_, rfl⟩
  have ht0 := Two7.new hn3 B1.out HD1.out hWg hb2 hr2
  rw [hB2] at ht0 ⊢
  obtain ⟨rh, hrh⟩ : ∃ rh, B2 = rh := ⟨_, rfl⟩
  have hrr : Two7 w w2 g gm rh sv B2 n 0 (.slice none 0 0) (.slice none 0 0) 0 (newD n) := by rw [← hrh]; exact ht0
  rw [hrh]
  have HT := Lib.hid hrr
  clear hrr ht0 hrh hB2 hr2 hb2 B1 HD1 hWg hn01
  go_wp2_with fail
  refine (HT.out.open hn3 hn34 (Nat.zero_le _) HOPN.out).mono ?_
  rintro e7 w7 ⟨⟨h7, va, rfl, hh7, hx7, -⟩, hb7⟩
  have HT7 := Lib.hid (HT.out.step hb7)
  have HX7 := Lib.hid (show _ ∧ _ ∧ _ from ⟨hb7, hh7, hx7⟩)
  clear hb7 hh7 hx7
  go_wp2_with fail
  refine (HT7.out.open2 hn3 hn34 (Nat.zero_le _) HOPN.out).mono ?_
  rintro e8 w8 ⟨⟨y8, vb, rfl, hy8, hl8, -⟩, hb8⟩
  have HP0 := Lib.hid (Two7.opened HT.out hn3 hn34 HOPN.out HX7.out.1 HX7.out.2.1 HX7.out.2.2 hb8 hy8 hl8)
  clear hb8 hy8 hl8 HX7 HT7 HT
  go_upto_block 0 with fail
  refine wp_cut (fun a' w' => Below w.heap.size w w' ∧ ∃ us, a' = FrP7 (.slice p m c) (.bool true) (.pointer (some ⟨g, 0, none⟩)) (.pointer (some ⟨rh, 0, none⟩)) (us 9) (us 12) (us 15) (us 17) us) ?_ ?_
  rotate_left
  · intro J1 K1 hJ1 hK1
    go_wp2_with fail
    refine wp_loop_ghost_k (fun k' a' w' => ∃ (j h y : Nat) (v rv : Value) (cap : Nat) (D : Dev) (x : Log) (L : List UInt8), j + k' = m ∧ j ≤ 40 ∧ P7 w w' g gm h rh y sv B2 n (30 * j) v rv cap D x L ∧ ∃ us, a' = FrP7 (.slice p m c) (.bool true) (.pointer (some ⟨g, 0, none⟩)) (.pointer (some ⟨rh, 0, none⟩)) (.pointer (some ⟨h, 0, none⟩)) (.pointer (some ⟨y, 0, none⟩)) (.int .i64 j) (us 17) us) m ?_ ?_
    · exact ⟨0, _, _, _, _, _, _, _, _, by omega, by omega, HP0.out, meet_us (by kernel_rfl)⟩
    · intro gk a0 wr hinv
      obtain ⟨j, h, y, v, rv, cap, D, x, L, hj, hj40, hp, us, rfl⟩ := hinv
      intro J2 K2 hJ2 hK2
      unfold FrP7
      have HP := Lib.hid hp
      clear hp HP0
      by_cases h1 : j < m
      · have i1 : (j : Int) < (m : Int) := by omega
        by_cases h2 : j < 40
        · have i2 : (j : Int) < 40 := by omega
          obtain ⟨b, of, rfl, hbw, hcl⟩ := HCELL.out (by omega)
          obtain ⟨hc6, hks⟩ := hcl j h1
          obtain ⟨⟨k, na, torn, cut, s, kv, ks⟩, hO⟩ : ∃ x, O j = x := ⟨_, rfl⟩
          rw [hO] at hc6 hks
          simp only [] at hks
          obtain ⟨-, pk, ck, rfl, -⟩ := id hks
          have hB := HP.out.below
          have k0 := (hB.cell (p := ⟨b, of + j * 6, none⟩) hbw).trans (hc6 0 (by omega))
          have k1 := (hB.cell (p := ⟨b, of + j * 6 + 1, none⟩) hbw).trans (hc6 1 (by omega))
          have k2 := (hB.cell (p := ⟨b, of + j * 6 + 2, none⟩) hbw).trans (hc6 2 (by omega))
          have k3 := (hB.cell (p := ⟨b, of + j * 6 + 3, none⟩) hbw).trans (hc6 3 (by omega))
          have k4 := (hB.cell (p := ⟨b, of + j * 6 + 4, none⟩) hbw).trans (hc6 4 (by omega))
          have k5 := (hB.cell (p := ⟨b, of + j * 6 + 5, none⟩) hbw).trans (hc6 5 (by omega))
          simp only [op7C, List.getElem?_cons_zero, List.getElem?_cons_succ] at k0 k1 k2 k3 k4 k5
          have HKS := Lib.hid hks
          obtain ⟨kk, hkk⟩ : ∃ kk : Nat, k % 8 = kk := ⟨(k % 8).toNat, by omega⟩
          have q0 := i64_and3 k
          rw [hkk] at q0
          have hk8 : kk < 8 := by omega
          clear hcl hc6 hks hO hB hkk
          go_upto_block 2 with fail
          have HP2 := Lib.hid (HP.out.step ((Below.refl wr.heap.size wr).alloc (Nat.le_refl _) (.cells #[.int .i64 k, .int .i64 na, .int .i64 torn, .int .i64 cut, str s, .slice pk ks.length ck] 86)))
          have SB2 := Lib.hid (Blk.new wr 86 #[.int .i64 k, .int .i64 na, .int .i64 torn, .int .i64 cut, str s, .slice pk ks.length ck])
          generalize wr.alloc (.cells #[.int .i64 k, .int .i64 na, .int .i64 torn, .int .i64 cut, str s, .slice pk ks.length ck] 86) = w2' at HP2 SB2 ⊢
          obtain ⟨gS, hgS⟩ : ∃ gS, wr.heap.size = gS := ⟨_, rfl⟩
          rw [hgS] at SB2 ⊢
          clear k0 k1 k2 k3 k4 k5 hgS HP
          refine wp_cut (fun a' w' => ∃ (h y : Nat) (v rv : Value) (cap : Nat) (D : Dev) (x : Log) (L : List UInt8), P7 w w' g gm h rh y sv B2 n (30 * j + 30) v rv cap D x L ∧ ∃ us, a' = FrP7 (.slice (some ⟨b, of, none⟩) m c) (.bool true) (.pointer (some ⟨g, 0, none⟩)) (.pointer (some ⟨rh, 0, none⟩)) (.pointer (some ⟨h, 0, none⟩)) (.pointer (some ⟨y, 0, none⟩)) (.int .i64 j) (.bool true) us) ?_ ?_
          rotate_left
          · intro J3 K3 hJ3 hK3
            have x0 : w2'.cell? ⟨gS, 0, none⟩ = some (.int .i64 k) := SB2.out.cell 0
            by_cases e3 : kk = 3
            · subst e3
              obtain ⟨aa, haa⟩ : ∃ aa, na % 16 = aa := ⟨_, rfl⟩
              have q1 := i64_and4 na
              rw [haa] at q1
              have ha100 : aa ≤ 100 := by omega
              have x1 : w2'.cell? ⟨gS, 1, none⟩ = some (.int .i64 na) := SB2.out.cell 1
              clear haa
              go_wp2_with fail
              refine (P7.arm HP2.out aa).mono ?_
              rintro e5 w5 ⟨rfl, hd5, hx5, hf5, hl5, hb5, t5⟩
              have SB5 := Lib.hid (HP2.out.1.keep t5 SB2.out (by decide) (by decide))
              have H5 := Lib.hid (P7.arm2 HP2.out ha100 hd5 hx5 hf5 hl5 hb5)
              have x51 : w5.cell? ⟨gS, 1, none⟩ = some (.int .i64 na) := SB5.out.cell 1
              clear hd5 hx5 hf5 hl5 hb5 t5 x1 x0
              go_wp2_with fail
              refine H5.out.mono ?_
              rintro e6 w6 ⟨rfl, hp6, -⟩
              have HP6 := Lib.hid hp6
              clear hp6 H5 x51
              go_wp2_with fail
              exact meet_at hJ3 ⟨_, _, _, _, _, _, _, _, HP6.out, meet_us (by kernel_rfl)⟩
            · by_cases e4 : kk = 4
              · subst e4
                have x2 : w2'.cell? ⟨gS, 2, none⟩ = some (.int .i64 torn) := SB2.out.cell 2
                have x3 : w2'.cell? ⟨gS, 3, none⟩ = some (.int .i64 cut) := SB2.out.cell 3
                have x5 : w2'.cell? ⟨gS, 5, none⟩ = some (.slice pk ks.length ck) := SB2.out.cell 5
                go_wp2_with fail
                refine (P7.crash HP2.out HKS.out hn3 (by omega) torn cut).mono ?_
                rintro e5 w5 ⟨rfl, cap5, hc5, hd5, hx5, hf5, hl5, ha5, hb5, t5⟩
                have SB5 := Lib.hid (HP2.out.1.keep t5 SB2.out (by decide) (by decide))
                have H5 := Lib.hid (P7.crash2 HP2.out HKS.out hn3 hn34 (by omega) torn cut hc5 hd5 hx5 hf5 hl5 ha5 hb5)
                have x52 : w5.cell? ⟨gS, 2, none⟩ = some (.int .i64 torn) := SB5.out.cell 2
                have x53 : w5.cell? ⟨gS, 3, none⟩ = some (.int .i64 cut) := SB5.out.cell 3
                have x55 : w5.cell? ⟨gS, 5, none⟩ = some (.slice pk ks.length ck) := SB5.out.cell 5
                clear hc5 hd5 hx5 hf5 hl5 ha5 hb5 t5 x0 x2 x3 x5
                go_wp2_with fail
                refine H5.out.mono ?_
                rintro e6 w6 ⟨rfl, rv6, hp6, t6⟩
                obtain ⟨DD, hDD⟩ : ∃ DD, crashD ks torn (min (max cut 0) 64).toNat D = DD := ⟨_, rfl⟩
                rw [hDD] at hp6
                have HT := Lib.hid hp6.two
                clear hp6 H5 t6 hDD x52 x53 x55 SB5
                obtain ⟨⟨ox, rs, er⟩, hR⟩ : ∃ R, openR DD = R := ⟨_, rfl⟩
                have HR := Lib.hid hR
                clear hR
                go_wp2_with fail
                refine (HT.out.open hn3 hn34 (by omega) HR.out).mono ?_
                rcases ox with _ | x2
                · rintro e7 w7 ⟨rfl, hb7⟩
                  have HT7 := Lib.hid (HT.out.step hb7)
                  clear hb7
                  go_wp2_with fail
                  refine (HT7.out.open2 hn3 hn34 (by omega) HR.out).mono ?_
                  rintro e8 w8 ⟨rfl, hb8⟩
                  have HT8 := Lib.hid (HT7.out.step hb8)
                  clear hb8
                  go_wp2_with fail
                  refine (same_any (.slice none 0 0) (.slice none 0 0) [] [] w8.heap.size w8.heap.size _ (OwnS.none _ _) (OwnS.none _ _)).mono ?_
                  rw [sameL_refl]
                  rintro e9 w9 ⟨rfl, hb9⟩
                  have HT9 := Lib.hid (HT8.out.step hb9)
                  clear hb9
                  go_wp2_with fail
                  go_ret
                  exact ⟨rfl, HT9.out.2.2.2.2.2.1⟩
                · rintro e7 w7 ⟨⟨h7, va, rfl, hh7, hx7, ho7⟩, hb7⟩
                  have HT7 := Lib.hid (HT.out.step hb7)
                  have HX7 := Lib.hid (show _ ∧ _ ∧ _ from ⟨hb7, hh7, hx7⟩)
                  have HO7 := Lib.hid ho7
                  have va_ := va
                  clear hb7 hh7 hx7 ho7
                  go_wp2_with fail
                  refine (HT7.out.open2 hn3 hn34 (by omega) HR.out).mono ?_
                  rintro e8 w8 ⟨⟨y8, vb, rfl, hy8, hl8, ho8⟩, hb8⟩
                  have HP8 := Lib.hid (Two7.opened HT.out hn3 hn34 HR.out HX7.out.1 HX7.out.2.1 HX7.out.2.2 hb8 hy8 hl8)
                  have HA8 := Lib.hid (HO7.out.step hb8)
                  have HB8 := Lib.hid ho8
                  clear hb8 hy8 hl8 ho8 HX7 HO7 HT7
                  go_wp2_with fail
                  refine (same_any va vb rs rs _ _ _ HA8.out HB8.out).mono ?_
                  rw [sameL_refl]
                  rintro e9 w9 ⟨rfl, hb9⟩
                  have HP9 := Lib.hid (HP8.out.step hb9)
                  clear hb9
                  go_wp2_with fail
                  exact meet_at hJ3 ⟨_, _, _, _, _, _, _, _, HP9.out, meet_us (by kernel_rfl)⟩
              · by_cases e5 : kk = 5
                · subst e5
                  have x2 : w2'.cell? ⟨gS, 2, none⟩ = some (.int .i64 torn) := SB2.out.cell 2
                  have x3 : w2'.cell? ⟨gS, 3, none⟩ = some (.int .i64 cut) := SB2.out.cell 3
                  have x5 : w2'.cell? ⟨gS, 5, none⟩ = some (.slice pk ks.length ck) := SB2.out.cell 5
                  go_wp2_with fail
                  refine (P7.crash HP2.out HKS.out hn3 (by omega) torn cut).mono ?_
                  rintro e5 w5 ⟨rfl, cap5, hc5, hd5, hx5, hf5, hl5, ha5, hb5, t5⟩
                  have SB5 := Lib.hid (HP2.out.1.keep t5 SB2.out (by decide) (by decide))
                  have H5 := Lib.hid (P7.crash2 HP2.out HKS.out hn3 hn34 (by omega) torn cut hc5 hd5 hx5 hf5 hl5 ha5 hb5)
                  have x52 : w5.cell? ⟨gS, 2, none⟩ = some (.int .i64 torn) := SB5.out.cell 2
                  have x53 : w5.cell? ⟨gS, 3, none⟩ = some (.int .i64 cut) := SB5.out.cell 3
                  have x55 : w5.cell? ⟨gS, 5, none⟩ = some (.slice pk ks.length ck) := SB5.out.cell 5
                  clear hc5 hd5 hx5 hf5 hl5 ha5 hb5 t5 x0 x2 x3 x5
                  go_wp2_with fail
                  refine H5.out.mono ?_
                  rintro e6 w6 ⟨rfl, rv6, hp6, t6⟩
                  obtain ⟨DD, hDD⟩ : ∃ DD, crashD ks torn (min (max cut 0) 64).toNat D = DD := ⟨_, rfl⟩
                  rw [hDD] at hp6
                  have HT := Lib.hid hp6.two
                  clear hp6 H5 t6 hDD x52 x53 x55 SB5
                  obtain ⟨⟨ox, rs, er⟩, hR⟩ : ∃ R, openR DD = R := ⟨_, rfl⟩
                  have HR := Lib.hid hR
                  clear hR
                  go_wp2_with fail
                  refine (HT.out.open hn3 hn34 (by omega) HR.out).mono ?_
                  rcases ox with _ | x2
                  · rintro e7 w7 ⟨rfl, hb7⟩
                    have HT7 := Lib.hid (HT.out.step hb7)
                    clear hb7
                    go_wp2_with fail
                    refine (HT7.out.open2 hn3 hn34 (by omega) HR.out).mono ?_
                    rintro e8 w8 ⟨rfl, hb8⟩
                    have HT8 := Lib.hid (HT7.out.step hb8)
                    clear hb8
                    go_wp2_with fail
                    refine (same_any (.slice none 0 0) (.slice none 0 0) [] [] w8.heap.size w8.heap.size _ (OwnS.none _ _) (OwnS.none _ _)).mono ?_
                    rw [sameL_refl]
                    rintro e9 w9 ⟨rfl, hb9⟩
                    have HT9 := Lib.hid (HT8.out.step hb9)
                    clear hb9
                    go_wp2_with fail
                    go_ret
                    exact ⟨rfl, HT9.out.2.2.2.2.2.1⟩
                  · rintro e7 w7 ⟨⟨h7, va, rfl, hh7, hx7, ho7⟩, hb7⟩
                    have HT7 := Lib.hid (HT.out.step hb7)
                    have HX7 := Lib.hid (show _ ∧ _ ∧ _ from ⟨hb7, hh7, hx7⟩)
                    have HO7 := Lib.hid ho7
                    have va_ := va
                    clear hb7 hh7 hx7 ho7
                    go_wp2_with fail
                    refine (HT7.out.open2 hn3 hn34 (by omega) HR.out).mono ?_
                    rintro e8 w8 ⟨⟨y8, vb, rfl, hy8, hl8, ho8⟩, hb8⟩
                    have HP8 := Lib.hid (Two7.opened HT.out hn3 hn34 HR.out HX7.out.1 HX7.out.2.1 HX7.out.2.2 hb8 hy8 hl8)
                    have HA8 := Lib.hid (HO7.out.step hb8)
                    have HB8 := Lib.hid ho8
                    clear hb8 hy8 hl8 ho8 HX7 HO7 HT7
                    go_wp2_with fail
                    refine (same_any va vb rs rs _ _ _ HA8.out HB8.out).mono ?_
                    rw [sameL_refl]
                    rintro e9 w9 ⟨rfl, hb9⟩
                    have HP9 := Lib.hid (HP8.out.step hb9)
                    clear hb9
                    go_wp2_with fail
                    exact meet_at hJ3 ⟨_, _, _, _, _, _, _, _, HP9.out, meet_us (by kernel_rfl)⟩
                · by_cases e6 : kk = 6
                  · subst e6
                    have HT := Lib.hid (HP2.out.upto (show 30 * j ≤ 30 * j + 30 by omega)).two
                    obtain ⟨DD, hDD⟩ : ∃ DD, D = DD := ⟨_, rfl⟩
                    rw [hDD] at HT
                    clear hDD
                    obtain ⟨⟨ox, rs, er⟩, hR⟩ : ∃ R, openR DD = R := ⟨_, rfl⟩
                    have HR := Lib.hid hR
                    clear hR
                    go_wp2_with fail
                    refine (HT.out.open hn3 hn34 (by omega) HR.out).mono ?_
                    rcases ox with _ | x2
                    · rintro e7 w7 ⟨rfl, hb7⟩
                      have HT7 := Lib.hid (HT.out.step hb7)
                      clear hb7
                      go_wp2_with fail
                      refine (HT7.out.open2 hn3 hn34 (by omega) HR.out).mono ?_
                      rintro e8 w8 ⟨rfl, hb8⟩
                      have HT8 := Lib.hid (HT7.out.step hb8)
                      clear hb8
                      go_wp2_with fail
                      refine (same_any (.slice none 0 0) (.slice none 0 0) [] [] w8.heap.size w8.heap.size _ (OwnS.none _ _) (OwnS.none _ _)).mono ?_
                      rw [sameL_refl]
                      rintro e9 w9 ⟨rfl, hb9⟩
                      have HT9 := Lib.hid (HT8.out.step hb9)
                      clear hb9
                      go_wp2_with fail
                      go_ret
                      exact ⟨rfl, HT9.out.2.2.2.2.2.1⟩
                    · rintro e7 w7 ⟨⟨h7, va, rfl, hh7, hx7, ho7⟩, hb7⟩
                      have HT7 := Lib.hid (HT.out.step hb7)
                      have HX7 := Lib.hid (show _ ∧ _ ∧ _ from ⟨hb7, hh7, hx7⟩)
                      have HO7 := Lib.hid ho7
                      have va_ := va
                      clear hb7 hh7 hx7 ho7
                      go_wp2_with fail
                      refine (HT7.out.open2 hn3 hn34 (by omega) HR.out).mono ?_
                      rintro e8 w8 ⟨⟨y8, vb, rfl, hy8, hl8, ho8⟩, hb8⟩
                      have HP8 := Lib.hid (Two7.opened HT.out hn3 hn34 HR.out HX7.out.1 HX7.out.2.1 HX7.out.2.2 hb8 hy8 hl8)
                      have HA8 := Lib.hid (HO7.out.step hb8)
                      have HB8 := Lib.hid ho8
                      clear hb8 hy8 hl8 ho8 HX7 HO7 HT7
                      go_wp2_with fail
                      refine (same_any va vb rs rs _ _ _ HA8.out HB8.out).mono ?_
                      rw [sameL_refl]
                      rintro e9 w9 ⟨rfl, hb9⟩
                      have HP9 := Lib.hid (HP8.out.step hb9)
                      clear hb9
                      go_wp2_with fail
                      exact meet_at hJ3 ⟨_, _, _, _, _, _, _, _, HP9.out, meet_us (by kernel_rfl)⟩
                  · have b3 : ((kk : Int) == 3) = false := beq_eq_false_iff_ne.2 (by omega)
                    have b4 : ((kk : Int) == 4) = false := beq_eq_false_iff_ne.2 (by omega)
                    have b5 : ((kk : Int) == 5) = false := beq_eq_false_iff_ne.2 (by omega)
                    have b6 : ((kk : Int) == 6) = false := beq_eq_false_iff_ne.2 (by omega)
                    have x4 : w2'.cell? ⟨gS, 4, none⟩ = some (str s) := SB2.out.cell 4
                    clear e3 e4 e5 e6
                    go_wp2_with fail
                    refine (short_any s 80 _).mono ?_
                    rintro e w3 ⟨rfl, rfl⟩
                    by_cases e7 : kk = 7
                    · subst e7
                      go_wp2_with (at_make; refine wpList_make_full _ rfl _ _ 40 rfl w2'.heap.size 5 i0 (.int .u8 0) 1 Try.underlying40 hi hz0 hz1 _ _ _ _ 1000 rfl rfl rfl rfl (by rw [hz2]; omega) (by unfold maxLen; omega) (Nat.le_refl _) ?_; rw [made_zero, HZ.out]; intro w3 hown hgrow; have kc := run_str_ownT (P := Try.prog) (w := w3) (src := 40) (dst := 9) Try.underlying40 Try.underlying5 Try.underlying9 hown; clear hown)
                      have HP3 := Lib.hid (HP2.out.step (below_of_none hgrow))
                      clear kc hgrow HP2 SB2 HZ x0 x4
                      obtain ⟨⟨x2, D2, er⟩, hR⟩ : ∃ R, commitR D x Z = R := ⟨_, rfl⟩
                      have HR := Lib.hid hR
                      clear hR
                      refine (P7.commit HP3.out hn3 hn34 hZl (by omega) _ HR.out).mono ?_
                      rintro e5 w5 ⟨rfl, v5, cap5, hc5, hd5, hx5, hf5, hl5, ha5, hb5, -⟩
                      have H5 := Lib.hid (P7.commit2 HP3.out hn3 hn34 hZl (by omega) _ HR.out hc5 hd5 hx5 hf5 hl5 ha5 hb5)
                      clear hc5 hd5 hx5 hf5 hl5 ha5 hb5
                      go_wp2_with fail
                      refine H5.out.mono ?_
                      rintro e6 w6 ⟨rfl, rv6, L6, hp6⟩
                      have HP6 := Lib.hid hp6
                      clear hp6 H5
                      go_wp2_with fail
                      exact meet_at hJ3 ⟨_, _, _, _, _, _, _, _, HP6.out, meet_us (by kernel_rfl)⟩
                    · have b7 : ((kk : Int) == 7) = false := beq_eq_false_iff_ne.2 (by omega)
                      obtain ⟨S, hS⟩ : ∃ S, List.take 80 s = S := ⟨_, rfl⟩
                      have hSl : S.length ≤ 1000 := by rw [← hS, List.length_take]; omega
                      rw [hS]
                      clear hS x4
                      obtain ⟨⟨x2, D2, er⟩, hR⟩ : ∃ R, commitR D x S = R := ⟨_, rfl⟩
                      have HR := Lib.hid hR
                      clear hR
                      go_wp2_with fail
                      refine (P7.commit HP2.out hn3 hn34 hSl (by omega) _ HR.out).mono ?_
                      rintro e5 w5 ⟨rfl, v5, cap5, hc5, hd5, hx5, hf5, hl5, ha5, hb5, -⟩
                      have H5 := Lib.hid (P7.commit2 HP2.out hn3 hn34 hSl (by omega) _ HR.out hc5 hd5 hx5 hf5 hl5 ha5 hb5)
                      clear hc5 hd5 hx5 hf5 hl5 ha5 hb5
                      go_wp2_with fail
                      refine H5.out.mono ?_
                      rintro e6 w6 ⟨rfl, rv6, L6, hp6⟩
                      have HP6 := Lib.hid hp6
                      clear hp6 H5
                      go_wp2_with fail
                      exact meet_at hJ3 ⟨_, _, _, _, _, _, _, _, HP6.out, meet_us (by kernel_rfl)⟩
          · rintro a4 w4 ⟨h4, y4, v4, rv4, cap4, D4, x4, L4, hp4, us4, rfl⟩
            unfold FrP7
            have HP4 := Lib.hid hp4
            have hwl := hp4.waits (by omega)
            obtain ⟨hm1, hLL, hdn⟩ := hp4.room hn3 hn34
            have HDN := Lib.hid hdn
            obtain ⟨⟨me, mb, mc⟩, fin, br⟩ := x4
            simp only [] at hm1
            have hmb : 0 ≤ mb ∧ mb ≤ 1000000 := by omega
            obtain ⟨rm, hrm⟩ : ∃ rm, roomD D4 - mb = rm := ⟨_, rfl⟩
            have HRM := Lib.hid hrm
            have HRL := Lib.hid (show roomD D4 - (L4.length : Nat) = rm by rw [← hm1]; exact hrm)
            clear hp4 HP2 SB2 hdn hm1 hrm
            go_wp2_with fail
            refine until_begin 8 (fun w' => w'.cell? ⟨rh, 1, none⟩ = some rv4) (by kernel_rfl) (HP4.out.2.2.1.1.cell 1) (fun hS => ?_)
            refine until_take 0 (some 161) (u := ?_) rfl rfl (by kernel_rfl) (by kernel_rfl) (by kernel_rfl) (by kernel_rfl) (fun _ _ _ h => h) (by rfl) (fun wS hv => ?_) hS ?_
            rotate_left
            · clear hv
              go_simp
              all_goals with_reducible rfl
            try simp only [Act.put, List.setIfInBounds_toArray, List.set]
            refine until_take 2 (some 163) (u := ?_) rfl rfl (by kernel_rfl) (by kernel_rfl) (by kernel_rfl) (by kernel_rfl) (fun _ _ _ h => h) (by rfl) (fun wS hv => ?_) hS ?_
            rotate_left
            · clear hv
              go_simp
              all_goals with_reducible rfl
            try simp only [Act.put, List.setIfInBounds_toArray, List.set]
            refine until_take 3 (some 164) (u := ?_) rfl rfl (by kernel_rfl) (by kernel_rfl) (by kernel_rfl) (by kernel_rfl) (fun _ _ _ h => h) (by rfl) (fun wS hv => ?_) hS ?_
            rotate_left
            · clear hv
              go_simp
              all_goals with_reducible rfl
            try simp only [Act.put, List.setIfInBounds_toArray, List.set]
            refine until_take 4 (some 165) (u := ?_) rfl rfl (by kernel_rfl) (by kernel_rfl) (by kernel_rfl) (by kernel_rfl) (fun _ _ _ h => h) (by rfl) (fun wS hv => ?_) hS ?_
            rotate_left
            · clear hv
              go_simp
              all_goals with_reducible rfl
            try simp only [Act.put, List.setIfInBounds_toArray, List.set]
            refine until_take 5 (some 166) (u := ?_) rfl rfl (by kernel_rfl) (by kernel_rfl) (by kernel_rfl) (by kernel_rfl) (fun _ _ _ h => h) (by rfl) (fun wS hv => ?_) hS ?_
            rotate_left
            · obtain k1 := hv
              go_simp
              all_goals with_reducible rfl
            try simp only [Act.put, List.setIfInBounds_toArray, List.set]
            refine until_one 1 (by kernel_rfl) rfl (fun K hK => ?_)
            go_simp
            refine (waiting_any _ g gm _ _ _ _ (HP4.out.1.drew 1) hwl).mono ?_
            rintro e5 w5 ⟨vw, rfl, ho5, hb5⟩
            have HP5 := Lib.hid (HP4.out.drew.step hb5)
            have HO5 := Lib.hid ho5
            clear ho5 hb5
            refine hK.out _ _ (HP5.out.2.2.1.1.cell 1) (fun hS => ?_)
            clear hK K
            try simp only [Act.put, List.setIfInBounds_toArray, List.set]
            refine until_one 6 (by kernel_rfl) rfl (fun K hK => ?_)
            go_simp
            refine (refSame_any _ _ _ _ _ _ HO5.out HP5.out.2.2.1.2.2.1).mono ?_
            rintro e6 w6 ⟨rfl, hb6⟩
            have HP6 := Lib.hid (HP5.out.step hb6)
            clear hb6
            refine hK.out _ _ (HP6.out.2.2.1.1.cell 1) (fun hS => ?_)
            clear hK K
            try simp only [Act.put, List.setIfInBounds_toArray, List.set]
            refine until_take 7 (some 26) (u := ?_) rfl rfl (by kernel_rfl) (by kernel_rfl) (by kernel_rfl) (by kernel_rfl) (fun _ _ _ h => h) (by rfl) (fun wS hv => ?_) hS ?_
            rotate_left
            · clear hv
              go_simp
              all_goals with_reducible rfl
            try simp only [Act.put, List.setIfInBounds_toArray, List.set]
            refine until_done (by kernel_rfl) ?_
            clear hS
            clear HP4 HP5 HO5 hwl
            go_wp2_with fail
            refine until_begin 31 (fun w' => w'.cell? ⟨y4, 1, none⟩ = some (.int .i64 me) ∧ w'.cell? ⟨y4, 2, none⟩ = some (.int .i64 mb) ∧ w'.cell? ⟨y4, 3, none⟩ = some (.int .i64 mc) ∧ w'.cell? ⟨y4, 5, none⟩ = some (.bool br)) (by kernel_rfl) ⟨(rl_cells HP6.out.2.2.2.1).2.1, (rl_cells HP6.out.2.2.2.1).2.2.1, (rl_cells HP6.out.2.2.2.1).2.2.2.1, (rl_cells HP6.out.2.2.2.1).2.2.2.2.2⟩ (fun hS => ?_)
            refine until_take 0 (some 168) (u := ?_) rfl rfl (by kernel_rfl) (by kernel_rfl) (by kernel_rfl) (by kernel_rfl) (fun _ _ _ h => h) (by rfl) (fun wS hv => ?_) hS ?_
            rotate_left
            · clear hv
              go_simp
              all_goals with_reducible rfl
            try simp only [Act.put, List.setIfInBounds_toArray, List.set]
            refine until_take 1 (some 169) (u := ?_) rfl rfl (by kernel_rfl) (by kernel_rfl) (by kernel_rfl) (by kernel_rfl) (fun _ _ _ h => h) (by rfl) (fun wS hv => ?_) hS ?_
            rotate_left
            · clear hv
              go_simp
              all_goals with_reducible rfl
            try simp only [Act.put, List.setIfInBounds_toArray, List.set]
            refine until_take 2 (some 170) (u := ?_) rfl rfl (by kernel_rfl) (by kernel_rfl) (by kernel_rfl) (by kernel_rfl) (fun _ _ _ h => h) (by rfl) (fun wS hv => ?_) hS ?_
            rotate_left
            · clear hv
              go_simp
              all_goals with_reducible rfl
            try simp only [Act.put, List.setIfInBounds_toArray, List.set]
            refine until_take 3 (some 171) (u := ?_) rfl rfl (by kernel_rfl) (by kernel_rfl) (by kernel_rfl) (by kernel_rfl) (fun _ _ _ h => h) (by rfl) (fun wS hv => ?_) hS ?_
            rotate_left
            · clear hv
              go_simp
              all_goals with_reducible rfl
            try simp only [Act.put, List.setIfInBounds_toArray, List.set]
            refine until_take 4 (some 172) (u := ?_) rfl rfl (by kernel_rfl) (by kernel_rfl) (by kernel_rfl) (by kernel_rfl) (fun _ _ _ h => h) (by rfl) (fun wS hv => ?_) hS ?_
            rotate_left
            · clear hv
              go_simp
              all_goals with_reducible rfl
            try simp only [Act.put, List.setIfInBounds_toArray, List.set]
            refine until_take 5 (some 173) (u := ?_) rfl rfl (by kernel_rfl) (by kernel_rfl) (by kernel_rfl) (by kernel_rfl) (fun _ _ _ h => h) (by rfl) (fun wS hv => ?_) hS ?_
            rotate_left
            · clear hv
              go_simp
              all_goals with_reducible rfl
            try simp only [Act.put, List.setIfInBounds_toArray, List.set]
            refine until_take 6 (some 174) (u := ?_) rfl rfl (by kernel_rfl) (by kernel_rfl) (by kernel_rfl) (by kernel_rfl) (fun _ _ _ h => h) (by rfl) (fun wS hv => ?_) hS ?_
            rotate_left
            · clear hv
              go_simp
              all_goals with_reducible rfl
            try simp only [Act.put, List.setIfInBounds_toArray, List.set]
            refine until_take 7 (some 175) (u := ?_) rfl rfl (by kernel_rfl) (by kernel_rfl) (by kernel_rfl) (by kernel_rfl) (fun _ _ _ h => h) (by rfl) (fun wS hv => ?_) hS ?_
            rotate_left
            · clear hv
              go_simp
              all_goals with_reducible rfl
            try simp only [Act.put, List.setIfInBounds_toArray, List.set]
            refine until_take 9 (some 177) (u := ?_) rfl rfl (by kernel_rfl) (by kernel_rfl) (by kernel_rfl) (by kernel_rfl) (fun _ _ _ h => h) (by rfl) (fun wS hv => ?_) hS ?_
            rotate_left
            · clear hv
              go_simp
              all_goals with_reducible rfl
            try simp only [Act.put, List.setIfInBounds_toArray, List.set]
            refine until_take 10 (some 178) (u := ?_) rfl rfl (by kernel_rfl) (by kernel_rfl) (by kernel_rfl) (by kernel_rfl) (fun _ _ _ h => h) (by rfl) (fun wS hv => ?_) hS ?_
            rotate_left
            · clear hv
              go_simp
              all_goals with_reducible rfl
            try simp only [Act.put, List.setIfInBounds_toArray, List.set]
            refine until_take 11 (some 179) (u := ?_) rfl rfl (by kernel_rfl) (by kernel_rfl) (by kernel_rfl) (by kernel_rfl) (fun _ _ _ h => h) (by rfl) (fun wS hv => ?_) hS ?_
            rotate_left
            · clear hv
              go_simp
              all_goals with_reducible rfl
            try simp only [Act.put, List.setIfInBounds_toArray, List.set]
            refine until_take 12 (some 180) (u := ?_) rfl rfl (by kernel_rfl) (by kernel_rfl) (by kernel_rfl) (by kernel_rfl) (fun _ _ _ h => h) (by rfl) (fun wS hv => ?_) hS ?_
            rotate_left
            · obtain ⟨k1, k2, k3, k5⟩ := hv
              go_simp
              all_goals with_reducible rfl
            try simp only [Act.put, List.setIfInBounds_toArray, List.set]
            refine until_one 8 (by kernel_rfl) rfl (fun K hK => ?_)
            go_simp
            refine (logMark_any _ h4 g _ HP6.out.drew.2.1).mono ?_
            rintro e7 w7 ⟨rfl, hb7⟩
            have HP7 := Lib.hid (HP6.out.drew.step hb7)
            clear hb7
            refine hK.out _ _ ⟨(rl_cells HP7.out.2.2.2.1).2.1, (rl_cells HP7.out.2.2.2.1).2.2.1, (rl_cells HP7.out.2.2.2.1).2.2.2.1, (rl_cells HP7.out.2.2.2.1).2.2.2.2.2⟩ (fun hS => ?_)
            clear hK K
            try simp only [Act.put, List.setIfInBounds_toArray, List.set]
            refine until_take 13 (some 181) (u := ?_) rfl rfl (by kernel_rfl) (by kernel_rfl) (by kernel_rfl) (by kernel_rfl) (fun _ _ _ h => h) (by rfl) (fun wS hv => ?_) hS ?_
            rotate_left
            · clear hv
              go_simp
              all_goals with_reducible rfl
            try simp only [Act.put, List.setIfInBounds_toArray, List.set]
            refine until_take 14 (some 182) (u := ?_) rfl rfl (by kernel_rfl) (by kernel_rfl) (by kernel_rfl) (by kernel_rfl) (fun _ _ _ h => h) (by rfl) (fun wS hv => ?_) hS ?_
            rotate_left
            · clear hv
              go_simp
              all_goals with_reducible rfl
            try simp only [Act.put, List.setIfInBounds_toArray, List.set]
            refine until_take 15 (some 183) (u := ?_) rfl rfl (by kernel_rfl) (by kernel_rfl) (by kernel_rfl) (by kernel_rfl) (fun _ _ _ h => h) (by rfl) (fun wS hv => ?_) hS ?_
            rotate_left
            · clear hv
              go_simp
              all_goals with_reducible rfl
            try simp only [Act.put, List.setIfInBounds_toArray, List.set]
            refine until_take 16 (some 184) (u := ?_) rfl rfl (by kernel_rfl) (by kernel_rfl) (by kernel_rfl) (by kernel_rfl) (fun _ _ _ h => h) (by rfl) (fun wS hv => ?_) hS ?_
            rotate_left
            · clear hv
              go_simp
              all_goals with_reducible rfl
            try simp only [Act.put, List.setIfInBounds_toArray, List.set]
            refine until_take 18 (some 186) (u := ?_) rfl rfl (by kernel_rfl) (by kernel_rfl) (by kernel_rfl) (by kernel_rfl) (fun _ _ _ h => h) (by rfl) (fun wS hv => ?_) hS ?_
            rotate_left
            · clear hv
              go_simp
              all_goals with_reducible rfl
            try simp only [Act.put, List.setIfInBounds_toArray, List.set]
            refine until_take 19 (some 187) (u := ?_) rfl rfl (by kernel_rfl) (by kernel_rfl) (by kernel_rfl) (by kernel_rfl) (fun _ _ _ h => h) (by rfl) (fun wS hv => ?_) hS ?_
            rotate_left
            · clear hv
              go_simp
              all_goals with_reducible rfl
            try simp only [Act.put, List.setIfInBounds_toArray, List.set]
            refine until_take 20 (some 188) (u := ?_) rfl rfl (by kernel_rfl) (by kernel_rfl) (by kernel_rfl) (by kernel_rfl) (fun _ _ _ h => h) (by rfl) (fun wS hv => ?_) hS ?_
            rotate_left
            · clear hv
              go_simp
              all_goals with_reducible rfl
            try simp only [Act.put, List.setIfInBounds_toArray, List.set]
            refine until_take 21 (some 189) (u := ?_) rfl rfl (by kernel_rfl) (by kernel_rfl) (by kernel_rfl) (by kernel_rfl) (fun _ _ _ h => h) (by rfl) (fun wS hv => ?_) hS ?_
            rotate_left
            · obtain ⟨k1, k2, k3, k5⟩ := hv
              go_simp
              all_goals with_reducible rfl
            try simp only [Act.put, List.setIfInBounds_toArray, List.set]
            refine until_one 17 (by kernel_rfl) rfl (fun K hK => ?_)
            go_simp
            refine (logBroken_any _ h4 g _ HP7.out.2.1).mono ?_
            rintro e8 w8 ⟨rfl, rfl⟩
            refine hK.out _ _ ⟨(rl_cells HP7.out.2.2.2.1).2.1, (rl_cells HP7.out.2.2.2.1).2.2.1, (rl_cells HP7.out.2.2.2.1).2.2.2.1, (rl_cells HP7.out.2.2.2.1).2.2.2.2.2⟩ (fun hS => ?_)
            clear hK K
            try simp only [Act.put, List.setIfInBounds_toArray, List.set]
            refine until_take 22 (some 190) (u := ?_) rfl rfl (by kernel_rfl) (by kernel_rfl) (by kernel_rfl) (by kernel_rfl) (fun _ _ _ h => h) (by rfl) (fun wS hv => ?_) hS ?_
            rotate_left
            · clear hv
              go_simp
              all_goals with_reducible rfl
            try simp only [Act.put, List.setIfInBounds_toArray, List.set]
            refine until_take 23 (some 191) (u := ?_) rfl rfl (by kernel_rfl) (by kernel_rfl) (by kernel_rfl) (by kernel_rfl) (fun _ _ _ h => h) (by rfl) (fun wS hv => ?_) hS ?_
            rotate_left
            · clear hv
              go_simp
              all_goals with_reducible rfl
            try simp only [Act.put, List.setIfInBounds_toArray, List.set]
            refine until_take 24 (some 192) (u := ?_) rfl rfl (by kernel_rfl) (by kernel_rfl) (by kernel_rfl) (by kernel_rfl) (fun _ _ _ h => h) (by rfl) (fun wS hv => ?_) hS ?_
            rotate_left
            · clear hv
              go_simp
              all_goals with_reducible rfl
            try simp only [Act.put, List.setIfInBounds_toArray, List.set]
            refine until_take 25 (some 193) (u := ?_) rfl rfl (by kernel_rfl) (by kernel_rfl) (by kernel_rfl) (by kernel_rfl) (fun _ _ _ h => h) (by rfl) (fun wS hv => ?_) hS ?_
            rotate_left
            · clear hv
              go_simp
              all_goals with_reducible rfl
            try simp only [Act.put, List.setIfInBounds_toArray, List.set]
            refine until_take 27 (some 195) (u := ?_) rfl rfl (by kernel_rfl) (by kernel_rfl) (by kernel_rfl) (by kernel_rfl) (fun _ _ _ h => h) (by rfl) (fun wS hv => ?_) hS ?_
            rotate_left
            · clear hv
              go_simp
              all_goals with_reducible rfl
            try simp only [Act.put, List.setIfInBounds_toArray, List.set]
            refine until_one 26 (by kernel_rfl) rfl (fun K hK => ?_)
            go_simp
            refine (logRoom_any _ h4 g gm _ _ _ _ _ HP7.out.2.1 HP7.out.1 HDN.out.1 HDN.out.2 (by show -1000000 ≤ mb; omega) (by show mb ≤ 1000000; omega)).mono ?_
            rw [HRM.out]
            rintro e9 w9 ⟨rfl, hb9⟩
            have HP9 := Lib.hid (HP7.out.step hb9)
            clear hb9
            refine hK.out _ _ ⟨(rl_cells HP9.out.2.2.2.1).2.1, (rl_cells HP9.out.2.2.2.1).2.2.1, (rl_cells HP9.out.2.2.2.1).2.2.2.1, (rl_cells HP9.out.2.2.2.1).2.2.2.2.2⟩ (fun hS => ?_)
            clear hK K
            try simp only [Act.put, List.setIfInBounds_toArray, List.set]
            refine until_one 28 (by kernel_rfl) rfl (fun K hK => ?_)
            go_simp
            refine (refRoom_any _ y4 rh sv _ B2 _ _ _ _ HP9.out.2.2.2.1 HP9.out.2.2.1 HDN.out.1 HDN.out.2 hLL).mono ?_
            rw [HRL.out]
            rintro e10 w10 ⟨rfl, q10, rfl⟩
            have HP10 := Lib.hid (HP9.out.step (below_drewN _ q10))
            refine hK.out _ _ ⟨(rl_cells HP10.out.2.2.2.1).2.1, (rl_cells HP10.out.2.2.2.1).2.2.1, (rl_cells HP10.out.2.2.2.1).2.2.2.1, (rl_cells HP10.out.2.2.2.1).2.2.2.2.2⟩ (fun hS => ?_)
            clear hK K
            try simp only [Act.put, List.setIfInBounds_toArray, List.set]
            refine until_take 29 (some 197) (u := ?_) rfl rfl (by kernel_rfl) (by kernel_rfl) (by kernel_rfl) (by kernel_rfl) (fun _ _ _ h => h) (by rfl) (fun wS hv => ?_) hS ?_
            rotate_left
            · clear hv
              go_simp
              all_goals with_reducible rfl
            try simp only [Act.put, List.setIfInBounds_toArray, List.set]
            refine until_take 30 (some 198) (u := ?_) rfl rfl (by kernel_rfl) (by kernel_rfl) (by kernel_rfl) (by kernel_rfl) (fun _ _ _ h => h) (by rfl) (fun wS hv => ?_) hS ?_
            rotate_left
            · clear hv
              go_simp
              all_goals with_reducible rfl
            try simp only [Act.put, List.setIfInBounds_toArray, List.set]
            refine until_done (by kernel_rfl) ?_
            clear hS
            go_wp2_with fail
            refine Handed.intro (gk - 1) (by omega) (hJ2 _ _ _ ⟨j + 1, _, _, _, _, _, _, _, _, by omega, by omega, HP10.out, meet_us (by kernel_rfl)⟩)
        · have i2 : ¬ (j : Int) < 40 := by omega
          go_wp2_with fail
          exact meet_at hJ1 ⟨HP.out.below, meet_us (by kernel_rfl)⟩
      · have i1 : ¬ (j : Int) < (m : Int) := by omega
        go_wp2_with fail
        exact meet_at hJ1 ⟨HP.out.below, meet_us (by kernel_rfl)⟩
  · rintro a1 w3 ⟨hb, us, rfl⟩
    unfold FrP7
    have HB := Lib.hid hb
    clear hb
    go_wp2_with fail
    go_ret
    exact ⟨rfl, HB.out⟩
end Go.Proofs.Ytiighehibiijcaa

namespace Go.Proofs.Ytiighehibiijcaa.slotsPlaysLaw
open Go.ChangeShapes Go.WideShapes Go.ChangeAt Go.RowKit
open Go.ChangeMaps (open_string shut_string)
set_option linter.unusedVariables false

theorem own : ownKnob Try.prog.godebug = none := by kernel_rfl
theorem laidOut : laidOutB Try.prog = true := by kernel_rfl

set_option maxRecDepth 100000 in
theorem lifted (os : Os) (started : os.Started) (H : Type) (enc : TypeId × Value → H) :
    ReturnsInHanded {} Try.checked os 14 .any (Rows.slotsPlaysSpec.pre6 enc Try.prog Try.f14 Rows.slotsPlaysRow.domain false) (Rows.slotsPlaysSpec.post enc Try.prog Try.f14 false true false false) := by
  refine returnsInHanded_of_change (C := Try.checked) own started (by kernel_rfl) Try.func14
    (ChangeSpec.witness6 (enc := enc) (C := Try.checked) false ⟨#[], #[.int .i64 0, .slice none 0 0], []⟩ 16 (by kernel_rfl) (by kernel_rfl) (by kernel_rfl) (by kernel_rfl)) ?_
  intro W base args ds gs before hval0 hW hcnd _
  have hval : ∀ (j : Nat) t v, Try.f14.params[j]? = some t → args[j]? = some v → Value.okWide Try.prog W .any base t v := hval0
  have hW' := hW
  obtain ⟨p, q, hA0, hV, rfl, hfz, hnd⟩ := hW
  have hA : DataW.TrodAll enc Try.prog W 0 (fun _ => true) true Try.f14.params.toList args.toList ds p := hA0
  rw [Try.params14] at hA hval
  obtain ⟨v0, vs0, d0, ds0, p0, q0, hargs, rfl, rfl, h0, r0⟩ := trodAll_cons hA
  obtain ⟨v1, vs1, d1, ds1, p1, q1, rfl, rfl, rfl, h1, r1⟩ := trodAll_cons r0
  obtain ⟨rfl, rfl, rfl⟩ := trodAll_nil r1
  obtain rfl : args = #[v0, v1] := by cases args; simp_all
  obtain ⟨rfl, rfl⟩ := trodVars_none hV
  have k0 := h0
  have lt0 : ∀ x ∈ p0, x.block < W.heap.size := by obtain ⟨m, hm⟩ := k0; exact DataW.trod_lt m _ _ _ hm
  have k1 := h1
  have lt1 : ∀ x ∈ p1, x.block < W.heap.size := by obtain ⟨m, hm⟩ := k1; exact DataW.trod_lt m _ _ _ hm
  obtain ⟨a0, rfl, rfl, rfl, w0⟩ := open_int Try.underlying3 (hval 0 3 v0 rfl rfl) h0
  obtain ⟨n1, F1, hL1⟩ := open_ops7 Try.underlying81 Try.underlying86 (by kernel_rfl) (by kernel_rfl) Try.underlying3 Try.underlying3 Try.underlying3 Try.underlying3 Try.underlying9 Try.underlying41 Try.underlying4 (by kernel_rfl) (hval 1 81 v1 rfl rfl) h1
  clear hA0 hval0
  have hw := slotsPlays_walk a0 v1 W n1 F1 hL1
  refine hw.mono fun e W' ⟨he, bel⟩ => ?_
  subst he
  exact ⟨_, rfl, _, _, _, [], _, [], hW', trodAll_mk1 (shut_bool Try.underlying4 _), (trodAll_cons_mk (Below.trod laidOut (by kernel_rfl) (of_decide_eq_true (by kernel_rfl)) k0 bel lt0) (trodAll_cons_mk (Below.trod laidOut (by kernel_rfl) (of_decide_eq_true (by kernel_rfl)) k1 bel lt1) trodAll_mk0)), rfl, bel.frame _, fun h => by cases h⟩

theorem over : Rows.slotsPlaysRow.holds Try.pinned (OpenSpec.ofChange Rows.slotsPlaysSpec) :=
  OpenClaim.holds_of_wide 14 Try.f14 rfl rfl rfl rfl rfl rfl rfl ⟨rfl, rfl, rfl, rfl, rfl⟩ rfl rfl rfl rfl rfl (by kernel_rfl) Try.func14 (by kernel_rfl)
    (of_decide_eq_true (by kernel_rfl)) (by unfold Func.isWrapper; first | (rw [if_pos (by decide +kernel)]; kernel_rfl) | (rw [if_neg (by decide +kernel)]; exact ⟨rfl, rfl⟩))
    (fun os started H enc _ => lifted os started H enc)

/-- The statement. -/
theorem proved : Rows.SlotsPlaysSaid := over
end Go.Proofs.Ytiighehibiijcaa.slotsPlaysLaw

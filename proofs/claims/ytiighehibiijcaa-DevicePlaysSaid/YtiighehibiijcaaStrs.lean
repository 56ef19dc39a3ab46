/-
  Rows of strings that a call has made itself: carried over calls, pushed onto, read. No conditions beside those in each theorem.
-/
import Derived.Test.YtiighehibiijcaaBlk
import Derived.Laws.AppendOwn
namespace Go.Proofs.Ytiighehibiijcaa
open Go.RowKit

theorem Try.infoStr : (Try.prog.info? 9).map (fun i => (i.zero, i.size, i.bytes)) = some (some (.string ByteArray.empty), 1, 16) := by kernel_rfl

/-- v is a row of the texts L, of the call's own (in a block from B on). -/
def OwnS (w : World) (B : Nat) (v : Value) (L : List (List UInt8)) : Prop := w.ownsRow B 9 1 v L.length (L.map str)
section
variable {w w' : World} {B : Nat} {v : Value} {L : List (List UInt8)}
theorem OwnS.none (w : World) (B : Nat) : OwnS w B (.slice none 0 0) [] := World.ownsRow_nil _ _ _ _
theorem OwnS.drew (h : OwnS w B v L) : OwnS w.drew B v L := h
theorem OwnS.alloc (h : OwnS w B v L) (o : Obj) : OwnS (w.alloc o) B v L := World.ownsRow.alloc h o
theorem OwnS.step (h : OwnS w B v L) (hb : Below w.heap.size w w') : OwnS w' B v L :=
  World.ownsRow.kept h (row := Option.none) ⟨hb.os, hb.tape, hb.output, hb.size, fun k hk _ => hb.block k hk⟩ (by
    rcases hv : v.ownBlock with _ | k
    · exact .inl rfl
    · exact .inr (by simp))
theorem OwnS.grown {row : Option Nat} (h : OwnS w B v L) (hg : w.grownBy w' row) (hne : v.ownBlock = Option.none ∨ v.ownBlock ≠ row) : OwnS w' B v L := World.ownsRow.kept h hg hne
theorem OwnS.weak {B' : Nat} (h : OwnS w B v L) (hB : B' ≤ B) : OwnS w B' v L := by
  refine ⟨h.1, ?_⟩
  rcases h.2 with h1 | ⟨g, cap, cur, h1, h2, h3⟩
  · exact .inl h1
  · exact .inr ⟨g, cap, cur, h1, Nat.le_trans hB h2, h3⟩
theorem OwnS.push {b : List UInt8} (h : w.ownsRow B 9 1 v (L.length + 1) (L.map str ++ [str b])) : OwnS w B v (L ++ [b]) := by
  unfold OwnS
  simpa only [List.map_append, List.map_cons, List.map_nil, List.length_append, List.length_cons, List.length_nil, Nat.zero_add] using h
theorem OwnS.read (h : OwnS w B v L) : (v = .slice Option.none 0 0 ∧ L = []) ∨
    ∃ g cap, v = .slice (some ⟨g, 0, Option.none⟩) L.length cap ∧ B ≤ g ∧ g < w.heap.size ∧ L.length ≤ cap ∧ cap ≤ maxLen ∧ (∀ i (h : i < L.length), w.cell? ⟨g, i, Option.none⟩ = some (str L[i])) := by
  rcases h.2 with ⟨h1, h2⟩ | ⟨g, cap, cur, h1, h2, h3, h4, h5, h6, h7⟩
  · exact .inl ⟨h1, List.eq_nil_of_length_eq_zero h2⟩
  · refine .inr ⟨g, cap, h1, h2, (Array.getElem?_eq_some_iff.1 h3).1, h4, h5, ?_⟩
    intro i hi
    rw [cell_of_row w g i cur 9 (0, 0) h3]
    have h8 : (cur.toList.take (L.length * 1))[i]? = (L.map str)[i]? := by rw [h7]
    rw [List.getElem?_take] at h8
    rw [if_pos (by omega)] at h8
    rw [← Array.getElem?_toList, h8]
    simp [hi]
theorem OwnS.fits (h : OwnS w B v L) : L.length ≤ maxLen := by
  rcases h.read with ⟨_, rfl⟩ | ⟨g, cap, _, _, _, h1, h2, _⟩
  · simp
  · omega
end

theorem take_all_eq (s t : List UInt8) : (str s = str t) ↔ s = t := by simp [str]

/-! Are two lists of texts the same? -/
def sameL : List (List UInt8) → List (List UInt8) → Bool
  | [], [] => true
  | a :: l, b :: m => a == b && sameL l m
  | _, _ => false
theorem sameL_refl : ∀ l, sameL l l = true := by
  intro l
  induction l with
  | nil => rfl
  | cons a l ih => simp [sameL, ih]
theorem sameL_eq : ∀ l m, sameL l m = true ↔ l = m := by
  intro l
  induction l with
  | nil => intro m; cases m <;> simp [sameL]
  | cons a l ih =>
    intro m
    cases m with
    | nil => simp [sameL]
    | cons b m => simp [sameL, ih]
end Go.Proofs.Ytiighehibiijcaa

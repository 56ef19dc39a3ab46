/-
  Frames as one function of the slots: where ways meet, and at a loop's round, all scratch is forgotten at once. No conditions beside those in each theorem.
-/
import Derived.Test.YtiighehibiijcaaUntil
import Derived.Deep.LoopGhost
import Derived.Deep.CutBlock
namespace Go.Proofs.Ytiighehibiijcaa
open Go.RowKit
def nthV : List Value → Nat → Value
  | a :: _, 0 => a
  | _ :: l, i + 1 => nthV l i
  | [], _ => undef
theorem meet_us {T : (Nat → Value) → Act} {l : List Value} (h : (⟨l.toArray, []⟩ : Act) = T (nthV l)) : ∃ us, (⟨l.toArray, []⟩ : Act) = T us := ⟨nthV l, h⟩
theorem meet_at {J : Act → World → Prop} {a : Act} {w : World} {R : Act → World → Prop} (hJ : ∀ a w, R a w → J a w) (h : R a w) : Met J a w := hJ a w h
/-- A draw turns nothing that is read. -/
theorem below_drewN (w : World) (n : Nat) : Below w.heap.size w (w.drewN n) := ⟨rfl, rfl, rfl, Nat.le_refl _, fun _ _ => rfl⟩
end Go.Proofs.Ytiighehibiijcaa

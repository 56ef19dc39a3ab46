/-
  DERIVED. GIVEN WITH THE SEED: THE CARDS: each row of YtlddafbgfkocjaaGreatDoorRows.lean that lists a variable, with what it lists TIED to the program's text (the seventh form; the later family's looks); each row that meets fmt, with fmt's text TOLD by the authors' own Lean function (tested against real Go, not proved from fmt's source: count such statements apart). THE CARD IS WHAT COUNTS. Prove the row's statement (the work); the ties are given (YtlddafbgfkocjaaGreatDoorTie.lean); close each card by the builder's one call (the guide's Derived/Test/ToyasCard.lean, 'card_holds'). Laid BY PROGRAM, IN A SANDBOX (cutbox-door.mjs). By AI agents, Wed Nov 11 2026. No macro, syntax, notation, axiom, sorry.
-/
import Derived.Test.YtlddafbgfkocjaaGreatDoorRows
import GoSem.ClaimSeven
namespace Go.Proofs.YtlddafbgfkocjaaGreatDoor
namespace Rows

/-- THE TIED CARD OF 'twinspantop.TopHonest'. -/
def topHonestCard : Claim7 := { stood := { row := topHonestRow, standIns := [], harness := (true, "fd0344e6ccc51edae4efb6e7321fd9ce834f82c9ca1a0836f63434ce26927967"), looks := false }, kinds := [], alts := [], laidByText := true, laidKinds := [.data, .data, .data, .pinned], laidTests := true, laidLooks := .later }
def TopHonestCardSaid : Prop := Claim7.holds Tryz.pinned (.plain (OpenSpec.ofChange topHonestSpec)) topHonestCard

/-- THE SECOND FORM's CARD OF 'twinspantop.TopHonest'. -/
def topHonestUptoCard : Claim7 := { stood := { row := topHonestUptoRow, standIns := [], harness := (true, "fd0344e6ccc51edae4efb6e7321fd9ce834f82c9ca1a0836f63434ce26927967"), looks := false }, kinds := [], alts := [], laidByText := true, laidKinds := [.data, .data, .data, .pinned], laidTests := true, laidLooks := .later }
def TopHonestUptoCardSaid : Prop := Claim7.holds Tryz.pinned (.plain (OpenSpec.upto topHonestSpec)) topHonestUptoCard
end Rows
end Go.Proofs.YtlddafbgfkocjaaGreatDoor

/-
  No cell of these rows narrows 'for every input' (looked for: loops, veiled, ifaces, maps, wideKeys, modest, calm, conditions, laid).
  DERIVED. THE GIVEN ROWS OF THIS SEAT. 12 by the template 'for every input the law returns true; each argument reads behind the call as it read before'; 0 by the template 'total and deterministic' (their statements: YtiighehibiijcaaTotals.lean).
  GIVEN WITH THE SEED: the statements are not yours to turn. If you find one false, say at which input.
  Laid BY PROGRAM, IN A SANDBOX (cutbox-rows.mjs): the forced cells as the released guide's own fill.sh prints them over the translation 14258d07b2672c8d… (all of the seat's roots in one cut). By AI agents, Wed Nov 11 2026. No macro, syntax, notation, axiom, sorry.
-/
import Derived.Test.YtiighehibiijcaaChecked
import GoSem.Claim
import GoSem.ClaimJoined
import GoSem.ClaimMapViews
import Derived.JoinedTies
import Derived.KernelRfl
namespace Go.Proofs.Ytiighehibiijcaa
/- THE CELL 'sum', in the pinned program and in every row, IS THE sha256 OF THE DUMP (.gsa) THAT YtiighehibiijcaaProg.lean LOADS. Nothing in Lean hashes anything: it is a label: what it is worth is what the hold of that sum in a sandbox is worth. -/
noncomputable def Try.pinned : Pinned := { name := "ytiighehibiijcaa", sum := "14258d07b2672c8d50c0820d4858a232d3de1f11542362ac78cf0c6bab1dc74a", checked := Try.checked }
namespace Rows
def none {H : Type} : Left H := { results := [], args := [] }

/-- 'twinspanlaw06.DeviceLast': WHATEVER THE INPUT: true; the input reads as it did. -/
def deviceLastSpec : ChangeSpec := { name := "deviceLast", fn := fun _ => fun
  | [d1, d2] => { results := [.lit (.bool true)], args := [d1, d2] }
  | _ => none }
def deviceLastRow : OpenClaim := { program := "ytiighehibiijcaa", sum := "14258d07b2672c8d50c0820d4858a232d3de1f11542362ac78cf0c6bab1dc74a", func := "twinspan/twinspanlaw06.DeviceLast", spec := "deviceLast", unfollowed := true, recurses := true, apart := false }
def DeviceLastSaid : Prop := deviceLastRow.holds Try.pinned (OpenSpec.ofChange deviceLastSpec)

/-- ITS FALSE NEIGHBOUR: 'it returns false'. Refute it at one input. -/
def deviceLastWrong : ChangeSpec := { name := "deviceLast", fn := fun _ => fun
  | [d1, d2] => { results := [.lit (.bool false)], args := [d1, d2] }
  | _ => none }
def DeviceLastWrongFalsely : Prop := deviceLastRow.holds Try.pinned (OpenSpec.ofChange deviceLastWrong)

/-- 'twinspanlaw06.DeviceEdges': WHATEVER THE INPUT: true; the input reads as it did. -/
def deviceEdgesSpec : ChangeSpec := { name := "deviceEdges", fn := fun _ => fun
  | [d1, d2, d3] => { results := [.lit (.bool true)], args := [d1, d2, d3] }
  | _ => none }
def deviceEdgesRow : OpenClaim := { program := "ytiighehibiijcaa", sum := "14258d07b2672c8d50c0820d4858a232d3de1f11542362ac78cf0c6bab1dc74a", func := "twinspan/twinspanlaw06.DeviceEdges", spec := "deviceEdges", unfollowed := true, recurses := true, apart := false }
def DeviceEdgesSaid : Prop := deviceEdgesRow.holds Try.pinned (OpenSpec.ofChange deviceEdgesSpec)

/-- ITS FALSE NEIGHBOUR: 'it returns false'. Refute it at one input. -/
def deviceEdgesWrong : ChangeSpec := { name := "deviceEdges", fn := fun _ => fun
  | [d1, d2, d3] => { results := [.lit (.bool false)], args := [d1, d2, d3] }
  | _ => none }
def DeviceEdgesWrongFalsely : Prop := deviceEdgesRow.holds Try.pinned (OpenSpec.ofChange deviceEdgesWrong)

/-- 'twinspanlaw06.DeviceSafe': WHATEVER THE INPUT: true; the input reads as it did. -/
def deviceSafeSpec : ChangeSpec := { name := "deviceSafe", fn := fun _ => fun
  | [d1, d2, d3] => { results := [.lit (.bool true)], args := [d1, d2, d3] }
  | _ => none }
def deviceSafeRow : OpenClaim := { program := "ytiighehibiijcaa", sum := "14258d07b2672c8d50c0820d4858a232d3de1f11542362ac78cf0c6bab1dc74a", func := "twinspan/twinspanlaw06.DeviceSafe", spec := "deviceSafe", unfollowed := true, recurses := true, apart := false }
def DeviceSafeSaid : Prop := deviceSafeRow.holds Try.pinned (OpenSpec.ofChange deviceSafeSpec)

/-- ITS FALSE NEIGHBOUR: 'it returns false'. Refute it at one input. -/
def deviceSafeWrong : ChangeSpec := { name := "deviceSafe", fn := fun _ => fun
  | [d1, d2, d3] => { results := [.lit (.bool false)], args := [d1, d2, d3] }
  | _ => none }
def DeviceSafeWrongFalsely : Prop := deviceSafeRow.holds Try.pinned (OpenSpec.ofChange deviceSafeWrong)

/-- 'twinspanlaw06.DeviceArmed': WHATEVER THE INPUT: true; the input reads as it did. -/
def deviceArmedSpec : ChangeSpec := { name := "deviceArmed", fn := fun _ => fun
  | [d] => { results := [.lit (.bool true)], args := [d] }
  | _ => none }
def deviceArmedRow : OpenClaim := { program := "ytiighehibiijcaa", sum := "14258d07b2672c8d50c0820d4858a232d3de1f11542362ac78cf0c6bab1dc74a", func := "twinspan/twinspanlaw06.DeviceArmed", spec := "deviceArmed", unfollowed := true, recurses := true, apart := false }
def DeviceArmedSaid : Prop := deviceArmedRow.holds Try.pinned (OpenSpec.ofChange deviceArmedSpec)

/-- ITS FALSE NEIGHBOUR: 'it returns false'. Refute it at one input. -/
def deviceArmedWrong : ChangeSpec := { name := "deviceArmed", fn := fun _ => fun
  | [d] => { results := [.lit (.bool false)], args := [d] }
  | _ => none }
def DeviceArmedWrongFalsely : Prop := deviceArmedRow.holds Try.pinned (OpenSpec.ofChange deviceArmedWrong)

/-- 'twinspanlaw06.DevicePlays': WHATEVER THE INPUT: true; the input reads as it did. -/
def devicePlaysSpec : ChangeSpec := { name := "devicePlays", fn := fun _ => fun
  | [d1, d2] => { results := [.lit (.bool true)], args := [d1, d2] }
  | _ => none }
def devicePlaysRow : OpenClaim := { program := "ytiighehibiijcaa", sum := "14258d07b2672c8d50c0820d4858a232d3de1f11542362ac78cf0c6bab1dc74a", func := "twinspan/twinspanlaw06.DevicePlays", spec := "devicePlays", unfollowed := true, recurses := true, apart := false }
def DevicePlaysSaid : Prop := devicePlaysRow.holds Try.pinned (OpenSpec.ofChange devicePlaysSpec)

/-- ITS FALSE NEIGHBOUR: 'it returns false'. Refute it at one input. -/
def devicePlaysWrong : ChangeSpec := { name := "devicePlays", fn := fun _ => fun
  | [d1, d2] => { results := [.lit (.bool false)], args := [d1, d2] }
  | _ => none }
def DevicePlaysWrongFalsely : Prop := devicePlaysRow.holds Try.pinned (OpenSpec.ofChange devicePlaysWrong)

/-- 'twinspanlaw06.DeviceNil': WHATEVER THE INPUT: true; the input reads as it did. -/
def deviceNilSpec : ChangeSpec := { name := "deviceNil", fn := fun _ => fun
  | [d] => { results := [.lit (.bool true)], args := [d] }
  | _ => none }
def deviceNilRow : OpenClaim := { program := "ytiighehibiijcaa", sum := "14258d07b2672c8d50c0820d4858a232d3de1f11542362ac78cf0c6bab1dc74a", func := "twinspan/twinspanlaw06.DeviceNil", spec := "deviceNil", unfollowed := true, recurses := true, apart := false }
def DeviceNilSaid : Prop := deviceNilRow.holds Try.pinned (OpenSpec.ofChange deviceNilSpec)

/-- ITS FALSE NEIGHBOUR: 'it returns false'. Refute it at one input. -/
def deviceNilWrong : ChangeSpec := { name := "deviceNil", fn := fun _ => fun
  | [d] => { results := [.lit (.bool false)], args := [d] }
  | _ => none }
def DeviceNilWrongFalsely : Prop := deviceNilRow.holds Try.pinned (OpenSpec.ofChange deviceNilWrong)

/-- 'twinspanlaw07.SlotsTorn': WHATEVER THE INPUT: true; the input reads as it did. -/
def slotsTornSpec : ChangeSpec := { name := "slotsTorn", fn := fun _ => fun
  | [d1, d2, d3] => { results := [.lit (.bool true)], args := [d1, d2, d3] }
  | _ => none }
def slotsTornRow : OpenClaim := { program := "ytiighehibiijcaa", sum := "14258d07b2672c8d50c0820d4858a232d3de1f11542362ac78cf0c6bab1dc74a", func := "twinspan/twinspanlaw07.SlotsTorn", spec := "slotsTorn", inPlace := ["internal/abi.NoEscape"], unfollowed := true, recurses := true, apart := false }
def SlotsTornSaid : Prop := slotsTornRow.holds Try.pinned (OpenSpec.ofChange slotsTornSpec)

/-- ITS FALSE NEIGHBOUR: 'it returns false'. Refute it at one input. -/
def slotsTornWrong : ChangeSpec := { name := "slotsTorn", fn := fun _ => fun
  | [d1, d2, d3] => { results := [.lit (.bool false)], args := [d1, d2, d3] }
  | _ => none }
def SlotsTornWrongFalsely : Prop := slotsTornRow.holds Try.pinned (OpenSpec.ofChange slotsTornWrong)

/-- 'twinspanlaw07.SlotsWhole': WHATEVER THE INPUT: true; the input reads as it did. -/
def slotsWholeSpec : ChangeSpec := { name := "slotsWhole", fn := fun _ => fun
  | [d1, d2, d3] => { results := [.lit (.bool true)], args := [d1, d2, d3] }
  | _ => none }
def slotsWholeRow : OpenClaim := { program := "ytiighehibiijcaa", sum := "14258d07b2672c8d50c0820d4858a232d3de1f11542362ac78cf0c6bab1dc74a", func := "twinspan/twinspanlaw07.SlotsWhole", spec := "slotsWhole", inPlace := ["internal/abi.NoEscape"], unfollowed := true, recurses := true, apart := false }
def SlotsWholeSaid : Prop := slotsWholeRow.holds Try.pinned (OpenSpec.ofChange slotsWholeSpec)

/-- ITS FALSE NEIGHBOUR: 'it returns false'. Refute it at one input. -/
def slotsWholeWrong : ChangeSpec := { name := "slotsWhole", fn := fun _ => fun
  | [d1, d2, d3] => { results := [.lit (.bool false)], args := [d1, d2, d3] }
  | _ => none }
def SlotsWholeWrongFalsely : Prop := slotsWholeRow.holds Try.pinned (OpenSpec.ofChange slotsWholeWrong)

/-- 'twinspanlaw07.SlotsFull': WHATEVER THE INPUT: true; the input reads as it did. -/
def slotsFullSpec : ChangeSpec := { name := "slotsFull", fn := fun _ => fun
  | [d1, d2] => { results := [.lit (.bool true)], args := [d1, d2] }
  | _ => none }
def slotsFullRow : OpenClaim := { program := "ytiighehibiijcaa", sum := "14258d07b2672c8d50c0820d4858a232d3de1f11542362ac78cf0c6bab1dc74a", func := "twinspan/twinspanlaw07.SlotsFull", spec := "slotsFull", inPlace := ["internal/abi.NoEscape"], unfollowed := true, recurses := true, apart := false }
def SlotsFullSaid : Prop := slotsFullRow.holds Try.pinned (OpenSpec.ofChange slotsFullSpec)

/-- ITS FALSE NEIGHBOUR: 'it returns false'. Refute it at one input. -/
def slotsFullWrong : ChangeSpec := { name := "slotsFull", fn := fun _ => fun
  | [d1, d2] => { results := [.lit (.bool false)], args := [d1, d2] }
  | _ => none }
def SlotsFullWrongFalsely : Prop := slotsFullRow.holds Try.pinned (OpenSpec.ofChange slotsFullWrong)

/-- 'twinspanlaw07.SlotsNil': WHATEVER THE INPUT: true; the input reads as it did. -/
def slotsNilSpec : ChangeSpec := { name := "slotsNil", fn := fun _ => fun
  | [d] => { results := [.lit (.bool true)], args := [d] }
  | _ => none }
def slotsNilRow : OpenClaim := { program := "ytiighehibiijcaa", sum := "14258d07b2672c8d50c0820d4858a232d3de1f11542362ac78cf0c6bab1dc74a", func := "twinspan/twinspanlaw07.SlotsNil", spec := "slotsNil", inPlace := ["internal/abi.NoEscape"], unfollowed := true, recurses := true, apart := false }
def SlotsNilSaid : Prop := slotsNilRow.holds Try.pinned (OpenSpec.ofChange slotsNilSpec)

/-- ITS FALSE NEIGHBOUR: 'it returns false'. Refute it at one input. -/
def slotsNilWrong : ChangeSpec := { name := "slotsNil", fn := fun _ => fun
  | [d] => { results := [.lit (.bool false)], args := [d] }
  | _ => none }
def SlotsNilWrongFalsely : Prop := slotsNilRow.holds Try.pinned (OpenSpec.ofChange slotsNilWrong)

/-- 'twinspanlaw07.SlotsTurns': WHATEVER THE INPUT: true; the input reads as it did. -/
def slotsTurnsSpec : ChangeSpec := { name := "slotsTurns", fn := fun _ => fun
  | [d] => { results := [.lit (.bool true)], args := [d] }
  | _ => none }
def slotsTurnsRow : OpenClaim := { program := "ytiighehibiijcaa", sum := "14258d07b2672c8d50c0820d4858a232d3de1f11542362ac78cf0c6bab1dc74a", func := "twinspan/twinspanlaw07.SlotsTurns", spec := "slotsTurns", inPlace := ["internal/abi.NoEscape"], unfollowed := true, recurses := true, apart := false }
def SlotsTurnsSaid : Prop := slotsTurnsRow.holds Try.pinned (OpenSpec.ofChange slotsTurnsSpec)

/-- ITS FALSE NEIGHBOUR: 'it returns false'. Refute it at one input. -/
def slotsTurnsWrong : ChangeSpec := { name := "slotsTurns", fn := fun _ => fun
  | [d] => { results := [.lit (.bool false)], args := [d] }
  | _ => none }
def SlotsTurnsWrongFalsely : Prop := slotsTurnsRow.holds Try.pinned (OpenSpec.ofChange slotsTurnsWrong)

/-- 'twinspanlaw07.SlotsPlays': WHATEVER THE INPUT: true; the input reads as it did. -/
def slotsPlaysSpec : ChangeSpec := { name := "slotsPlays", fn := fun _ => fun
  | [d1, d2] => { results := [.lit (.bool true)], args := [d1, d2] }
  | _ => none }
def slotsPlaysRow : OpenClaim := { program := "ytiighehibiijcaa", sum := "14258d07b2672c8d50c0820d4858a232d3de1f11542362ac78cf0c6bab1dc74a", func := "twinspan/twinspanlaw07.SlotsPlays", spec := "slotsPlays", inPlace := ["internal/abi.NoEscape"], unfollowed := true, recurses := true, apart := false }
def SlotsPlaysSaid : Prop := slotsPlaysRow.holds Try.pinned (OpenSpec.ofChange slotsPlaysSpec)

/-- ITS FALSE NEIGHBOUR: 'it returns false'. Refute it at one input. -/
def slotsPlaysWrong : ChangeSpec := { name := "slotsPlays", fn := fun _ => fun
  | [d1, d2] => { results := [.lit (.bool false)], args := [d1, d2] }
  | _ => none }
def SlotsPlaysWrongFalsely : Prop := slotsPlaysRow.holds Try.pinned (OpenSpec.ofChange slotsPlaysWrong)

/- THE SECOND FORM. 'bulk': how many values and letters a reading holds, each counted each time it is reached (what is shared counts as often as it is met; a slice's spare places count too). A statement '..UptoSaid' is the law's where the arguments, and the package variables that the reading takes, are together of bulk at most 1048576: NARROWER than '..Said'. Prove '..Said' where nothing that the law and all that it calls make is longer than what came in: it says more and counts as full. Else prove '..UptoSaid'. A law counts once. -/
mutual
def uptoBulk {H : Type} : DataW H → Nat
  | .lit (.string bytes) => bytes.length + 1
  | .lit _ => 1
  | .nil => 1
  | .ptr d => uptoBulk d + 1
  | .slice elems spare => uptoBulkAll elems + uptoBulkAll spare + 1
  | .agg parts => uptoBulkAll parts + 1
  | .iface _ d => uptoBulk d + 1
  | .map entries => uptoBulkEntries entries + 1
  | .held _ => 1
def uptoBulkAll {H : Type} : List (DataW H) → Nat
  | [] => 0
  | d :: r => uptoBulk d + uptoBulkAll r
def uptoBulkEntries {H : Type} : List (Lit × DataW H) → Nat
  | [] => 0
  | x :: r => uptoBulkEntry x + uptoBulkEntries r
def uptoBulkEntry {H : Type} : Lit × DataW H → Nat
  | (.string bytes, d) => bytes.length + uptoBulk d + 1
  | (_, d) => uptoBulk d + 1
 end
def uptoSmall : (H : Type) → List (DataW H) → Bool := fun _ ds => decide (uptoBulkAll ds ≤ 1048576)
def OpenSpec.upto (s : _root_.Go.ChangeSpec) : _root_.Go.OpenSpec := { _root_.Go.OpenSpec.ofChange s with cond := some uptoSmall }

/-- 'twinspanlaw06.DeviceLast', WHERE WHAT IT READS IS OF BULK AT MOST 1048576: true; the input reads as it did. -/
def deviceLastUptoRow : OpenClaim := { program := "ytiighehibiijcaa", sum := "14258d07b2672c8d50c0820d4858a232d3de1f11542362ac78cf0c6bab1dc74a", func := "twinspan/twinspanlaw06.DeviceLast", spec := "deviceLast", unfollowed := true, recurses := true, apart := false, narrowed := true }
def DeviceLastUptoSaid : Prop := deviceLastUptoRow.holds Try.pinned (OpenSpec.upto deviceLastSpec)

/-- 'twinspanlaw06.DeviceEdges', WHERE WHAT IT READS IS OF BULK AT MOST 1048576: true; the input reads as it did. -/
def deviceEdgesUptoRow : OpenClaim := { program := "ytiighehibiijcaa", sum := "14258d07b2672c8d50c0820d4858a232d3de1f11542362ac78cf0c6bab1dc74a", func := "twinspan/twinspanlaw06.DeviceEdges", spec := "deviceEdges", unfollowed := true, recurses := true, apart := false, narrowed := true }
def DeviceEdgesUptoSaid : Prop := deviceEdgesUptoRow.holds Try.pinned (OpenSpec.upto deviceEdgesSpec)

/-- 'twinspanlaw06.DeviceSafe', WHERE WHAT IT READS IS OF BULK AT MOST 1048576: true; the input reads as it did. -/
def deviceSafeUptoRow : OpenClaim := { program := "ytiighehibiijcaa", sum := "14258d07b2672c8d50c0820d4858a232d3de1f11542362ac78cf0c6bab1dc74a", func := "twinspan/twinspanlaw06.DeviceSafe", spec := "deviceSafe", unfollowed := true, recurses := true, apart := false, narrowed := true }
def DeviceSafeUptoSaid : Prop := deviceSafeUptoRow.holds Try.pinned (OpenSpec.upto deviceSafeSpec)

/-- 'twinspanlaw06.DeviceArmed', WHERE WHAT IT READS IS OF BULK AT MOST 1048576: true; the input reads as it did. -/
def deviceArmedUptoRow : OpenClaim := { program := "ytiighehibiijcaa", sum := "14258d07b2672c8d50c0820d4858a232d3de1f11542362ac78cf0c6bab1dc74a", func := "twinspan/twinspanlaw06.DeviceArmed", spec := "deviceArmed", unfollowed := true, recurses := true, apart := false, narrowed := true }
def DeviceArmedUptoSaid : Prop := deviceArmedUptoRow.holds Try.pinned (OpenSpec.upto deviceArmedSpec)

/-- 'twinspanlaw06.DevicePlays', WHERE WHAT IT READS IS OF BULK AT MOST 1048576: true; the input reads as it did. -/
def devicePlaysUptoRow : OpenClaim := { program := "ytiighehibiijcaa", sum := "14258d07b2672c8d50c0820d4858a232d3de1f11542362ac78cf0c6bab1dc74a", func := "twinspan/twinspanlaw06.DevicePlays", spec := "devicePlays", unfollowed := true, recurses := true, apart := false, narrowed := true }
def DevicePlaysUptoSaid : Prop := devicePlaysUptoRow.holds Try.pinned (OpenSpec.upto devicePlaysSpec)

/-- 'twinspanlaw06.DeviceNil', WHERE WHAT IT READS IS OF BULK AT MOST 1048576: true; the input reads as it did. -/
def deviceNilUptoRow : OpenClaim := { program := "ytiighehibiijcaa", sum := "14258d07b2672c8d50c0820d4858a232d3de1f11542362ac78cf0c6bab1dc74a", func := "twinspan/twinspanlaw06.DeviceNil", spec := "deviceNil", unfollowed := true, recurses := true, apart := false, narrowed := true }
def DeviceNilUptoSaid : Prop := deviceNilUptoRow.holds Try.pinned (OpenSpec.upto deviceNilSpec)

/-- 'twinspanlaw07.SlotsTorn', WHERE WHAT IT READS IS OF BULK AT MOST 1048576: true; the input reads as it did. -/
def slotsTornUptoRow : OpenClaim := { program := "ytiighehibiijcaa", sum := "14258d07b2672c8d50c0820d4858a232d3de1f11542362ac78cf0c6bab1dc74a", func := "twinspan/twinspanlaw07.SlotsTorn", spec := "slotsTorn", inPlace := ["internal/abi.NoEscape"], unfollowed := true, recurses := true, apart := false, narrowed := true }
def SlotsTornUptoSaid : Prop := slotsTornUptoRow.holds Try.pinned (OpenSpec.upto slotsTornSpec)

/-- 'twinspanlaw07.SlotsWhole', WHERE WHAT IT READS IS OF BULK AT MOST 1048576: true; the input reads as it did. -/
def slotsWholeUptoRow : OpenClaim := { program := "ytiighehibiijcaa", sum := "14258d07b2672c8d50c0820d4858a232d3de1f11542362ac78cf0c6bab1dc74a", func := "twinspan/twinspanlaw07.SlotsWhole", spec := "slotsWhole", inPlace := ["internal/abi.NoEscape"], unfollowed := true, recurses := true, apart := false, narrowed := true }
def SlotsWholeUptoSaid : Prop := slotsWholeUptoRow.holds Try.pinned (OpenSpec.upto slotsWholeSpec)

/-- 'twinspanlaw07.SlotsFull', WHERE WHAT IT READS IS OF BULK AT MOST 1048576: true; the input reads as it did. -/
def slotsFullUptoRow : OpenClaim := { program := "ytiighehibiijcaa", sum := "14258d07b2672c8d50c0820d4858a232d3de1f11542362ac78cf0c6bab1dc74a", func := "twinspan/twinspanlaw07.SlotsFull", spec := "slotsFull", inPlace := ["internal/abi.NoEscape"], unfollowed := true, recurses := true, apart := false, narrowed := true }
def SlotsFullUptoSaid : Prop := slotsFullUptoRow.holds Try.pinned (OpenSpec.upto slotsFullSpec)

/-- 'twinspanlaw07.SlotsNil', WHERE WHAT IT READS IS OF BULK AT MOST 1048576: true; the input reads as it did. -/
def slotsNilUptoRow : OpenClaim := { program := "ytiighehibiijcaa", sum := "14258d07b2672c8d50c0820d4858a232d3de1f11542362ac78cf0c6bab1dc74a", func := "twinspan/twinspanlaw07.SlotsNil", spec := "slotsNil", inPlace := ["internal/abi.NoEscape"], unfollowed := true, recurses := true, apart := false, narrowed := true }
def SlotsNilUptoSaid : Prop := slotsNilUptoRow.holds Try.pinned (OpenSpec.upto slotsNilSpec)

/-- 'twinspanlaw07.SlotsTurns', WHERE WHAT IT READS IS OF BULK AT MOST 1048576: true; the input reads as it did. -/
def slotsTurnsUptoRow : OpenClaim := { program := "ytiighehibiijcaa", sum := "14258d07b2672c8d50c0820d4858a232d3de1f11542362ac78cf0c6bab1dc74a", func := "twinspan/twinspanlaw07.SlotsTurns", spec := "slotsTurns", inPlace := ["internal/abi.NoEscape"], unfollowed := true, recurses := true, apart := false, narrowed := true }
def SlotsTurnsUptoSaid : Prop := slotsTurnsUptoRow.holds Try.pinned (OpenSpec.upto slotsTurnsSpec)

/-- 'twinspanlaw07.SlotsPlays', WHERE WHAT IT READS IS OF BULK AT MOST 1048576: true; the input reads as it did. -/
def slotsPlaysUptoRow : OpenClaim := { program := "ytiighehibiijcaa", sum := "14258d07b2672c8d50c0820d4858a232d3de1f11542362ac78cf0c6bab1dc74a", func := "twinspan/twinspanlaw07.SlotsPlays", spec := "slotsPlays", inPlace := ["internal/abi.NoEscape"], unfollowed := true, recurses := true, apart := false, narrowed := true }
def SlotsPlaysUptoSaid : Prop := slotsPlaysUptoRow.holds Try.pinned (OpenSpec.upto slotsPlaysSpec)

end Rows
end Go.Proofs.Ytiighehibiijcaa

/-
  No cell of these rows narrows 'for every input' (looked for: loops, veiled, ifaces, maps, wideKeys, modest, calm, conditions, laid).
  DERIVED. THE GIVEN ROWS OF THIS SEAT. 12 by the template 'for every input the law returns true; each argument reads behind the call as it read before'; 0 by the template 'total and deterministic' (their statements: YtjanmonoigpmcaaTotals.lean).
  GIVEN WITH THE SEED: the statements are not yours to turn. If you find one false, say at which input.
  Laid BY PROGRAM, IN A SANDBOX (cutbox-rows.mjs): the forced cells as the released guide's own fill.sh prints them over the translation 142ab78a80dfad66… (all of the seat's roots in one cut). By AI agents, Wed Nov 11 2026. No macro, syntax, notation, axiom, sorry.
-/
import Derived.Test.YtjanmonoigpmcaaChecked
import GoSem.Claim
import GoSem.ClaimJoined
import GoSem.ClaimMapViews
import Derived.JoinedTies
import Derived.KernelRfl
namespace Go.Proofs.Ytjanmonoigpmcaa
/- THE CELL 'sum', in the pinned program and in every row, IS THE sha256 OF THE DUMP (.gsa) THAT YtjanmonoigpmcaaProg.lean LOADS. Nothing in Lean hashes anything: it is a label: what it is worth is what the hold of that sum in a sandbox is worth. -/
noncomputable def Try.pinned : Pinned := { name := "ytjanmonoigpmcaa", sum := "142ab78a80dfad66ce6da2bd0f6d6ca14479878318f990f96b9faf5b2b8cb9cf", checked := Try.checked }
namespace Rows
def none {H : Type} : Left H := { results := [], args := [] }

/-- 'twinspanlaw01.TlvOne': WHATEVER THE INPUT: true; the input reads as it did. -/
def tlvOneSpec : ChangeSpec := { name := "tlvOne", fn := fun _ => fun
  | [d1, d2, d3] => { results := [.lit (.bool true)], args := [d1, d2, d3] }
  | _ => none }
def tlvOneRow : OpenClaim := { program := "ytjanmonoigpmcaa", sum := "142ab78a80dfad66ce6da2bd0f6d6ca14479878318f990f96b9faf5b2b8cb9cf", func := "twinspan/twinspanlaw01.TlvOne", spec := "tlvOne", inPlace := ["internal/abi.NoEscape"], apart := false }
def TlvOneSaid : Prop := tlvOneRow.holds Try.pinned (OpenSpec.ofChange tlvOneSpec)

/-- ITS FALSE NEIGHBOUR: 'it returns false'. Refute it at one input. -/
def tlvOneWrong : ChangeSpec := { name := "tlvOne", fn := fun _ => fun
  | [d1, d2, d3] => { results := [.lit (.bool false)], args := [d1, d2, d3] }
  | _ => none }
def TlvOneWrongFalsely : Prop := tlvOneRow.holds Try.pinned (OpenSpec.ofChange tlvOneWrong)

/-- 'twinspanlaw01.TlvSizes': WHATEVER THE INPUT: true; the input reads as it did. -/
def tlvSizesSpec : ChangeSpec := { name := "tlvSizes", fn := fun _ => fun
  | [d1, d2] => { results := [.lit (.bool true)], args := [d1, d2] }
  | _ => none }
def tlvSizesRow : OpenClaim := { program := "ytjanmonoigpmcaa", sum := "142ab78a80dfad66ce6da2bd0f6d6ca14479878318f990f96b9faf5b2b8cb9cf", func := "twinspan/twinspanlaw01.TlvSizes", spec := "tlvSizes", inPlace := ["internal/abi.NoEscape"], apart := false }
def TlvSizesSaid : Prop := tlvSizesRow.holds Try.pinned (OpenSpec.ofChange tlvSizesSpec)

/-- ITS FALSE NEIGHBOUR: 'it returns false'. Refute it at one input. -/
def tlvSizesWrong : ChangeSpec := { name := "tlvSizes", fn := fun _ => fun
  | [d1, d2] => { results := [.lit (.bool false)], args := [d1, d2] }
  | _ => none }
def TlvSizesWrongFalsely : Prop := tlvSizesRow.holds Try.pinned (OpenSpec.ofChange tlvSizesWrong)

/-- 'twinspanlaw01.TlvWrites': WHATEVER THE INPUT: true; the input reads as it did. -/
def tlvWritesSpec : ChangeSpec := { name := "tlvWrites", fn := fun _ => fun
  | [d1, d2, d3] => { results := [.lit (.bool true)], args := [d1, d2, d3] }
  | _ => none }
def tlvWritesRow : OpenClaim := { program := "ytjanmonoigpmcaa", sum := "142ab78a80dfad66ce6da2bd0f6d6ca14479878318f990f96b9faf5b2b8cb9cf", func := "twinspan/twinspanlaw01.TlvWrites", spec := "tlvWrites", inPlace := ["internal/abi.NoEscape"], apart := false }
def TlvWritesSaid : Prop := tlvWritesRow.holds Try.pinned (OpenSpec.ofChange tlvWritesSpec)

/-- ITS FALSE NEIGHBOUR: 'it returns false'. Refute it at one input. -/
def tlvWritesWrong : ChangeSpec := { name := "tlvWrites", fn := fun _ => fun
  | [d1, d2, d3] => { results := [.lit (.bool false)], args := [d1, d2, d3] }
  | _ => none }
def TlvWritesWrongFalsely : Prop := tlvWritesRow.holds Try.pinned (OpenSpec.ofChange tlvWritesWrong)

/-- 'twinspanlaw01.TlvCuts': WHATEVER THE INPUT: true; the input reads as it did. -/
def tlvCutsSpec : ChangeSpec := { name := "tlvCuts", fn := fun _ => fun
  | [d1, d2, d3] => { results := [.lit (.bool true)], args := [d1, d2, d3] }
  | _ => none }
def tlvCutsRow : OpenClaim := { program := "ytjanmonoigpmcaa", sum := "142ab78a80dfad66ce6da2bd0f6d6ca14479878318f990f96b9faf5b2b8cb9cf", func := "twinspan/twinspanlaw01.TlvCuts", spec := "tlvCuts", unfollowed := true, recurses := true, apart := false }
def TlvCutsSaid : Prop := tlvCutsRow.holds Try.pinned (OpenSpec.ofChange tlvCutsSpec)

/-- ITS FALSE NEIGHBOUR: 'it returns false'. Refute it at one input. -/
def tlvCutsWrong : ChangeSpec := { name := "tlvCuts", fn := fun _ => fun
  | [d1, d2, d3] => { results := [.lit (.bool false)], args := [d1, d2, d3] }
  | _ => none }
def TlvCutsWrongFalsely : Prop := tlvCutsRow.holds Try.pinned (OpenSpec.ofChange tlvCutsWrong)

/-- 'twinspanlaw01.TlvNil': WHATEVER THE INPUT: true; the input reads as it did. -/
def tlvNilSpec : ChangeSpec := { name := "tlvNil", fn := fun _ => fun
  | [d1, d2] => { results := [.lit (.bool true)], args := [d1, d2] }
  | _ => none }
def tlvNilRow : OpenClaim := { program := "ytjanmonoigpmcaa", sum := "142ab78a80dfad66ce6da2bd0f6d6ca14479878318f990f96b9faf5b2b8cb9cf", func := "twinspan/twinspanlaw01.TlvNil", spec := "tlvNil", unfollowed := true, recurses := true, apart := false }
def TlvNilSaid : Prop := tlvNilRow.holds Try.pinned (OpenSpec.ofChange tlvNilSpec)

/-- ITS FALSE NEIGHBOUR: 'it returns false'. Refute it at one input. -/
def tlvNilWrong : ChangeSpec := { name := "tlvNil", fn := fun _ => fun
  | [d1, d2] => { results := [.lit (.bool false)], args := [d1, d2] }
  | _ => none }
def TlvNilWrongFalsely : Prop := tlvNilRow.holds Try.pinned (OpenSpec.ofChange tlvNilWrong)

/-- 'twinspanlaw16.KeysOne': WHATEVER THE INPUT: true; the input reads as it did. -/
def keysOneSpec : ChangeSpec := { name := "keysOne", fn := fun _ => fun
  | [d1, d2, d3] => { results := [.lit (.bool true)], args := [d1, d2, d3] }
  | _ => none }
def keysOneRow : OpenClaim := { program := "ytjanmonoigpmcaa", sum := "142ab78a80dfad66ce6da2bd0f6d6ca14479878318f990f96b9faf5b2b8cb9cf", func := "twinspan/twinspanlaw16.KeysOne", spec := "keysOne", unfollowed := true, recurses := true, apart := false }
def KeysOneSaid : Prop := keysOneRow.holds Try.pinned (OpenSpec.ofChange keysOneSpec)

/-- ITS FALSE NEIGHBOUR: 'it returns false'. Refute it at one input. -/
def keysOneWrong : ChangeSpec := { name := "keysOne", fn := fun _ => fun
  | [d1, d2, d3] => { results := [.lit (.bool false)], args := [d1, d2, d3] }
  | _ => none }
def KeysOneWrongFalsely : Prop := keysOneRow.holds Try.pinned (OpenSpec.ofChange keysOneWrong)

/-- 'twinspanlaw16.KeysUnder': WHATEVER THE INPUT: true; the input reads as it did. -/
def keysUnderSpec : ChangeSpec := { name := "keysUnder", fn := fun _ => fun
  | [d1, d2, d3] => { results := [.lit (.bool true)], args := [d1, d2, d3] }
  | _ => none }
def keysUnderRow : OpenClaim := { program := "ytjanmonoigpmcaa", sum := "142ab78a80dfad66ce6da2bd0f6d6ca14479878318f990f96b9faf5b2b8cb9cf", func := "twinspan/twinspanlaw16.KeysUnder", spec := "keysUnder", unfollowed := true, recurses := true, apart := false }
def KeysUnderSaid : Prop := keysUnderRow.holds Try.pinned (OpenSpec.ofChange keysUnderSpec)

/-- ITS FALSE NEIGHBOUR: 'it returns false'. Refute it at one input. -/
def keysUnderWrong : ChangeSpec := { name := "keysUnder", fn := fun _ => fun
  | [d1, d2, d3] => { results := [.lit (.bool false)], args := [d1, d2, d3] }
  | _ => none }
def KeysUnderWrongFalsely : Prop := keysUnderRow.holds Try.pinned (OpenSpec.ofChange keysUnderWrong)

/-- 'twinspanlaw01.TlvBack': WHATEVER THE INPUT: true; the input reads as it did. -/
def tlvBackSpec : ChangeSpec := { name := "tlvBack", fn := fun _ => fun
  | [d1, d2, d3] => { results := [.lit (.bool true)], args := [d1, d2, d3] }
  | _ => none }
def tlvBackRow : OpenClaim := { program := "ytjanmonoigpmcaa", sum := "142ab78a80dfad66ce6da2bd0f6d6ca14479878318f990f96b9faf5b2b8cb9cf", func := "twinspan/twinspanlaw01.TlvBack", spec := "tlvBack", inPlace := ["internal/abi.NoEscape"], unfollowed := true, recurses := true, apart := false }
def TlvBackSaid : Prop := tlvBackRow.holds Try.pinned (OpenSpec.ofChange tlvBackSpec)

/-- ITS FALSE NEIGHBOUR: 'it returns false'. Refute it at one input. -/
def tlvBackWrong : ChangeSpec := { name := "tlvBack", fn := fun _ => fun
  | [d1, d2, d3] => { results := [.lit (.bool false)], args := [d1, d2, d3] }
  | _ => none }
def TlvBackWrongFalsely : Prop := tlvBackRow.holds Try.pinned (OpenSpec.ofChange tlvBackWrong)

/-- 'twinspanlaw01.TlvNests': WHATEVER THE INPUT: true; the input reads as it did. -/
def tlvNestsSpec : ChangeSpec := { name := "tlvNests", fn := fun _ => fun
  | [d] => { results := [.lit (.bool true)], args := [d] }
  | _ => none }
def tlvNestsRow : OpenClaim := { program := "ytjanmonoigpmcaa", sum := "142ab78a80dfad66ce6da2bd0f6d6ca14479878318f990f96b9faf5b2b8cb9cf", func := "twinspan/twinspanlaw01.TlvNests", spec := "tlvNests", inPlace := ["internal/abi.NoEscape"], unfollowed := true, recurses := true, apart := false }
def TlvNestsSaid : Prop := tlvNestsRow.holds Try.pinned (OpenSpec.ofChange tlvNestsSpec)

/-- ITS FALSE NEIGHBOUR: 'it returns false'. Refute it at one input. -/
def tlvNestsWrong : ChangeSpec := { name := "tlvNests", fn := fun _ => fun
  | [d] => { results := [.lit (.bool false)], args := [d] }
  | _ => none }
def TlvNestsWrongFalsely : Prop := tlvNestsRow.holds Try.pinned (OpenSpec.ofChange tlvNestsWrong)

/-- 'twinspanlaw16.KeysBack': WHATEVER THE INPUT: true; the input reads as it did. -/
def keysBackSpec : ChangeSpec := { name := "keysBack", fn := fun _ => fun
  | [d1, d2] => { results := [.lit (.bool true)], args := [d1, d2] }
  | _ => none }
def keysBackRow : OpenClaim := { program := "ytjanmonoigpmcaa", sum := "142ab78a80dfad66ce6da2bd0f6d6ca14479878318f990f96b9faf5b2b8cb9cf", func := "twinspan/twinspanlaw16.KeysBack", spec := "keysBack", unfollowed := true, recurses := true, apart := false }
def KeysBackSaid : Prop := keysBackRow.holds Try.pinned (OpenSpec.ofChange keysBackSpec)

/-- ITS FALSE NEIGHBOUR: 'it returns false'. Refute it at one input. -/
def keysBackWrong : ChangeSpec := { name := "keysBack", fn := fun _ => fun
  | [d1, d2] => { results := [.lit (.bool false)], args := [d1, d2] }
  | _ => none }
def KeysBackWrongFalsely : Prop := keysBackRow.holds Try.pinned (OpenSpec.ofChange keysBackWrong)

/-- 'twinspanlaw16.KeysKinds': WHATEVER THE INPUT: true; the input reads as it did. -/
def keysKindsSpec : ChangeSpec := { name := "keysKinds", fn := fun _ => fun
  | [d1, d2] => { results := [.lit (.bool true)], args := [d1, d2] }
  | _ => none }
def keysKindsRow : OpenClaim := { program := "ytjanmonoigpmcaa", sum := "142ab78a80dfad66ce6da2bd0f6d6ca14479878318f990f96b9faf5b2b8cb9cf", func := "twinspan/twinspanlaw16.KeysKinds", spec := "keysKinds", unfollowed := true, recurses := true, apart := false }
def KeysKindsSaid : Prop := keysKindsRow.holds Try.pinned (OpenSpec.ofChange keysKindsSpec)

/-- ITS FALSE NEIGHBOUR: 'it returns false'. Refute it at one input. -/
def keysKindsWrong : ChangeSpec := { name := "keysKinds", fn := fun _ => fun
  | [d1, d2] => { results := [.lit (.bool false)], args := [d1, d2] }
  | _ => none }
def KeysKindsWrongFalsely : Prop := keysKindsRow.holds Try.pinned (OpenSpec.ofChange keysKindsWrong)

/-- 'twinspanlaw16.KeysTell': WHATEVER THE INPUT: true; the input reads as it did. -/
def keysTellSpec : ChangeSpec := { name := "keysTell", fn := fun _ => fun
  | [d1, d2, d3] => { results := [.lit (.bool true)], args := [d1, d2, d3] }
  | _ => none }
def keysTellRow : OpenClaim := { program := "ytjanmonoigpmcaa", sum := "142ab78a80dfad66ce6da2bd0f6d6ca14479878318f990f96b9faf5b2b8cb9cf", func := "twinspan/twinspanlaw16.KeysTell", spec := "keysTell", unfollowed := true, recurses := true, apart := false }
def KeysTellSaid : Prop := keysTellRow.holds Try.pinned (OpenSpec.ofChange keysTellSpec)

/-- ITS FALSE NEIGHBOUR: 'it returns false'. Refute it at one input. -/
def keysTellWrong : ChangeSpec := { name := "keysTell", fn := fun _ => fun
  | [d1, d2, d3] => { results := [.lit (.bool false)], args := [d1, d2, d3] }
  | _ => none }
def KeysTellWrongFalsely : Prop := keysTellRow.holds Try.pinned (OpenSpec.ofChange keysTellWrong)

/- THE SECOND FORM. 'bulk': how many values and letters a reading holds, each counted each time it is reached (what is shared counts as often as it is met; a slice's spare places count too). A statement '..UptoSaid' is the law's where the arguments, and the package variables that the reading takes, are together of bulk at most 1048576: NARROWER than '..Said'. Prove '..Said' where nothing that the law and all that it calls make is longer than what came in: it says more and counts as full. Else prove '..UptoSaid'. A law counts once. -/
mutual
def uptoBulk {H : Type} : DataW H → Nat
  | .lit (.string bytes) => bytes.length + 1
  | .lit _ => 1
  | .nil => 1
  | .ptr d => uptoBulk d + 1
  | .slice elems spare => uptoBulkAll elems + uptoBulkAll spare + 1
  | .agg parts => uptoBulkAll parts + 1
  | .iface _ d => uptoBulk d + 1
  | .map entries => uptoBulkEntries entries + 1
  | .held _ => 1
def uptoBulkAll {H : Type} : List (DataW H) → Nat
  | [] => 0
  | d :: r => uptoBulk d + uptoBulkAll r
def uptoBulkEntries {H : Type} : List (Lit × DataW H) → Nat
  | [] => 0
  | x :: r => uptoBulkEntry x + uptoBulkEntries r
def uptoBulkEntry {H : Type} : Lit × DataW H → Nat
  | (.string bytes, d) => bytes.length + uptoBulk d + 1
  | (_, d) => uptoBulk d + 1
 end
def uptoSmall : (H : Type) → List (DataW H) → Bool := fun _ ds => decide (uptoBulkAll ds ≤ 1048576)
def OpenSpec.upto (s : _root_.Go.ChangeSpec) : _root_.Go.OpenSpec := { _root_.Go.OpenSpec.ofChange s with cond := some uptoSmall }

/-- 'twinspanlaw01.TlvOne', WHERE WHAT IT READS IS OF BULK AT MOST 1048576: true; the input reads as it did. -/
def tlvOneUptoRow : OpenClaim := { program := "ytjanmonoigpmcaa", sum := "142ab78a80dfad66ce6da2bd0f6d6ca14479878318f990f96b9faf5b2b8cb9cf", func := "twinspan/twinspanlaw01.TlvOne", spec := "tlvOne", inPlace := ["internal/abi.NoEscape"], apart := false, narrowed := true }
def TlvOneUptoSaid : Prop := tlvOneUptoRow.holds Try.pinned (OpenSpec.upto tlvOneSpec)

/-- 'twinspanlaw01.TlvSizes', WHERE WHAT IT READS IS OF BULK AT MOST 1048576: true; the input reads as it did. -/
def tlvSizesUptoRow : OpenClaim := { program := "ytjanmonoigpmcaa", sum := "142ab78a80dfad66ce6da2bd0f6d6ca14479878318f990f96b9faf5b2b8cb9cf", func := "twinspan/twinspanlaw01.TlvSizes", spec := "tlvSizes", inPlace := ["internal/abi.NoEscape"], apart := false, narrowed := true }
def TlvSizesUptoSaid : Prop := tlvSizesUptoRow.holds Try.pinned (OpenSpec.upto tlvSizesSpec)

/-- 'twinspanlaw01.TlvWrites', WHERE WHAT IT READS IS OF BULK AT MOST 1048576: true; the input reads as it did. -/
def tlvWritesUptoRow : OpenClaim := { program := "ytjanmonoigpmcaa", sum := "142ab78a80dfad66ce6da2bd0f6d6ca14479878318f990f96b9faf5b2b8cb9cf", func := "twinspan/twinspanlaw01.TlvWrites", spec := "tlvWrites", inPlace := ["internal/abi.NoEscape"], apart := false, narrowed := true }
def TlvWritesUptoSaid : Prop := tlvWritesUptoRow.holds Try.pinned (OpenSpec.upto tlvWritesSpec)

/-- 'twinspanlaw01.TlvCuts', WHERE WHAT IT READS IS OF BULK AT MOST 1048576: true; the input reads as it did. -/
def tlvCutsUptoRow : OpenClaim := { program := "ytjanmonoigpmcaa", sum := "142ab78a80dfad66ce6da2bd0f6d6ca14479878318f990f96b9faf5b2b8cb9cf", func := "twinspan/twinspanlaw01.TlvCuts", spec := "tlvCuts", unfollowed := true, recurses := true, apart := false, narrowed := true }
def TlvCutsUptoSaid : Prop := tlvCutsUptoRow.holds Try.pinned (OpenSpec.upto tlvCutsSpec)

/-- 'twinspanlaw01.TlvNil', WHERE WHAT IT READS IS OF BULK AT MOST 1048576: true; the input reads as it did. -/
def tlvNilUptoRow : OpenClaim := { program := "ytjanmonoigpmcaa", sum := "142ab78a80dfad66ce6da2bd0f6d6ca14479878318f990f96b9faf5b2b8cb9cf", func := "twinspan/twinspanlaw01.TlvNil", spec := "tlvNil", unfollowed := true, recurses := true, apart := false, narrowed := true }
def TlvNilUptoSaid : Prop := tlvNilUptoRow.holds Try.pinned (OpenSpec.upto tlvNilSpec)

/-- 'twinspanlaw16.KeysOne', WHERE WHAT IT READS IS OF BULK AT MOST 1048576: true; the input reads as it did. -/
def keysOneUptoRow : OpenClaim := { program := "ytjanmonoigpmcaa", sum := "142ab78a80dfad66ce6da2bd0f6d6ca14479878318f990f96b9faf5b2b8cb9cf", func := "twinspan/twinspanlaw16.KeysOne", spec := "keysOne", unfollowed := true, recurses := true, apart := false, narrowed := true }
def KeysOneUptoSaid : Prop := keysOneUptoRow.holds Try.pinned (OpenSpec.upto keysOneSpec)

/-- 'twinspanlaw16.KeysUnder', WHERE WHAT IT READS IS OF BULK AT MOST 1048576: true; the input reads as it did. -/
def keysUnderUptoRow : OpenClaim := { program := "ytjanmonoigpmcaa", sum := "142ab78a80dfad66ce6da2bd0f6d6ca14479878318f990f96b9faf5b2b8cb9cf", func := "twinspan/twinspanlaw16.KeysUnder", spec := "keysUnder", unfollowed := true, recurses := true, apart := false, narrowed := true }
def KeysUnderUptoSaid : Prop := keysUnderUptoRow.holds Try.pinned (OpenSpec.upto keysUnderSpec)

/-- 'twinspanlaw01.TlvBack', WHERE WHAT IT READS IS OF BULK AT MOST 1048576: true; the input reads as it did. -/
def tlvBackUptoRow : OpenClaim := { program := "ytjanmonoigpmcaa", sum := "142ab78a80dfad66ce6da2bd0f6d6ca14479878318f990f96b9faf5b2b8cb9cf", func := "twinspan/twinspanlaw01.TlvBack", spec := "tlvBack", inPlace := ["internal/abi.NoEscape"], unfollowed := true, recurses := true, apart := false, narrowed := true }
def TlvBackUptoSaid : Prop := tlvBackUptoRow.holds Try.pinned (OpenSpec.upto tlvBackSpec)

/-- 'twinspanlaw01.TlvNests', WHERE WHAT IT READS IS OF BULK AT MOST 1048576: true; the input reads as it did. -/
def tlvNestsUptoRow : OpenClaim := { program := "ytjanmonoigpmcaa", sum := "142ab78a80dfad66ce6da2bd0f6d6ca14479878318f990f96b9faf5b2b8cb9cf", func := "twinspan/twinspanlaw01.TlvNests", spec := "tlvNests", inPlace := ["internal/abi.NoEscape"], unfollowed := true, recurses := true, apart := false, narrowed := true }
def TlvNestsUptoSaid : Prop := tlvNestsUptoRow.holds Try.pinned (OpenSpec.upto tlvNestsSpec)

/-- 'twinspanlaw16.KeysBack', WHERE WHAT IT READS IS OF BULK AT MOST 1048576: true; the input reads as it did. -/
def keysBackUptoRow : OpenClaim := { program := "ytjanmonoigpmcaa", sum := "142ab78a80dfad66ce6da2bd0f6d6ca14479878318f990f96b9faf5b2b8cb9cf", func := "twinspan/twinspanlaw16.KeysBack", spec := "keysBack", unfollowed := true, recurses := true, apart := false, narrowed := true }
def KeysBackUptoSaid : Prop := keysBackUptoRow.holds Try.pinned (OpenSpec.upto keysBackSpec)

/-- 'twinspanlaw16.KeysKinds', WHERE WHAT IT READS IS OF BULK AT MOST 1048576: true; the input reads as it did. -/
def keysKindsUptoRow : OpenClaim := { program := "ytjanmonoigpmcaa", sum := "142ab78a80dfad66ce6da2bd0f6d6ca14479878318f990f96b9faf5b2b8cb9cf", func := "twinspan/twinspanlaw16.KeysKinds", spec := "keysKinds", unfollowed := true, recurses := true, apart := false, narrowed := true }
def KeysKindsUptoSaid : Prop := keysKindsUptoRow.holds Try.pinned (OpenSpec.upto keysKindsSpec)

/-- 'twinspanlaw16.KeysTell', WHERE WHAT IT READS IS OF BULK AT MOST 1048576: true; the input reads as it did. -/
def keysTellUptoRow : OpenClaim := { program := "ytjanmonoigpmcaa", sum := "142ab78a80dfad66ce6da2bd0f6d6ca14479878318f990f96b9faf5b2b8cb9cf", func := "twinspan/twinspanlaw16.KeysTell", spec := "keysTell", unfollowed := true, recurses := true, apart := false, narrowed := true }
def KeysTellUptoSaid : Prop := keysTellUptoRow.holds Try.pinned (OpenSpec.upto keysTellSpec)

end Rows
end Go.Proofs.Ytjanmonoigpmcaa

/-
  No cell of these rows narrows 'for every input' (looked for: loops, veiled, ifaces, maps, wideKeys, modest, calm, conditions, laid).
  DERIVED. THE GIVEN ROWS OF THIS SEAT. 11 by the template 'for every input the law returns true; each argument reads behind the call as it read before'; 0 by the template 'total and deterministic' (their statements: YtlkgloakcpfnnaaTotals.lean).
  GIVEN WITH THE SEED: the statements are not yours to turn. If you find one false, say at which input.
  Laid BY PROGRAM, IN A SANDBOX (cutbox-rows.mjs): the forced cells as the released guide's own fill.sh prints them over the translation 82bf9650bfdcab09… (all of the seat's roots in one cut). By AI agents, Wed Nov 11 2026. No macro, syntax, notation, axiom, sorry.
-/
import Derived.Test.YtlkgloakcpfnnaaChecked
import GoSem.Claim
import GoSem.ClaimJoined
import GoSem.ClaimMapViews
import Derived.JoinedTies
import Derived.KernelRfl
namespace Go.Proofs.Ytlkgloakcpfnnaa
/- THE CELL 'sum', in the pinned program and in every row, IS THE sha256 OF THE DUMP (.gsa) THAT YtlkgloakcpfnnaaProg.lean LOADS. Nothing in Lean hashes anything: it is a label: what it is worth is what the hold of that sum in a sandbox is worth. -/
noncomputable def Try.pinned : Pinned := { name := "ytlkgloakcpfnnaa", sum := "82bf9650bfdcab09916612cc828d9aadbf82277dc38ef3a8959ad4a5fd2724dc", checked := Try.checked }
namespace Rows
def none {H : Type} : Left H := { results := [], args := [] }

/-- 'twinspanlaw05.CheckSums': WHATEVER THE INPUT: true; the input reads as it did. -/
def checkSumsSpec : ChangeSpec := { name := "checkSums", fn := fun _ => fun
  | [d1, d2] => { results := [.lit (.bool true)], args := [d1, d2] }
  | _ => none }
def checkSumsRow : OpenClaim := { program := "ytlkgloakcpfnnaa", sum := "82bf9650bfdcab09916612cc828d9aadbf82277dc38ef3a8959ad4a5fd2724dc", func := "twinspan/twinspanlaw05.CheckSums", spec := "checkSums", unfollowed := true, recurses := true, apart := false }
def CheckSumsSaid : Prop := checkSumsRow.holds Try.pinned (OpenSpec.ofChange checkSumsSpec)

/-- ITS FALSE NEIGHBOUR: 'it returns false'. Refute it at one input. -/
def checkSumsWrong : ChangeSpec := { name := "checkSums", fn := fun _ => fun
  | [d1, d2] => { results := [.lit (.bool false)], args := [d1, d2] }
  | _ => none }
def CheckSumsWrongFalsely : Prop := checkSumsRow.holds Try.pinned (OpenSpec.ofChange checkSumsWrong)

/-- 'twinspanlaw15.LinkPair': WHATEVER THE INPUT: true; the input reads as it did. -/
def linkPairSpec : ChangeSpec := { name := "linkPair", fn := fun _ => fun
  | [d1, d2, d3] => { results := [.lit (.bool true)], args := [d1, d2, d3] }
  | _ => none }
def linkPairRow : OpenClaim := { program := "ytlkgloakcpfnnaa", sum := "82bf9650bfdcab09916612cc828d9aadbf82277dc38ef3a8959ad4a5fd2724dc", func := "twinspan/twinspanlaw15.LinkPair", spec := "linkPair", unfollowed := true, recurses := true, apart := false }
def LinkPairSaid : Prop := linkPairRow.holds Try.pinned (OpenSpec.ofChange linkPairSpec)

/-- ITS FALSE NEIGHBOUR: 'it returns false'. Refute it at one input. -/
def linkPairWrong : ChangeSpec := { name := "linkPair", fn := fun _ => fun
  | [d1, d2, d3] => { results := [.lit (.bool false)], args := [d1, d2, d3] }
  | _ => none }
def LinkPairWrongFalsely : Prop := linkPairRow.holds Try.pinned (OpenSpec.ofChange linkPairWrong)

/-- 'twinspanlaw15.LinkHands': WHATEVER THE INPUT: true; the input reads as it did. -/
def linkHandsSpec : ChangeSpec := { name := "linkHands", fn := fun _ => fun
  | [d1, d2, d3] => { results := [.lit (.bool true)], args := [d1, d2, d3] }
  | _ => none }
def linkHandsRow : OpenClaim := { program := "ytlkgloakcpfnnaa", sum := "82bf9650bfdcab09916612cc828d9aadbf82277dc38ef3a8959ad4a5fd2724dc", func := "twinspan/twinspanlaw15.LinkHands", spec := "linkHands", unfollowed := true, recurses := true, apart := false }
def LinkHandsSaid : Prop := linkHandsRow.holds Try.pinned (OpenSpec.ofChange linkHandsSpec)

/-- ITS FALSE NEIGHBOUR: 'it returns false'. Refute it at one input. -/
def linkHandsWrong : ChangeSpec := { name := "linkHands", fn := fun _ => fun
  | [d1, d2, d3] => { results := [.lit (.bool false)], args := [d1, d2, d3] }
  | _ => none }
def LinkHandsWrongFalsely : Prop := linkHandsRow.holds Try.pinned (OpenSpec.ofChange linkHandsWrong)

/-- 'twinspanlaw15.LinkOpen': WHATEVER THE INPUT: true; the input reads as it did. -/
def linkOpenSpec : ChangeSpec := { name := "linkOpen", fn := fun _ => fun
  | [d] => { results := [.lit (.bool true)], args := [d] }
  | _ => none }
def linkOpenRow : OpenClaim := { program := "ytlkgloakcpfnnaa", sum := "82bf9650bfdcab09916612cc828d9aadbf82277dc38ef3a8959ad4a5fd2724dc", func := "twinspan/twinspanlaw15.LinkOpen", spec := "linkOpen", unfollowed := true, recurses := true, apart := false }
def LinkOpenSaid : Prop := linkOpenRow.holds Try.pinned (OpenSpec.ofChange linkOpenSpec)

/-- ITS FALSE NEIGHBOUR: 'it returns false'. Refute it at one input. -/
def linkOpenWrong : ChangeSpec := { name := "linkOpen", fn := fun _ => fun
  | [d] => { results := [.lit (.bool false)], args := [d] }
  | _ => none }
def LinkOpenWrongFalsely : Prop := linkOpenRow.holds Try.pinned (OpenSpec.ofChange linkOpenWrong)

/-- 'twinspanlaw15.LinkEnds': WHATEVER THE INPUT: true; the input reads as it did. -/
def linkEndsSpec : ChangeSpec := { name := "linkEnds", fn := fun _ => fun
  | [d1, d2, d3] => { results := [.lit (.bool true)], args := [d1, d2, d3] }
  | _ => none }
def linkEndsRow : OpenClaim := { program := "ytlkgloakcpfnnaa", sum := "82bf9650bfdcab09916612cc828d9aadbf82277dc38ef3a8959ad4a5fd2724dc", func := "twinspan/twinspanlaw15.LinkEnds", spec := "linkEnds", unfollowed := true, recurses := true, apart := false }
def LinkEndsSaid : Prop := linkEndsRow.holds Try.pinned (OpenSpec.ofChange linkEndsSpec)

/-- ITS FALSE NEIGHBOUR: 'it returns false'. Refute it at one input. -/
def linkEndsWrong : ChangeSpec := { name := "linkEnds", fn := fun _ => fun
  | [d1, d2, d3] => { results := [.lit (.bool false)], args := [d1, d2, d3] }
  | _ => none }
def LinkEndsWrongFalsely : Prop := linkEndsRow.holds Try.pinned (OpenSpec.ofChange linkEndsWrong)

/-- 'twinspanlaw05.CheckChanged': WHATEVER THE INPUT: true; the input reads as it did. -/
def checkChangedSpec : ChangeSpec := { name := "checkChanged", fn := fun _ => fun
  | [d1, d2, d3] => { results := [.lit (.bool true)], args := [d1, d2, d3] }
  | _ => none }
def checkChangedRow : OpenClaim := { program := "ytlkgloakcpfnnaa", sum := "82bf9650bfdcab09916612cc828d9aadbf82277dc38ef3a8959ad4a5fd2724dc", func := "twinspan/twinspanlaw05.CheckChanged", spec := "checkChanged", unfollowed := true, recurses := true, apart := false }
def CheckChangedSaid : Prop := checkChangedRow.holds Try.pinned (OpenSpec.ofChange checkChangedSpec)

/-- ITS FALSE NEIGHBOUR: 'it returns false'. Refute it at one input. -/
def checkChangedWrong : ChangeSpec := { name := "checkChanged", fn := fun _ => fun
  | [d1, d2, d3] => { results := [.lit (.bool false)], args := [d1, d2, d3] }
  | _ => none }
def CheckChangedWrongFalsely : Prop := checkChangedRow.holds Try.pinned (OpenSpec.ofChange checkChangedWrong)

/-- 'twinspanlaw05.CheckLimit': WHATEVER THE INPUT: true; the input reads as it did. -/
def checkLimitSpec : ChangeSpec := { name := "checkLimit", fn := fun _ => fun
  | [d] => { results := [.lit (.bool true)], args := [d] }
  | _ => none }
def checkLimitRow : OpenClaim := { program := "ytlkgloakcpfnnaa", sum := "82bf9650bfdcab09916612cc828d9aadbf82277dc38ef3a8959ad4a5fd2724dc", func := "twinspan/twinspanlaw05.CheckLimit", spec := "checkLimit", unfollowed := true, recurses := true, apart := false }
def CheckLimitSaid : Prop := checkLimitRow.holds Try.pinned (OpenSpec.ofChange checkLimitSpec)

/-- ITS FALSE NEIGHBOUR: 'it returns false'. Refute it at one input. -/
def checkLimitWrong : ChangeSpec := { name := "checkLimit", fn := fun _ => fun
  | [d] => { results := [.lit (.bool false)], args := [d] }
  | _ => none }
def CheckLimitWrongFalsely : Prop := checkLimitRow.holds Try.pinned (OpenSpec.ofChange checkLimitWrong)

/-- 'twinspanlaw05.CheckTakes': WHATEVER THE INPUT: true; the input reads as it did. -/
def checkTakesSpec : ChangeSpec := { name := "checkTakes", fn := fun _ => fun
  | [d] => { results := [.lit (.bool true)], args := [d] }
  | _ => none }
def checkTakesRow : OpenClaim := { program := "ytlkgloakcpfnnaa", sum := "82bf9650bfdcab09916612cc828d9aadbf82277dc38ef3a8959ad4a5fd2724dc", func := "twinspan/twinspanlaw05.CheckTakes", spec := "checkTakes", unfollowed := true, recurses := true, apart := false }
def CheckTakesSaid : Prop := checkTakesRow.holds Try.pinned (OpenSpec.ofChange checkTakesSpec)

/-- ITS FALSE NEIGHBOUR: 'it returns false'. Refute it at one input. -/
def checkTakesWrong : ChangeSpec := { name := "checkTakes", fn := fun _ => fun
  | [d] => { results := [.lit (.bool false)], args := [d] }
  | _ => none }
def CheckTakesWrongFalsely : Prop := checkTakesRow.holds Try.pinned (OpenSpec.ofChange checkTakesWrong)

/-- 'twinspanlaw05.CheckBack': WHATEVER THE INPUT: true; the input reads as it did. -/
def checkBackSpec : ChangeSpec := { name := "checkBack", fn := fun _ => fun
  | [d1, d2] => { results := [.lit (.bool true)], args := [d1, d2] }
  | _ => none }
def checkBackRow : OpenClaim := { program := "ytlkgloakcpfnnaa", sum := "82bf9650bfdcab09916612cc828d9aadbf82277dc38ef3a8959ad4a5fd2724dc", func := "twinspan/twinspanlaw05.CheckBack", spec := "checkBack", unfollowed := true, recurses := true, apart := false }
def CheckBackSaid : Prop := checkBackRow.holds Try.pinned (OpenSpec.ofChange checkBackSpec)

/-- ITS FALSE NEIGHBOUR: 'it returns false'. Refute it at one input. -/
def checkBackWrong : ChangeSpec := { name := "checkBack", fn := fun _ => fun
  | [d1, d2] => { results := [.lit (.bool false)], args := [d1, d2] }
  | _ => none }
def CheckBackWrongFalsely : Prop := checkBackRow.holds Try.pinned (OpenSpec.ofChange checkBackWrong)

/-- 'twinspanlaw05.CheckTwo': WHATEVER THE INPUT: true; the input reads as it did. -/
def checkTwoSpec : ChangeSpec := { name := "checkTwo", fn := fun _ => fun
  | [d1, d2, d3] => { results := [.lit (.bool true)], args := [d1, d2, d3] }
  | _ => none }
def checkTwoRow : OpenClaim := { program := "ytlkgloakcpfnnaa", sum := "82bf9650bfdcab09916612cc828d9aadbf82277dc38ef3a8959ad4a5fd2724dc", func := "twinspan/twinspanlaw05.CheckTwo", spec := "checkTwo", unfollowed := true, recurses := true, apart := false }
def CheckTwoSaid : Prop := checkTwoRow.holds Try.pinned (OpenSpec.ofChange checkTwoSpec)

/-- ITS FALSE NEIGHBOUR: 'it returns false'. Refute it at one input. -/
def checkTwoWrong : ChangeSpec := { name := "checkTwo", fn := fun _ => fun
  | [d1, d2, d3] => { results := [.lit (.bool false)], args := [d1, d2, d3] }
  | _ => none }
def CheckTwoWrongFalsely : Prop := checkTwoRow.holds Try.pinned (OpenSpec.ofChange checkTwoWrong)

/-- 'twinspanlaw15.LinkBytes': WHATEVER THE INPUT: true; the input reads as it did. -/
def linkBytesSpec : ChangeSpec := { name := "linkBytes", fn := fun _ => fun
  | [d1, d2] => { results := [.lit (.bool true)], args := [d1, d2] }
  | _ => none }
def linkBytesRow : OpenClaim := { program := "ytlkgloakcpfnnaa", sum := "82bf9650bfdcab09916612cc828d9aadbf82277dc38ef3a8959ad4a5fd2724dc", func := "twinspan/twinspanlaw15.LinkBytes", spec := "linkBytes", unfollowed := true, recurses := true, apart := false }
def LinkBytesSaid : Prop := linkBytesRow.holds Try.pinned (OpenSpec.ofChange linkBytesSpec)

/-- ITS FALSE NEIGHBOUR: 'it returns false'. Refute it at one input. -/
def linkBytesWrong : ChangeSpec := { name := "linkBytes", fn := fun _ => fun
  | [d1, d2] => { results := [.lit (.bool false)], args := [d1, d2] }
  | _ => none }
def LinkBytesWrongFalsely : Prop := linkBytesRow.holds Try.pinned (OpenSpec.ofChange linkBytesWrong)

/- THE SECOND FORM. 'bulk': how many values and letters a reading holds, each counted each time it is reached (what is shared counts as often as it is met; a slice's spare places count too). A statement '..UptoSaid' is the law's where the arguments, and the package variables that the reading takes, are together of bulk at most 1048576: NARROWER than '..Said'. Prove '..Said' where nothing that the law and all that it calls make is longer than what came in: it says more and counts as full. Else prove '..UptoSaid'. A law counts once. -/
mutual
def uptoBulk {H : Type} : DataW H → Nat
  | .lit (.string bytes) => bytes.length + 1
  | .lit _ => 1
  | .nil => 1
  | .ptr d => uptoBulk d + 1
  | .slice elems spare => uptoBulkAll elems + uptoBulkAll spare + 1
  | .agg parts => uptoBulkAll parts + 1
  | .iface _ d => uptoBulk d + 1
  | .map entries => uptoBulkEntries entries + 1
  | .held _ => 1
def uptoBulkAll {H : Type} : List (DataW H) → Nat
  | [] => 0
  | d :: r => uptoBulk d + uptoBulkAll r
def uptoBulkEntries {H : Type} : List (Lit × DataW H) → Nat
  | [] => 0
  | x :: r => uptoBulkEntry x + uptoBulkEntries r
def uptoBulkEntry {H : Type} : Lit × DataW H → Nat
  | (.string bytes, d) => bytes.length + uptoBulk d + 1
  | (_, d) => uptoBulk d + 1
 end
def uptoSmall : (H : Type) → List (DataW H) → Bool := fun _ ds => decide (uptoBulkAll ds ≤ 1048576)
def OpenSpec.upto (s : _root_.Go.ChangeSpec) : _root_.Go.OpenSpec := { _root_.Go.OpenSpec.ofChange s with cond := some uptoSmall }

/-- 'twinspanlaw05.CheckSums', WHERE WHAT IT READS IS OF BULK AT MOST 1048576: true; the input reads as it did. -/
def checkSumsUptoRow : OpenClaim := { program := "ytlkgloakcpfnnaa", sum := "82bf9650bfdcab09916612cc828d9aadbf82277dc38ef3a8959ad4a5fd2724dc", func := "twinspan/twinspanlaw05.CheckSums", spec := "checkSums", unfollowed := true, recurses := true, apart := false, narrowed := true }
def CheckSumsUptoSaid : Prop := checkSumsUptoRow.holds Try.pinned (OpenSpec.upto checkSumsSpec)

/-- 'twinspanlaw15.LinkPair', WHERE WHAT IT READS IS OF BULK AT MOST 1048576: true; the input reads as it did. -/
def linkPairUptoRow : OpenClaim := { program := "ytlkgloakcpfnnaa", sum := "82bf9650bfdcab09916612cc828d9aadbf82277dc38ef3a8959ad4a5fd2724dc", func := "twinspan/twinspanlaw15.LinkPair", spec := "linkPair", unfollowed := true, recurses := true, apart := false, narrowed := true }
def LinkPairUptoSaid : Prop := linkPairUptoRow.holds Try.pinned (OpenSpec.upto linkPairSpec)

/-- 'twinspanlaw15.LinkHands', WHERE WHAT IT READS IS OF BULK AT MOST 1048576: true; the input reads as it did. -/
def linkHandsUptoRow : OpenClaim := { program := "ytlkgloakcpfnnaa", sum := "82bf9650bfdcab09916612cc828d9aadbf82277dc38ef3a8959ad4a5fd2724dc", func := "twinspan/twinspanlaw15.LinkHands", spec := "linkHands", unfollowed := true, recurses := true, apart := false, narrowed := true }
def LinkHandsUptoSaid : Prop := linkHandsUptoRow.holds Try.pinned (OpenSpec.upto linkHandsSpec)

/-- 'twinspanlaw15.LinkOpen', WHERE WHAT IT READS IS OF BULK AT MOST 1048576: true; the input reads as it did. -/
def linkOpenUptoRow : OpenClaim := { program := "ytlkgloakcpfnnaa", sum := "82bf9650bfdcab09916612cc828d9aadbf82277dc38ef3a8959ad4a5fd2724dc", func := "twinspan/twinspanlaw15.LinkOpen", spec := "linkOpen", unfollowed := true, recurses := true, apart := false, narrowed := true }
def LinkOpenUptoSaid : Prop := linkOpenUptoRow.holds Try.pinned (OpenSpec.upto linkOpenSpec)

/-- 'twinspanlaw15.LinkEnds', WHERE WHAT IT READS IS OF BULK AT MOST 1048576: true; the input reads as it did. -/
def linkEndsUptoRow : OpenClaim := { program := "ytlkgloakcpfnnaa", sum := "82bf9650bfdcab09916612cc828d9aadbf82277dc38ef3a8959ad4a5fd2724dc", func := "twinspan/twinspanlaw15.LinkEnds", spec := "linkEnds", unfollowed := true, recurses := true, apart := false, narrowed := true }
def LinkEndsUptoSaid : Prop := linkEndsUptoRow.holds Try.pinned (OpenSpec.upto linkEndsSpec)

/-- 'twinspanlaw05.CheckChanged', WHERE WHAT IT READS IS OF BULK AT MOST 1048576: true; the input reads as it did. -/
def checkChangedUptoRow : OpenClaim := { program := "ytlkgloakcpfnnaa", sum := "82bf9650bfdcab09916612cc828d9aadbf82277dc38ef3a8959ad4a5fd2724dc", func := "twinspan/twinspanlaw05.CheckChanged", spec := "checkChanged", unfollowed := true, recurses := true, apart := false, narrowed := true }
def CheckChangedUptoSaid : Prop := checkChangedUptoRow.holds Try.pinned (OpenSpec.upto checkChangedSpec)

/-- 'twinspanlaw05.CheckLimit', WHERE WHAT IT READS IS OF BULK AT MOST 1048576: true; the input reads as it did. -/
def checkLimitUptoRow : OpenClaim := { program := "ytlkgloakcpfnnaa", sum := "82bf9650bfdcab09916612cc828d9aadbf82277dc38ef3a8959ad4a5fd2724dc", func := "twinspan/twinspanlaw05.CheckLimit", spec := "checkLimit", unfollowed := true, recurses := true, apart := false, narrowed := true }
def CheckLimitUptoSaid : Prop := checkLimitUptoRow.holds Try.pinned (OpenSpec.upto checkLimitSpec)

/-- 'twinspanlaw05.CheckTakes', WHERE WHAT IT READS IS OF BULK AT MOST 1048576: true; the input reads as it did. -/
def checkTakesUptoRow : OpenClaim := { program := "ytlkgloakcpfnnaa", sum := "82bf9650bfdcab09916612cc828d9aadbf82277dc38ef3a8959ad4a5fd2724dc", func := "twinspan/twinspanlaw05.CheckTakes", spec := "checkTakes", unfollowed := true, recurses := true, apart := false, narrowed := true }
def CheckTakesUptoSaid : Prop := checkTakesUptoRow.holds Try.pinned (OpenSpec.upto checkTakesSpec)

/-- 'twinspanlaw05.CheckBack', WHERE WHAT IT READS IS OF BULK AT MOST 1048576: true; the input reads as it did. -/
def checkBackUptoRow : OpenClaim := { program := "ytlkgloakcpfnnaa", sum := "82bf9650bfdcab09916612cc828d9aadbf82277dc38ef3a8959ad4a5fd2724dc", func := "twinspan/twinspanlaw05.CheckBack", spec := "checkBack", unfollowed := true, recurses := true, apart := false, narrowed := true }
def CheckBackUptoSaid : Prop := checkBackUptoRow.holds Try.pinned (OpenSpec.upto checkBackSpec)

/-- 'twinspanlaw05.CheckTwo', WHERE WHAT IT READS IS OF BULK AT MOST 1048576: true; the input reads as it did. -/
def checkTwoUptoRow : OpenClaim := { program := "ytlkgloakcpfnnaa", sum := "82bf9650bfdcab09916612cc828d9aadbf82277dc38ef3a8959ad4a5fd2724dc", func := "twinspan/twinspanlaw05.CheckTwo", spec := "checkTwo", unfollowed := true, recurses := true, apart := false, narrowed := true }
def CheckTwoUptoSaid : Prop := checkTwoUptoRow.holds Try.pinned (OpenSpec.upto checkTwoSpec)

/-- 'twinspanlaw15.LinkBytes', WHERE WHAT IT READS IS OF BULK AT MOST 1048576: true; the input reads as it did. -/
def linkBytesUptoRow : OpenClaim := { program := "ytlkgloakcpfnnaa", sum := "82bf9650bfdcab09916612cc828d9aadbf82277dc38ef3a8959ad4a5fd2724dc", func := "twinspan/twinspanlaw15.LinkBytes", spec := "linkBytes", unfollowed := true, recurses := true, apart := false, narrowed := true }
def LinkBytesUptoSaid : Prop := linkBytesUptoRow.holds Try.pinned (OpenSpec.upto linkBytesSpec)

end Rows
end Go.Proofs.Ytlkgloakcpfnnaa

/-
  How an argument that came in is spelled for the walks. No conditions beside those in each theorem.
-/
import Derived.Test.YtlkgloakcpfnnaaPlainA
import Derived.ProofKit
namespace Go.Proofs.Ytlkgloakcpfnnaa
open Go.RowKit
theorem str_data (a : ByteArray) : str a.data.toList = .string a := by simp
end Go.Proofs.Ytlkgloakcpfnnaa

/-
  How an argument that came in is spelled for the walks: strings, arrays and structs by value. No conditions beside those in each theorem.
-/
import Derived.Test.YtiighehibiijcaaPlainA
import Derived.ProofKit
import Derived.OpenShut
import Derived.Lib.SmallJoins
namespace Go.Proofs.Ytiighehibiijcaa
open Go.RowKit Go.WideShapes Go.Joins Go.ChangeShapes Go.Deep

theorem str_data (a : ByteArray) : str a.data.toList = .string a := by simp

section
variable {H : Type} {enc : TypeId × Value → H} {P : Program} {w : World} {base : Nat} {spare : Nat → Bool} {held : Bool} {r : Reach} {b0 : Nat} {t : TypeId} {v : Value} {d : DataW H} {p : List MemPlace}
theorem okWide_array {n : Nat} {e : TypeId} (ht : P.underlying t = some (.array n e)) (h : Value.okWide P w r b0 t v) : ∃ cs, v = .agg cs ∧ cs.size = P.cellsOf t := by
  simp only [Value.okWide, ht] at h
  obtain ⟨cs, h1, h2, _⟩ := h
  exact ⟨cs, h1, h2⟩
theorem open_strs2 {e : TypeId} (ht : P.underlying t = some (.array 2 e)) (he : P.underlying e = some .string) (hc : P.cellsOf t = 2) (hce : P.cellsOf e = 1)
    (hv : Value.okWide P w r b0 t v) (h : DataW.Trod enc P w base spare held t v d p) : ∃ a b : ByteArray, v = .agg #[.string a, .string b] := by
  obtain ⟨cs, rfl, hsz⟩ := okWide_array ht hv
  obtain ⟨c0, c1, rfl⟩ := array2 (hsz.trans hc)
  obtain ⟨fuel, hf⟩ := h
  obtain ⟨xs, m, _, _, _, hl, hi⟩ := DataW.trod_array ht hf
  have h0 := hi 0 (by omega)
  have h1 := hi 1 (by omega)
  rw [hce] at h0 h1
  match xs, hl with
  | [y0, y1], _ =>
    obtain ⟨s0, e0, _⟩ := DataW.trod_string he (by simpa [Value.cells] using h0)
    obtain ⟨s1, e1, _⟩ := DataW.trod_string he (by simpa [Value.cells] using h1)
    simp at e0 e1
    exact ⟨s0, s1, by rw [e0, e1]⟩
/-- A struct of an int and three texts. -/
theorem open_end {f0 f1 f2 f3 : Field} (hs : P.underlying t = some (.struct #[f0, f1, f2, f3])) (hone : oneCellFields P #[f0, f1, f2, f3] = true) (hC : P.cellsOf t = 4)
    (h0 : P.underlying f0.type = some (.int .i64)) (h1 : P.underlying f1.type = some .string) (h2 : P.underlying f2.type = some .string) (h3 : P.underlying f3.type = some .string)
    (hv : Value.okWide P w r b0 t v) (h : DataW.Trod enc P w base spare held t v d p) : ∃ (n : Int) (a b c : ByteArray), v = .agg #[.int .i64 n, .string a, .string b, .string c] ∧ (Lit.int .i64 n).wf = true := by
  obtain ⟨c0, c1, c2, c3, y0, y1, y2, y3, m, rfl, _, _, k0, k1, k2, k3⟩ := open_agg4 hs hone hC hv h
  obtain ⟨n, e0, _, hn⟩ := DataW.trod_int h0 k0
  obtain ⟨a, e1, _⟩ := DataW.trod_string h1 k1
  obtain ⟨b, e2, _⟩ := DataW.trod_string h2 k2
  obtain ⟨c, e3, _⟩ := DataW.trod_string h3 k3
  simp at e0 e1 e2 e3
  exact ⟨n, a, b, c, by rw [e0, e1, e2, e3], hn⟩
end
end Go.Proofs.Ytiighehibiijcaa

/-
  How an array of two ints that came in is spelled for the walks. No conditions beside those in each theorem.
-/
import Derived.Test.YtjanmonoigpmcaaOpens
namespace Go.Proofs.Ytjanmonoigpmcaa
open Go.RowKit Go.WideShapes Go.Joins Go.ChangeShapes Go.Deep

section
variable {H : Type} {enc : TypeId × Value → H} {P : Program} {w : World} {base : Nat} {spare : Nat → Bool} {held : Bool} {r : Reach} {b0 : Nat} {t : TypeId} {v : Value} {d : DataW H} {p : List MemPlace}
theorem open_ints2 {e : TypeId} (ht : P.underlying t = some (.array 2 e)) (he : P.underlying e = some (.int .i64)) (hc : P.cellsOf t = 2) (hce : P.cellsOf e = 1)
    (hv : Value.okWide P w r b0 t v) (h : DataW.Trod enc P w base spare held t v d p) : ∃ a b : Int, v = .agg #[.int .i64 a, .int .i64 b] ∧ (Lit.int .i64 a).wf = true ∧ (Lit.int .i64 b).wf = true := by
  obtain ⟨cs, rfl, hsz⟩ := okWide_array ht hv
  obtain ⟨c0, c1, rfl⟩ := array2 (hsz.trans hc)
  obtain ⟨fuel, hf⟩ := h
  obtain ⟨xs, m, _, _, _, hl, hi⟩ := DataW.trod_array ht hf
  have h0 := hi 0 (by omega)
  have h1 := hi 1 (by omega)
  rw [hce] at h0 h1
  match xs, hl with
  | [y0, y1], _ =>
    obtain ⟨s0, e0, _, k0⟩ := DataW.trod_int he (by simpa [Value.cells] using h0)
    obtain ⟨s1, e1, _, k1⟩ := DataW.trod_int he (by simpa [Value.cells] using h1)
    simp at e0 e1
    exact ⟨s0, s1, by rw [e0, e1], k0, k1⟩
end
end Go.Proofs.Ytjanmonoigpmcaa

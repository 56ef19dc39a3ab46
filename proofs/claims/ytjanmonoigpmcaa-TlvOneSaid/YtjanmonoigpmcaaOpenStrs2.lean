/-
  How an array of two slices of strings that came in is spelled for the walks. No conditions beside those in each theorem.
-/
import Derived.Test.YtjanmonoigpmcaaOpenStrs
namespace Go.Proofs.Ytjanmonoigpmcaa
open Go.RowKit Go.WideShapes Go.ChangeShapes Go.Joins Go.Deep

section
variable {H : Type} {enc : TypeId × Value → H} {P : Program} {w : World} {base : Nat} {spare : Nat → Bool} {held : Bool} {r : Reach} {b0 : Nat} {t : TypeId} {v : Value} {d : DataW H} {p : List MemPlace}
theorem reads_of {e : TypeId} (ht : P.underlying t = some (.slice e)) (he : P.underlying e = some .string) (hc : P.cellsOf e = 1) {fuel : Nat} {cs : List Value} {x : DataW H × List MemPlace}
    (hf : DataW.trod enc P w base spare held fuel t cs = some x) : ∃ v L, cs = [v] ∧ ReadS w v L := by
  rcases open_strings ht he hc hf with ⟨hcs, _⟩ | ⟨a', len', cap', ss, hcs, _, hl, hm, hz, _, hcell, _⟩
  · exact ⟨_, [], hcs, _, _, rfl, by simp, by simp⟩
  · refine ⟨_, (ss.take len').map fun s => s.data.toList, hcs, ?_⟩
    have hlen : len' ≤ ss.length := by rw [hz]; split <;> omega
    have hll : ((ss.take len').map fun s => s.data.toList).length = len' := by simp; omega
    obtain ⟨b, o, spot⟩ := a'
    refine ⟨_, cap', by rw [hll], by rw [hll]; omega, fun h0 => ?_⟩
    rw [hll] at h0
    have hspot : spot = none := by simpa [Addr.add] using World.cell?_spot (hcell 0 (by omega))
    subst hspot
    refine ⟨b, o, rfl, ?_, ?_⟩
    · have h1 := hcell 0 (by omega)
      rw [add_plain] at h1
      exact World.block_lt_of_cell? w _ h1
    · intro i hi
      rw [hll] at hi
      have h1 := hcell i (by omega)
      rw [add_plain] at h1
      rw [h1]
      simp [show i < ss.length by omega]
theorem open_strls2 {s e : TypeId} (ha : P.underlying t = some (.array 2 s)) (ht : P.underlying s = some (.slice e)) (he : P.underlying e = some .string) (hc : P.cellsOf t = 2) (hcs : P.cellsOf s = 1) (hce : P.cellsOf e = 1)
    (hv : Value.okWide P w r b0 t v) (h : DataW.Trod enc P w base spare held t v d p) : ∃ v0 v1 L0 L1, v = .agg #[v0, v1] ∧ ReadS w v0 L0 ∧ ReadS w v1 L1 := by
  obtain ⟨cs, rfl, hsz⟩ := okWide_array ha hv
  obtain ⟨c0, c1, rfl⟩ := array2 (hsz.trans hc)
  obtain ⟨fuel, hf⟩ := h
  obtain ⟨xs, m, _, _, _, hl, hi⟩ := DataW.trod_array ha hf
  have h0 := hi 0 (by omega)
  have h1 := hi 1 (by omega)
  rw [hcs] at h0 h1
  match xs, hl with
  | [y0, y1], _ =>
    obtain ⟨v0, L0, e0, k0⟩ := reads_of ht he hce (show DataW.trod enc P w base spare held m s [c0] = some y0 by simpa [Value.cells] using h0)
    obtain ⟨v1, L1, e1, k1⟩ := reads_of ht he hce (show DataW.trod enc P w base spare held m s [c1] = some y1 by simpa [Value.cells] using h1)
    simp only [List.cons.injEq, and_true] at e0 e1
    subst e0 e1
    exact ⟨_, _, L0, L1, rfl, k0, k1⟩
end
end Go.Proofs.Ytjanmonoigpmcaa

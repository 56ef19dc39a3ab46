/-
  How a slice of strings that came in is spelled for the walks. No conditions beside those in each theorem.
-/
import Derived.Test.YtiighehibiijcaaOpens
import Derived.SliceStrings
import Derived.Lib.SmallJoins
namespace Go.Proofs.Ytiighehibiijcaa
open Go.RowKit Go.WideShapes Go.ChangeShapes Go.Joins Go.Deep

/-- v is a row of the texts L, as w has it. -/
def ReadS (w : World) (v : Value) (L : List (List UInt8)) : Prop :=
  ∃ p c, v = .slice p L.length c ∧ L.length ≤ maxLen ∧ (0 < L.length → ∃ b o, p = some ⟨b, o, none⟩ ∧ b < w.heap.size ∧ ∀ i (h : i < L.length), w.cell? ⟨b, o + i, none⟩ = some (str L[i]))

section
variable {H : Type} {enc : TypeId × Value → H} {P : Program} {w : World} {base : Nat} {spare : Nat → Bool} {held : Bool} {r : Reach} {b0 : Nat} {t : TypeId} {v : Value} {d : DataW H} {p : List MemPlace}
theorem open_strl {e : TypeId} (ht : P.underlying t = some (.slice e)) (he : P.underlying e = some .string) (hc : P.cellsOf e = 1)
    (hv : Value.okWide P w r b0 t v) (h : DataW.Trod enc P w base spare held t v d p) : ∃ L, ReadS w v L := by
  obtain ⟨a, len, cap, rfl⟩ := okWide_slice ht hv
  obtain ⟨fuel, hf⟩ := h
  rcases open_strings ht he hc hf with ⟨hcs, _⟩ | ⟨a', len', cap', ss, hcs, _, hl, hm, hz, _, hcell, _⟩
  · simp [Value.cells] at hcs
    obtain ⟨rfl, rfl, rfl⟩ := hcs
    exact ⟨[], _, _, rfl, by simp, by simp⟩
  · simp [Value.cells] at hcs
    obtain ⟨rfl, rfl, rfl⟩ := hcs
    rcases Nat.eq_zero_or_pos len with h0 | h0
    · subst h0
      exact ⟨[], _, _, rfl, by simp, by simp⟩
    · have hlen : len ≤ ss.length := by rw [hz]; split <;> omega
      obtain ⟨b, o, spot⟩ := a'
      have hspot : spot = none := by simpa [Addr.add] using World.cell?_spot (hcell 0 (by omega))
      subst hspot
      have hll : ((ss.take len).map fun s => s.data.toList).length = len := by simp; omega
      refine ⟨(ss.take len).map fun s => s.data.toList, _, cap, by rw [hll], by rw [hll]; omega, fun _ => ⟨b, o, rfl, ?_, ?_⟩⟩
      · have h1 := hcell 0 (by omega)
        rw [add_plain] at h1
        exact World.block_lt_of_cell? w _ h1
      · intro i hi
        rw [hll] at hi
        have h1 := hcell i (by omega)
        rw [add_plain] at h1
        rw [h1]
        simp [show i < ss.length by omega]
/-- A struct of a byte, a number and a text. -/
theorem open_field {f0 f1 f2 : Field} (hs : P.underlying t = some (.struct #[f0, f1, f2])) (hone : oneCellFields P #[f0, f1, f2] = true) (hC : P.cellsOf t = 3)
    (h0 : P.underlying f0.type = some (.int .u8)) (h1 : P.underlying f1.type = some (.int .u64)) (h2 : P.underlying f2.type = some .string)
    (hv : Value.okWide P w r b0 t v) (h : DataW.Trod enc P w base spare held t v d p) : ∃ (c n : Int) (a : ByteArray), v = .agg #[.int .u8 c, .int .u64 n, .string a] ∧ (Lit.int .u8 c).wf = true ∧ (Lit.int .u64 n).wf = true := by
  obtain ⟨c0, c1, c2, y0, y1, y2, m, rfl, _, _, k0, k1, k2⟩ := open_agg3 hs hone hC hv h
  obtain ⟨c, e0, _, hc⟩ := DataW.trod_int h0 k0
  obtain ⟨n, e1, _, hn⟩ := DataW.trod_int h1 k1
  obtain ⟨a, e2, _⟩ := DataW.trod_string h2 k2
  simp at e0 e1 e2
  exact ⟨c, n, a, by rw [e0, e1, e2], hc, hn⟩
end
end Go.Proofs.Ytiighehibiijcaa

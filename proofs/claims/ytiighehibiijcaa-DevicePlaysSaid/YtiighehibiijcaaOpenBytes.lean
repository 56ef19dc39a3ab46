/-
  How rows of bytes and of Bools that came in are spelled for the walks. No conditions beside those in each theorem.
-/
import Derived.Test.YtiighehibiijcaaOpenRows
namespace Go.Proofs.Ytiighehibiijcaa
open Go.RowKit Go.WideShapes Go.ChangeShapes Go.Joins Go.Deep

/-- v is a row of n bytes. -/
def ReadB (w : World) (v : Value) (n : Nat) (F : Nat → UInt8) : Prop :=
  ∃ p c, v = .slice p n c ∧ n ≤ maxLen ∧ (0 < n → ∃ b o, p = some ⟨b, o, none⟩ ∧ b < w.heap.size ∧ ∀ i, i < n → w.cell? ⟨b, o + i, none⟩ = some (.int .u8 (F i).toNat))
/-- v is a row of Bools. -/
def ReadBl (w : World) (v : Value) (ks : List Bool) : Prop :=
  ks.length ≤ maxLen ∧ ∃ p c, v = .slice p ks.length c ∧ (0 < ks.length → ∃ b o, p = some ⟨b, o, none⟩ ∧ b < w.heap.size ∧ ∀ i (h : i < ks.length), w.cell? ⟨b, o + i, none⟩ = some (.bool ks[i]))
section
variable {H : Type} {enc : TypeId × Value → H} {P : Program} {w : World} {base : Nat} {spare : Nat → Bool} {held : Bool} {r : Reach} {b0 : Nat} {t : TypeId} {v : Value} {d : DataW H} {p : List MemPlace}
theorem open_bytes {e : TypeId} (ht : P.underlying t = some (.slice e)) (he : P.underlying e = some (.int .u8)) (hce : P.cellsOf e = 1)
    (hv : Value.okWide P w r b0 t v) (h : DataW.Trod enc P w base spare held t v d p) : ∃ n F, ReadB w v n F := by
  obtain ⟨n, m, R, ⟨q, c, rfl, hm, hR⟩, hy⟩ := open_rows ht (by omega) hv h
  rw [hce] at hR
  rcases Nat.eq_zero_or_pos n with h0 | h0
  · subst h0
    exact ⟨0, fun _ => 0, _, _, rfl, by simp, fun h => absurd h (by simp)⟩
  · obtain ⟨b, o, rfl, hb, hcell⟩ := hR h0
    obtain ⟨F, hF⟩ := choose_upto (α := UInt8) (n := n) (q := fun i x => R i = [.int .u8 x.toNat]) (fun i hi => by
      obtain ⟨y, hy⟩ := hy i hi
      obtain ⟨n0, e0, _, w0⟩ := DataW.trod_int he hy
      obtain ⟨a0, a1⟩ := bounds_u8 w0
      exact ⟨byt n0, by rw [e0, byt_toNat _ a0 (by omega)]⟩)
    refine ⟨n, F, _, c, rfl, hm, fun _ => ⟨b, o, rfl, hb, fun i hi => ?_⟩⟩
    have h2 := (hcell i hi).2 0 (by omega)
    rw [hF i hi, Nat.mul_one, Nat.add_zero] at h2
    exact h2
theorem open_bools_cells {e : TypeId} {fuel : Nat} {x : DataW H × List MemPlace} (ht : P.underlying t = some (.slice e)) (he : P.underlying e = some .bool) (hce : P.cellsOf e = 1)
    (hf : DataW.trod enc P w base spare held fuel t [v] = some x) : ∃ ks, ReadBl w v ks := by
  obtain ⟨n, m, R, ⟨q, c, rfl, hm, hR⟩, hy⟩ := open_rows_cells ht (by omega) hf
  rw [hce] at hR
  rcases Nat.eq_zero_or_pos n with h0 | h0
  · subst h0
    exact ⟨[], by simp, _, _, rfl, fun h => absurd h (by simp)⟩
  · obtain ⟨b, o, rfl, hb, hcell⟩ := hR h0
    obtain ⟨F, hF⟩ := choose_upto (α := Bool) (n := n) (q := fun i x => R i = [.bool x]) (fun i hi => by
      obtain ⟨y, hy⟩ := hy i hi
      obtain ⟨n0, e0, _⟩ := DataW.trod_bool he hy
      exact ⟨n0, e0⟩)
    have hlen : ((List.range n).map F).length = n := by simp
    refine ⟨(List.range n).map F, by rw [hlen]; exact hm, some ⟨b, o, none⟩, c, by rw [hlen], fun _ => ⟨b, o, rfl, hb, fun i hi => ?_⟩⟩
    rw [hlen] at hi
    have h2 := (hcell i hi).2 0 (by omega)
    rw [hF i hi, Nat.mul_one, Nat.add_zero] at h2
    simpa using h2
/-- A struct of a row of Bools and two ints. -/
theorem open_cut {e : TypeId} {f0 f1 f2 : Field} (hs : P.underlying t = some (.struct #[f0, f1, f2])) (hone : oneCellFields P #[f0, f1, f2] = true) (hC : P.cellsOf t = 3)
    (h0 : P.underlying f0.type = some (.slice e)) (he : P.underlying e = some .bool) (hce : P.cellsOf e = 1) (h1 : P.underlying f1.type = some (.int .i64)) (h2 : P.underlying f2.type = some (.int .i64))
    (hv : Value.okWide P w r b0 t v) (h : DataW.Trod enc P w base spare held t v d p) : ∃ (kv : Value) (ks : List Bool) (a b : Int), v = .agg #[kv, .int .i64 a, .int .i64 b] ∧ ReadBl w kv ks := by
  obtain ⟨c0, c1, c2, y0, y1, y2, m, rfl, _, _, k0, k1, k2⟩ := open_agg3 hs hone hC hv h
  obtain ⟨ks, hks⟩ := open_bools_cells h0 he hce k0
  obtain ⟨a, e1, _⟩ := DataW.trod_int h1 k1
  obtain ⟨b, e2, _⟩ := DataW.trod_int h2 k2
  simp at e1 e2
  exact ⟨c0, ks, a, b, by rw [e1, e2], hks⟩
end
end Go.Proofs.Ytiighehibiijcaa

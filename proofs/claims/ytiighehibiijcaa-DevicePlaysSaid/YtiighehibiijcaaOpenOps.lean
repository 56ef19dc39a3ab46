/-
  How the calls of DevicePlays that came in are spelled for the walk. No conditions beside those in each theorem.
-/
import Derived.Test.YtiighehibiijcaaOpenBytes
namespace Go.Proofs.Ytiighehibiijcaa
open Go.RowKit Go.WideShapes Go.ChangeShapes Go.Joins Go.Deep

/-- A call. -/
structure Op6 where
  k : Int
  at_ : Int
  torn : Int
  cut : Int
  byte : UInt8
  short : Bool
  kv : Value
  ks : List Bool
instance : Inhabited Op6 := ⟨⟨0, 0, 0, 0, 0, false, undef, []⟩⟩
/-- The cells of one. -/
def op6C (x : Op6) : List Value := [.int .i64 x.k, .int .i64 x.at_, .int .i64 x.torn, .int .i64 x.cut, .int .u8 x.byte.toNat, .bool x.short, x.kv]
/-- v is a row of n calls. -/
def ReadOps (w : World) (v : Value) (n : Nat) (F : Nat → Op6) : Prop :=
  ∃ p c, v = .slice p n c ∧ n ≤ maxLen ∧ (0 < n → ∃ b o, p = some ⟨b, o, none⟩ ∧ b < w.heap.size ∧ ∀ i, i < n → (∀ j, j < 7 → w.cell? ⟨b, o + i * 7 + j, none⟩ = (op6C (F i))[j]?) ∧ ReadBl w (F i).kv (F i).ks ∧ (Lit.int .i64 (F i).at_).wf = true)
section
variable {H : Type} {enc : TypeId × Value → H} {P : Program} {w : World} {base : Nat} {spare : Nat → Bool} {held : Bool} {r : Reach} {b0 : Nat} {t : TypeId} {v : Value} {d : DataW H} {p : List MemPlace}
theorem list7 {α : Type} {l : List α} (h : l.length = 7) : ∃ a b c d e f g, l = [a, b, c, d, e, f, g] := by
  match l, h with
  | [a, b, c, d, e, f, g], _ => exact ⟨a, b, c, d, e, f, g, rfl⟩
theorem open_ops {e te : TypeId} {f0 f1 f2 f3 f4 f5 f6 : Field} (ht : P.underlying t = some (.slice e)) (he : P.underlying e = some (.struct #[f0, f1, f2, f3, f4, f5, f6])) (hone : oneCellFields P #[f0, f1, f2, f3, f4, f5, f6] = true) (hC : P.cellsOf e = 7)
    (h0 : P.underlying f0.type = some (.int .i64)) (h1 : P.underlying f1.type = some (.int .i64)) (h2 : P.underlying f2.type = some (.int .i64)) (h3 : P.underlying f3.type = some (.int .i64)) (h4 : P.underlying f4.type = some (.int .u8)) (h5 : P.underlying f5.type = some .bool)
    (h6 : P.underlying f6.type = some (.slice te)) (h7 : P.underlying te = some .bool) (h8 : P.cellsOf te = 1)
    (hv : Value.okWide P w r b0 t v) (h : DataW.Trod enc P w base spare held t v d p) : ∃ n F, ReadOps w v n F := by
  obtain ⟨n, m, R, ⟨q, c, rfl, hm, hR⟩, hy⟩ := open_rows ht (by omega) hv h
  rw [hC] at hR
  rcases Nat.eq_zero_or_pos n with hn | hn
  · subst hn
    exact ⟨0, fun _ => default, _, _, rfl, by simp, fun h => absurd h (by simp)⟩
  · obtain ⟨b, o, rfl, hb, hcell⟩ := hR hn
    obtain ⟨F, hF⟩ := choose_upto (α := Op6) (n := n) (q := fun i x => R i = op6C x ∧ ReadBl w x.kv x.ks ∧ (Lit.int .i64 x.at_).wf = true) (fun i hi => by
      obtain ⟨y, hy⟩ := hy i hi
      obtain ⟨hl, k, hf⟩ := one_field he hone (by rw [hC]; rfl) hy
      obtain ⟨a0, a1, a2, a3, a4, a5, a6, hRi⟩ := list7 hl
      rw [hRi] at hf
      have one : ∀ (j : Nat) (f : Field) (u : Value), #[f0, f1, f2, f3, f4, f5, f6][j]? = some f → [a0, a1, a2, a3, a4, a5, a6][j]? = some u → P.underlying f.type = some (.int .i64) → ∃ x : Int, u = .int .i64 x ∧ (Lit.int .i64 x).wf = true := by
        intro j f u hj hju hu
        obtain ⟨u', y, hu1, hu2⟩ := hf j f hj
        rw [hju] at hu1
        obtain rfl := Option.some.inj hu1
        obtain ⟨x, e0, _, hw⟩ := DataW.trod_int hu hu2
        simp at e0
        exact ⟨x, e0, hw⟩
      obtain ⟨x0, rfl, -⟩ := one 0 f0 a0 rfl rfl h0
      obtain ⟨x1, rfl, w1⟩ := one 1 f1 a1 rfl rfl h1
      obtain ⟨x2, rfl, -⟩ := one 2 f2 a2 rfl rfl h2
      obtain ⟨x3, rfl, -⟩ := one 3 f3 a3 rfl rfl h3
      obtain ⟨u4, y4, g4, k4⟩ := hf 4 f4 rfl
      obtain ⟨u5, y5, g5, k5⟩ := hf 5 f5 rfl
      obtain ⟨u6, y6, g6, k6⟩ := hf 6 f6 rfl
      obtain rfl : a4 = u4 := by simpa using g4
      obtain rfl : a5 = u5 := by simpa using g5
      obtain rfl : a6 = u6 := by simpa using g6
      obtain ⟨x4, e4, _, w4⟩ := DataW.trod_int h4 k4
      obtain ⟨x5, e5, _⟩ := DataW.trod_bool h5 k5
      simp at e4 e5
      subst e4
      subst e5
      obtain ⟨ks, hks⟩ := open_bools_cells h6 h7 h8 k6
      obtain ⟨b40, b41⟩ := bounds_u8 w4
      exact ⟨⟨x0, x1, x2, x3, byt x4, x5, a6, ks⟩, by rw [hRi]; unfold op6C; rw [byt_toNat _ b40 (by omega)], hks, w1⟩)
    exact ⟨n, F, _, c, rfl, hm, fun _ => ⟨b, o, rfl, hb, fun i hi => ⟨fun j hj => by rw [← (hF i hi).1]; exact (hcell i hi).2 j hj, (hF i hi).2⟩⟩⟩
end
end Go.Proofs.Ytiighehibiijcaa

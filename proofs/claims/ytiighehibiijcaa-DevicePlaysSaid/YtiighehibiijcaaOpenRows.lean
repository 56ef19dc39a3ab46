/-
  How a slice of arrays or structs that came in is spelled for the walks. No conditions beside those in each theorem.
-/
import Derived.Test.YtiighehibiijcaaOpenStrs
import Derived.Deep.Slices
namespace Go.Proofs.Ytiighehibiijcaa
open Go.RowKit Go.WideShapes Go.ChangeShapes Go.Joins Go.Deep

/-- v is a row of n elements of C cells each; R i: the cells of element i. -/
def ReadR (w : World) (v : Value) (C n : Nat) (R : Nat → List Value) : Prop :=
  ∃ p c, v = .slice p n c ∧ n ≤ maxLen ∧ (0 < n → ∃ b o, p = some ⟨b, o, none⟩ ∧ b < w.heap.size ∧ ∀ i, i < n → (R i).length = C ∧ ∀ j, j < C → w.cell? ⟨b, o + i * C + j, none⟩ = (R i)[j]?)

section
variable {H : Type} {enc : TypeId × Value → H} {P : Program} {w : World} {base : Nat} {spare : Nat → Bool} {held : Bool} {r : Reach} {b0 : Nat} {t : TypeId} {v : Value} {d : DataW H} {p : List MemPlace}
theorem choose_upto {α : Type} [Inhabited α] {n : Nat} {q : Nat → α → Prop} (h : ∀ i, i < n → ∃ x, q i x) : ∃ f : Nat → α, ∀ i, i < n → q i (f i) := by
  refine ⟨fun i => if hi : i < n then Classical.choose (h i hi) else default, fun i hi => ?_⟩
  simp only [hi, dif_pos]
  exact Classical.choose_spec (h i hi)
theorem open_rows_cells {e : TypeId} {fuel : Nat} {x : DataW H × List MemPlace} (ht : P.underlying t = some (.slice e)) (hC : 0 < P.cellsOf e) (hf : DataW.trod enc P w base spare held fuel t [v] = some x) :
    ∃ (n m : Nat) (R : Nat → List Value), ReadR w v (P.cellsOf e) n R ∧ ∀ i, i < n → ∃ y, DataW.trod enc P w base spare held m e (R i) = some y := by
  rcases open_slice ht hf with ⟨hcs, _⟩ | ⟨a', len', cap', m, n, D, Pl, hcs, _, hl, hm, hz, _, hx⟩
  · obtain rfl : v = .slice none 0 0 := by simpa using hcs
    exact ⟨0, 0, fun _ => [], ⟨_, _, rfl, by simp, fun h => absurd h (by simp)⟩, fun i hi => absurd hi (by simp)⟩
  · obtain rfl : v = .slice (some a') len' cap' := by simpa using hcs
    rcases Nat.eq_zero_or_pos len' with h0 | h0
    · subst h0
      exact ⟨0, 0, fun _ => [], ⟨_, _, rfl, by simp, fun h => absurd h (by simp)⟩, fun i hi => absurd hi (by simp)⟩
    · have hlen : len' ≤ m := by rw [hz]; split <;> omega
      obtain ⟨R, hR⟩ := choose_upto (α := List Value) (n := len') (q := fun i cs' => w.cells? base (a'.add (i * P.cellsOf e)) (P.cellsOf e) = some cs' ∧ DataW.trod enc P w base spare held n e cs' = some (D i, Pl i)) (fun i hi => hx i (by omega))
      have hcell : ∀ i, i < len' → (R i).length = P.cellsOf e ∧ ∀ j, j < P.cellsOf e → w.cell? ((a'.add (i * P.cellsOf e)).add j) = (R i)[j]? := fun i hi => (World.cells?_some (hR i hi).1).2
      obtain ⟨b, o, spot⟩ := a'
      obtain ⟨q1, q2⟩ := hcell 0 h0
      have hc0 := q2 0 hC
      rw [Nat.zero_mul] at hc0
      obtain ⟨u, hu⟩ : ∃ u, (R 0)[0]? = some u := ⟨_, List.getElem?_eq_getElem (by omega)⟩
      rw [hu] at hc0
      have hspot : spot = none := by simpa [Addr.add] using World.cell?_spot hc0
      subst hspot
      refine ⟨len', n, R, ⟨_, cap', rfl, by omega, fun _ => ⟨b, o, rfl, ?_, fun i hi => ⟨(hcell i hi).1, fun j hj => ?_⟩⟩⟩, fun i hi => ⟨_, (hR i hi).2⟩⟩
      · rw [add_plain, add_plain] at hc0
        exact World.block_lt_of_cell? w _ hc0
      · have := (hcell i hi).2 j hj
        rw [add_plain, add_plain] at this
        exact this
theorem open_rows {e : TypeId} (ht : P.underlying t = some (.slice e)) (hC : 0 < P.cellsOf e) (hv : Value.okWide P w r b0 t v) (h : DataW.Trod enc P w base spare held t v d p) :
    ∃ (n m : Nat) (R : Nat → List Value), ReadR w v (P.cellsOf e) n R ∧ ∀ i, i < n → ∃ y, DataW.trod enc P w base spare held m e (R i) = some y := by
  obtain ⟨a, len, cap, rfl⟩ := okWide_slice ht hv
  obtain ⟨fuel, hf⟩ := h
  exact open_rows_cells ht hC (by simpa [Value.cells] using hf)
/-- The cell of a field of one cell. -/
theorem one_field {fs : Array Field} {fuel : Nat} {cs : List Value} {x : DataW H × List MemPlace} (ht : P.underlying t = some (.struct fs)) (hone : oneCellFields P fs = true) (hC : P.cellsOf t = fs.size)
    (h : DataW.trod enc P w base spare held fuel t cs = some x) : cs.length = fs.size ∧ ∃ n, ∀ (i : Nat) (f : Field), fs[i]? = some f → ∃ u y, cs[i]? = some u ∧ DataW.trod enc P w base spare held n f.type [u] = some y := by
  obtain ⟨xs, n, _, rfl, hl, hlen, hf⟩ := DataW.trod_struct ht h
  refine ⟨by rw [hl, hC], n, fun i f hi => ?_⟩
  have hif := hf i f hi
  obtain ⟨o1, k1⟩ := hone_of hone i f hi
  have hlt : i < fs.size := (Array.getElem?_eq_some_iff.1 hi).1
  rw [o1, k1] at hif
  have hcl : i < cs.length := by rw [hl, hC]; exact hlt
  rw [List.drop_eq_getElem_cons hcl] at hif
  simp only [List.take_succ_cons, List.take_zero] at hif
  have hxl : i < xs.length := by omega
  rw [List.getElem?_eq_getElem hxl] at hif
  exact ⟨cs[i], _, List.getElem?_eq_getElem hcl, hif⟩
/-- The cells of an array of two bytes. -/
theorem bytes2_cells {e : TypeId} {fuel : Nat} {cs : List Value} {x : DataW H × List MemPlace} (ht : P.underlying t = some (.array 2 e)) (he : P.underlying e = some (.int .u8)) (hce : P.cellsOf e = 1)
    (h : DataW.trod enc P w base spare held fuel t cs = some x) (hl : cs.length = 2) : ∃ a b : UInt8, cs = [.int .u8 a.toNat, .int .u8 b.toNat] := by
  obtain ⟨xs, m, _, _, _, hxl, hi⟩ := DataW.trod_array ht h
  have h0 := hi 0 (by omega)
  have h1 := hi 1 (by omega)
  rw [hce] at h0 h1
  match cs, hl with
  | [c0, c1], _ =>
    match xs, hxl with
    | [y0, y1], _ =>
      obtain ⟨n0, e0, _, w0⟩ := DataW.trod_int he (by simpa using h0)
      obtain ⟨n1, e1, _, w1⟩ := DataW.trod_int he (by simpa using h1)
      simp at e0 e1
      subst e0
      subst e1
      obtain ⟨a0, a1⟩ := bounds_u8 w0
      obtain ⟨b0, b1⟩ := bounds_u8 w1
      exact ⟨byt n0, byt n1, by rw [byt_toNat _ a0 (by omega), byt_toNat _ b0 (by omega)]⟩
/-- v is a row of n pairs of bytes. -/
def ReadB2 (w : World) (v : Value) (n : Nat) (K C : Nat → UInt8) : Prop :=
  ∃ p c, v = .slice p n c ∧ n ≤ maxLen ∧ (0 < n → ∃ b o, p = some ⟨b, o, none⟩ ∧ b < w.heap.size ∧ ∀ i, i < n → w.cell? ⟨b, o + i * 2, none⟩ = some (.int .u8 (K i).toNat) ∧ w.cell? ⟨b, o + i * 2 + 1, none⟩ = some (.int .u8 (C i).toNat))
theorem open_b2s {e f : TypeId} (ht : P.underlying t = some (.slice e)) (he : P.underlying e = some (.array 2 f)) (hf : P.underlying f = some (.int .u8)) (hce : P.cellsOf e = 2) (hcf : P.cellsOf f = 1)
    (hv : Value.okWide P w r b0 t v) (h : DataW.Trod enc P w base spare held t v d p) : ∃ n K C, ReadB2 w v n K C := by
  obtain ⟨n, m, R, ⟨q, c, rfl, hm, hR⟩, hy⟩ := open_rows ht (by omega) hv h
  rw [hce] at hR
  rcases Nat.eq_zero_or_pos n with h0 | h0
  · subst h0
    exact ⟨0, fun _ => 0, fun _ => 0, _, _, rfl, by simp, fun h => absurd h (by simp)⟩
  · obtain ⟨b, o, rfl, hb, hcell⟩ := hR h0
    obtain ⟨KC, hKC⟩ := choose_upto (α := UInt8 × UInt8) (n := n) (q := fun i x => R i = [.int .u8 x.1.toNat, .int .u8 x.2.toNat]) (fun i hi => by
      obtain ⟨y, hy⟩ := hy i hi
      obtain ⟨a, b, hab⟩ := bytes2_cells he hf hcf hy (hcell i hi).1
      exact ⟨(a, b), hab⟩)
    refine ⟨n, fun i => (KC i).1, fun i => (KC i).2, _, c, rfl, hm, fun _ => ⟨b, o, rfl, hb, fun i hi => ?_⟩⟩
    have h2 := (hcell i hi).2
    rw [hKC i hi] at h2
    exact ⟨h2 0 (by omega), h2 1 (by omega)⟩
/-- v is a row of n structs of five ints. -/
def ReadI5 (w : World) (v : Value) (n : Nat) (F : Nat → Nat → Int) : Prop :=
  ∃ p c, v = .slice p n c ∧ n ≤ maxLen ∧ (0 < n → ∃ b o, p = some ⟨b, o, none⟩ ∧ b < w.heap.size ∧ ∀ i, i < n → ∀ j, j < 5 → w.cell? ⟨b, o + i * 5 + j, none⟩ = some (.int .i64 (F i j)) ∧ (Lit.int .i64 (F i j)).wf = true)
theorem open_i5s {e : TypeId} {f0 f1 f2 f3 f4 : Field} (ht : P.underlying t = some (.slice e)) (he : P.underlying e = some (.struct #[f0, f1, f2, f3, f4])) (hone : oneCellFields P #[f0, f1, f2, f3, f4] = true) (hC : P.cellsOf e = 5)
    (h0 : P.underlying f0.type = some (.int .i64)) (h1 : P.underlying f1.type = some (.int .i64)) (h2 : P.underlying f2.type = some (.int .i64)) (h3 : P.underlying f3.type = some (.int .i64)) (h4 : P.underlying f4.type = some (.int .i64))
    (hv : Value.okWide P w r b0 t v) (h : DataW.Trod enc P w base spare held t v d p) : ∃ n F, ReadI5 w v n F := by
  obtain ⟨n, m, R, ⟨q, c, rfl, hm, hR⟩, hy⟩ := open_rows ht (by omega) hv h
  rw [hC] at hR
  rcases Nat.eq_zero_or_pos n with hn | hn
  · subst hn
    exact ⟨0, fun _ _ => 0, _, _, rfl, by simp, fun h => absurd h (by simp)⟩
  · obtain ⟨b, o, rfl, hb, hcell⟩ := hR hn
    obtain ⟨F, hF⟩ := choose_upto (α := Nat → Int) (n := n) (q := fun i x => ∀ j, j < 5 → (R i)[j]? = some (.int .i64 (x j)) ∧ (Lit.int .i64 (x j)).wf = true) (fun i hi => by
      obtain ⟨y, hy⟩ := hy i hi
      obtain ⟨_, k, hf⟩ := one_field he hone (by rw [hC]; rfl) hy
      have one : ∀ (j : Nat) (f : Field), #[f0, f1, f2, f3, f4][j]? = some f → P.underlying f.type = some (.int .i64) → ∃ x : Int, (R i)[j]? = some (.int .i64 x) ∧ (Lit.int .i64 x).wf = true := by
        intro j f hj hu
        obtain ⟨u, y, hu1, hu2⟩ := hf j f hj
        obtain ⟨x, e0, _, hw⟩ := DataW.trod_int hu hu2
        simp at e0
        exact ⟨x, by rw [hu1, e0], hw⟩
      obtain ⟨x0, a0⟩ := one 0 f0 rfl h0
      obtain ⟨x1, a1⟩ := one 1 f1 rfl h1
      obtain ⟨x2, a2⟩ := one 2 f2 rfl h2
      obtain ⟨x3, a3⟩ := one 3 f3 rfl h3
      obtain ⟨x4, a4⟩ := one 4 f4 rfl h4
      refine ⟨fun j => match j with | 0 => x0 | 1 => x1 | 2 => x2 | 3 => x3 | _ => x4, fun j hj => ?_⟩
      match j, hj with
      | 0, _ => exact a0
      | 1, _ => exact a1
      | 2, _ => exact a2
      | 3, _ => exact a3
      | 4, _ => exact a4)
    exact ⟨n, F, _, c, rfl, hm, fun _ => ⟨b, o, rfl, hb, fun i hi j hj => ⟨((hcell i hi).2 j hj).trans (hF i hi j hj).1, (hF i hi j hj).2⟩⟩⟩
end
end Go.Proofs.Ytiighehibiijcaa

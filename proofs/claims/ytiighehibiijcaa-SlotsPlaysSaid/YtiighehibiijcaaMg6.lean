/-
  How an argument that came in is spelled for the walks: strings, arrays and structs by value. No conditions beside those in each theorem.
  How a slice of strings that came in is spelled for the walks. No conditions beside those in each theorem.
  How a slice of arrays or structs that came in is spelled for the walks. No conditions beside those in each theorem.
  How rows of bytes and of Bools that came in are spelled for the walks. No conditions beside those in each theorem.
  How a struct of three ints that came in is spelled for the walks. No conditions beside those in each theorem.
  A log that stands open on its device, both in memory, as the statements of layer 7 hold them; what a commit leaves of it. For records of at most 1000 bytes.
  What the document's Same returns: are two lists of texts the same? For rows that a call has made itself.
-/
import Derived.Test.YtiighehibiijcaaMg5
import Derived.ProofKit
import Derived.OpenShut
import Derived.Lib.SmallJoins
import Derived.SliceStrings
import Derived.Deep.Slices
import Derived.Deep.QuietTactic
import Derived.BigQuiet
namespace Go.Proofs.Ytiighehibiijcaa
open Go.RowKit Go.WideShapes Go.Joins Go.ChangeShapes Go.Deep

theorem str_data (a : ByteArray) : str a.data.toList = .string a := by simp

section
variable {H : Type} {enc : TypeId × Value → H} {P : Program} {w : World} {base : Nat} {spare : Nat → Bool} {held : Bool} {r : Reach} {b0 : Nat} {t : TypeId} {v : Value} {d : DataW H} {p : List MemPlace}
theorem okWide_array {n : Nat} {e : TypeId} (ht : P.underlying t = some (.array n e)) (h : Value.okWide P w r b0 t v) : ∃ cs, v = .agg cs ∧ cs.size = P.cellsOf t := by
  simp only [Value.okWide, ht] at h
  obtain ⟨cs, h1, h2, _⟩ := h
  exact ⟨cs, h1, h2⟩
theorem open_strs2 {e : TypeId} (ht : P.underlying t = some (.array 2 e)) (he : P.underlying e = some .string) (hc : P.cellsOf t = 2) (hce : P.cellsOf e = 1)
    (hv : Value.okWide P w r b0 t v) (h : DataW.Trod enc P w base spare held t v d p) : ∃ a b : ByteArray, v = .agg #[.string a, .string b] := by
  obtain ⟨cs, rfl, hsz⟩ := okWide_array ht hv
  obtain ⟨c0, c1, rfl⟩ := array2 (hsz.trans hc)
  obtain ⟨fuel, hf⟩ := h
  obtain ⟨xs, m, _, _, _, hl, hi⟩ := DataW.trod_array ht hf
  have h0 := hi 0 (by omega)
  have h1 := hi 1 (by omega)
  rw [hce] at h0 h1
  match xs, hl with
  | [y0, y1], _ =>
    obtain ⟨s0, e0, _⟩ := DataW.trod_string he (by simpa [Value.cells] using h0)
    obtain ⟨s1, e1, _⟩ := DataW.trod_string he (by simpa [Value.cells] using h1)
    simp at e0 e1
    exact ⟨s0, s1, by rw [e0, e1]⟩
/-- A struct of an int and three texts. -/
theorem open_end {f0 f1 f2 f3 : Field} (hs : P.underlying t = some (.struct #[f0, f1, f2, f3])) (hone : oneCellFields P #[f0, f1, f2, f3] = true) (hC : P.cellsOf t = 4)
    (h0 : P.underlying f0.type = some (.int .i64)) (h1 : P.underlying f1.type = some .string) (h2 : P.underlying f2.type = some .string) (h3 : P.underlying f3.type = some .string)
    (hv : Value.okWide P w r b0 t v) (h : DataW.Trod enc P w base spare held t v d p) : ∃ (n : Int) (a b c : ByteArray), v = .agg #[.int .i64 n, .string a, .string b, .string c] ∧ (Lit.int .i64 n).wf = true := by
  obtain ⟨c0, c1, c2, c3, y0, y1, y2, y3, m, rfl, _, _, k0, k1, k2, k3⟩ := open_agg4 hs hone hC hv h
  obtain ⟨n, e0, _, hn⟩ := DataW.trod_int h0 k0
  obtain ⟨a, e1, _⟩ := DataW.trod_string h1 k1
  obtain ⟨b, e2, _⟩ := DataW.trod_string h2 k2
  obtain ⟨c, e3, _⟩ := DataW.trod_string h3 k3
  simp at e0 e1 e2 e3
  exact ⟨n, a, b, c, by rw [e0, e1, e2, e3], hn⟩
end
end Go.Proofs.Ytiighehibiijcaa

namespace Go.Proofs.Ytiighehibiijcaa
open Go.RowKit Go.WideShapes Go.ChangeShapes Go.Joins Go.Deep

/-- v is a row of the texts L, as w has it. -/
def ReadS (w : World) (v : Value) (L : List (List UInt8)) : Prop :=
  ∃ p c, v = .slice p L.length c ∧ L.length ≤ maxLen ∧ (0 < L.length → ∃ b o, p = some ⟨b, o, none⟩ ∧ b < w.heap.size ∧ ∀ i (h : i < L.length), w.cell? ⟨b, o + i, none⟩ = some (str L[i]))

section
variable {H : Type} {enc : TypeId × Value → H} {P : Program} {w : World} {base : Nat} {spare : Nat → Bool} {held : Bool} {r : Reach} {b0 : Nat} {t : TypeId} {v : Value} {d : DataW H} {p : List MemPlace}
theorem open_strl {e : TypeId} (ht : P.underlying t = some (.slice e)) (he : P.underlying e = some .string) (hc : P.cellsOf e = 1)
    (hv : Value.okWide P w r b0 t v) (h : DataW.Trod enc P w base spare held t v d p) : ∃ L, ReadS w v L := by
  obtain ⟨a, len, cap, rfl⟩ := okWide_slice ht hv
  obtain ⟨fuel, hf⟩ := h
  rcases open_strings ht he hc hf with ⟨hcs, _⟩ | ⟨a', len', cap', ss, hcs, _, hl, hm, hz, _, hcell, _⟩
  · simp [Value.cells] at hcs
    obtain ⟨rfl, rfl, rfl⟩ := hcs
    exact ⟨[], _, _, rfl, by simp, by simp⟩
  · simp [Value.cells] at hcs
    obtain ⟨rfl, rfl, rfl⟩ := hcs
    rcases Nat.eq_zero_or_pos len with h0 | h0
    · subst h0
      exact ⟨[], _, _, rfl, by simp, by simp⟩
    · have hlen : len ≤ ss.length := by rw [hz]; split <;> omega
      obtain ⟨b, o, spot⟩ := a'
      have hspot : spot = none := by simpa [Addr.add] using World.cell?_spot (hcell 0 (by omega))
      subst hspot
      have hll : ((ss.take len).map fun s => s.data.toList).length = len := by simp; omega
      refine ⟨(ss.take len).map fun s => s.data.toList, _, cap, by rw [hll], by rw [hll]; omega, fun _ => ⟨b, o, rfl, ?_, ?_⟩⟩
      · have h1 := hcell 0 (by omega)
        rw [add_plain] at h1
        exact World.block_lt_of_cell? w _ h1
      · intro i hi
        rw [hll] at hi
        have h1 := hcell i (by omega)
        rw [add_plain] at h1
        rw [h1]
        simp [show i < ss.length by omega]
/-- A struct of a byte, a number and a text. -/
theorem open_field {f0 f1 f2 : Field} (hs : P.underlying t = some (.struct #[f0, f1, f2])) (hone : oneCellFields P #[f0, f1, f2] = true) (hC : P.cellsOf t = 3)
    (h0 : P.underlying f0.type = some (.int .u8)) (h1 : P.underlying f1.type = some (.int .u64)) (h2 : P.underlying f2.type = some .string)
    (hv : Value.okWide P w r b0 t v) (h : DataW.Trod enc P w base spare held t v d p) : ∃ (c n : Int) (a : ByteArray), v = .agg #[.int .u8 c, .int .u64 n, .string a] ∧ (Lit.int .u8 c).wf = true ∧ (Lit.int .u64 n).wf = true := by
  obtain ⟨c0, c1, c2, y0, y1, y2, m, rfl, _, _, k0, k1, k2⟩ := open_agg3 hs hone hC hv h
  obtain ⟨c, e0, _, hc⟩ := DataW.trod_int h0 k0
  obtain ⟨n, e1, _, hn⟩ := DataW.trod_int h1 k1
  obtain ⟨a, e2, _⟩ := DataW.trod_string h2 k2
  simp at e0 e1 e2
  exact ⟨c, n, a, by rw [e0, e1, e2], hc, hn⟩
end
end Go.Proofs.Ytiighehibiijcaa

namespace Go.Proofs.Ytiighehibiijcaa
open Go.RowKit Go.WideShapes Go.ChangeShapes Go.Joins Go.Deep

/-- v is a row of n elements of C cells each; R i: the cells of element i. -/
def ReadR (w : World) (v : Value) (C n : Nat) (R : Nat → List Value) : Prop :=
  ∃ p c, v = .slice p n c ∧ n ≤ maxLen ∧ (0 < n → ∃ b o, p = some ⟨b, o, none⟩ ∧ b < w.heap.size ∧ ∀ i, i < n → (R i).length = C ∧ ∀ j, j < C → w.cell? ⟨b, o + i * C + j, none⟩ = (R i)[j]?)

section
variable {H : Type} {enc : TypeId × Value → H} {P : Program} {w : World} {base : Nat} {spare : Nat → Bool} {held : Bool} {r : Reach} {b0 : Nat} {t : TypeId} {v : Value} {d : DataW H} {p : List MemPlace}
theorem choose_upto {α : Type} [Inhabited α] {n : Nat} {q : Nat → α → Prop} (h : ∀ i, i < n → ∃ x, q i x) : ∃ f : Nat → α, ∀ i, i < n → q i (f i) := by
  refine ⟨fun i => if hi : i < n then Classical.choose (h i hi) else default, fun i hi => ?_⟩
  simp only [hi, dif_pos]
  exact Classical.choose_spec (h i hi)
theorem open_rows_cells {e : TypeId} {fuel : Nat} {x : DataW H × List MemPlace} (ht : P.underlying t = some (.slice e)) (hC : 0 < P.cellsOf e) (hf : DataW.trod enc P w base spare held fuel t [v] = some x) :
    ∃ (n m : Nat) (R : Nat → List Value), ReadR w v (P.cellsOf e) n R ∧ ∀ i, i < n → ∃ y, DataW.trod enc P w base spare held m e (R i) = some y := by
  rcases open_slice ht hf with ⟨hcs, _⟩ | ⟨a', len', cap', m, n, D, Pl, hcs, _, hl, hm, hz, _, hx⟩
  · obtain rfl : v = .slice none 0 0 := by simpa using hcs
    exact ⟨0, 0, fun _ => [], ⟨_, _, rfl, by simp, fun h => absurd h (by simp)⟩, fun i hi => absurd hi (by simp)⟩
  · obtain rfl : v = .slice (some a') len' cap' := by simpa using hcs
    rcases Nat.eq_zero_or_pos len' with h0 | h0
    · subst h0
      exact ⟨0, 0, fun _ => [], ⟨_, _, rfl, by simp, fun h => absurd h (by simp)⟩, fun i hi => absurd hi (by simp)⟩
    · have hlen : len' ≤ m := by rw [hz]; split <;> omega
      obtain ⟨R, hR⟩ := choose_upto (α := List Value) (n := len') (q := fun i cs' => w.cells? base (a'.add (i * P.cellsOf e)) (P.cellsOf e) = some cs' ∧ DataW.trod enc P w base spare held n e cs' = some (D i, Pl i)) (fun i hi => hx i (by omega))
      have hcell : ∀ i, i < len' → (R i).length = P.cellsOf e ∧ ∀ j, j < P.cellsOf e → w.cell? ((a'.add (i * P.cellsOf e)).add j) = (R i)[j]? := fun i hi => (World.cells?_some (hR i hi).1).2
      obtain ⟨b, o, spot⟩ := a'
      obtain ⟨q1, q2⟩ := hcell 0 h0
      have hc0 := q2 0 hC
      rw [Nat.zero_mul] at hc0
      obtain ⟨u, hu⟩ : ∃ u, (R 0)[0]? = some u := ⟨_, List.getElem?_eq_getElem (by omega)⟩
      rw [hu] at hc0
      have hspot : spot = none := by simpa [Addr.add] using World.cell?_spot hc0
      subst hspot
      refine ⟨len', n, R, ⟨_, cap', rfl, by omega, fun _ => ⟨b, o, rfl, ?_, fun i hi => ⟨(hcell i hi).1, fun j hj => ?_⟩⟩⟩, fun i hi => ⟨_, (hR i hi).2⟩⟩
      · rw [add_plain, add_plain] at hc0
        exact World.block_lt_of_cell? w _ hc0
      · have := (hcell i hi).2 j hj
        rw [add_plain, add_plain] at this
        exact this
theorem open_rows {e : TypeId} (ht : P.underlying t = some (.slice e)) (hC : 0 < P.cellsOf e) (hv : Value.okWide P w r b0 t v) (h : DataW.Trod enc P w base spare held t v d p) :
    ∃ (n m : Nat) (R : Nat → List Value), ReadR w v (P.cellsOf e) n R ∧ ∀ i, i < n → ∃ y, DataW.trod enc P w base spare held m e (R i) = some y := by
  obtain ⟨a, len, cap, rfl⟩ := okWide_slice ht hv
  obtain ⟨fuel, hf⟩ := h
  exact open_rows_cells ht hC (by simpa [Value.cells] using hf)
/-- The cell of a field of one cell. -/
theorem one_field {fs : Array Field} {fuel : Nat} {cs : List Value} {x : DataW H × List MemPlace} (ht : P.underlying t = some (.struct fs)) (hone : oneCellFields P fs = true) (hC : P.cellsOf t = fs.size)
    (h : DataW.trod enc P w base spare held fuel t cs = some x) : cs.length = fs.size ∧ ∃ n, ∀ (i : Nat) (f : Field), fs[i]? = some f → ∃ u y, cs[i]? = some u ∧ DataW.trod enc P w base spare held n f.type [u] = some y := by
  obtain ⟨xs, n, _, rfl, hl, hlen, hf⟩ := DataW.trod_struct ht h
  refine ⟨by rw [hl, hC], n, fun i f hi => ?_⟩
  have hif := hf i f hi
  obtain ⟨o1, k1⟩ := hone_of hone i f hi
  have hlt : i < fs.size := (Array.getElem?_eq_some_iff.1 hi).1
  rw [o1, k1] at hif
  have hcl : i < cs.length := by rw [hl, hC]; exact hlt
  rw [List.drop_eq_getElem_cons hcl] at hif
  simp only [List.take_succ_cons, List.take_zero] at hif
  have hxl : i < xs.length := by omega
  rw [List.getElem?_eq_getElem hxl] at hif
  exact ⟨cs[i], _, List.getElem?_eq_getElem hcl, hif⟩
/-- The cells of an array of two bytes. -/
theorem bytes2_cells {e : TypeId} {fuel : Nat} {cs : List Value} {x : DataW H × List MemPlace} (ht : P.underlying t = some (.array 2 e)) (he : P.underlying e = some (.int .u8)) (hce : P.cellsOf e = 1)
    (h : DataW.trod enc P w base spare held fuel t cs = some x) (hl : cs.length = 2) : ∃ a b : UInt8, cs = [.int .u8 a.toNat, .int .u8 b.toNat] := by
  obtain ⟨xs, m, _, _, _, hxl, hi⟩ := DataW.trod_array ht h
  have h0 := hi 0 (by omega)
  have h1 := hi 1 (by omega)
  rw [hce] at h0 h1
  match cs, hl with
  | [c0, c1], _ =>
    match xs, hxl with
    | [y0, y1], _ =>
      obtain ⟨n0, e0, _, w0⟩ := DataW.trod_int he (by simpa using h0)
      obtain ⟨n1, e1, _, w1⟩ := DataW.trod_int he (by simpa using h1)
      simp at e0 e1
      subst e0
      subst e1
      obtain ⟨a0, a1⟩ := bounds_u8 w0
      obtain ⟨b0, b1⟩ := bounds_u8 w1
      exact ⟨byt n0, byt n1, by rw [byt_toNat _ a0 (by omega), byt_toNat _ b0 (by omega)]⟩
/-- v is a row of n pairs of bytes. -/
def ReadB2 (w : World) (v : Value) (n : Nat) (K C : Nat → UInt8) : Prop :=
  ∃ p c, v = .slice p n c ∧ n ≤ maxLen ∧ (0 < n → ∃ b o, p = some ⟨b, o, none⟩ ∧ b < w.heap.size ∧ ∀ i, i < n → w.cell? ⟨b, o + i * 2, none⟩ = some (.int .u8 (K i).toNat) ∧ w.cell? ⟨b, o + i * 2 + 1, none⟩ = some (.int .u8 (C i).toNat))
theorem open_b2s {e f : TypeId} (ht : P.underlying t = some (.slice e)) (he : P.underlying e = some (.array 2 f)) (hf : P.underlying f = some (.int .u8)) (hce : P.cellsOf e = 2) (hcf : P.cellsOf f = 1)
    (hv : Value.okWide P w r b0 t v) (h : DataW.Trod enc P w base spare held t v d p) : ∃ n K C, ReadB2 w v n K C := by
  obtain ⟨n, m, R, ⟨q, c, rfl, hm, hR⟩, hy⟩ := open_rows ht (by omega) hv h
  rw [hce] at hR
  rcases Nat.eq_zero_or_pos n with h0 | h0
  · subst h0
    exact ⟨0, fun _ => 0, fun _ => 0, _, _, rfl, by simp, fun h => absurd h (by simp)⟩
  · obtain ⟨b, o, rfl, hb, hcell⟩ := hR h0
    obtain ⟨KC, hKC⟩ := choose_upto (α := UInt8 × UInt8) (n := n) (q := fun i x => R i = [.int .u8 x.1.toNat, .int .u8 x.2.toNat]) (fun i hi => by
      obtain ⟨y, hy⟩ := hy i hi
      obtain ⟨a, b, hab⟩ := bytes2_cells he hf hcf hy (hcell i hi).1
      exact ⟨(a, b), hab⟩)
    refine ⟨n, fun i => (KC i).1, fun i => (KC i).2, _, c, rfl, hm, fun _ => ⟨b, o, rfl, hb, fun i hi => ?_⟩⟩
    have h2 := (hcell i hi).2
    rw [hKC i hi] at h2
    exact ⟨h2 0 (by omega), h2 1 (by omega)⟩
/-- v is a row of n structs of five ints. -/
def ReadI5 (w : World) (v : Value) (n : Nat) (F : Nat → Nat → Int) : Prop :=
  ∃ p c, v = .slice p n c ∧ n ≤ maxLen ∧ (0 < n → ∃ b o, p = some ⟨b, o, none⟩ ∧ b < w.heap.size ∧ ∀ i, i < n → ∀ j, j < 5 → w.cell? ⟨b, o + i * 5 + j, none⟩ = some (.int .i64 (F i j)) ∧ (Lit.int .i64 (F i j)).wf = true)
theorem open_i5s {e : TypeId} {f0 f1 f2 f3 f4 : Field} (ht : P.underlying t = some (.slice e)) (he : P.underlying e = some (.struct #[f0, f1, f2, f3, f4])) (hone : oneCellFields P #[f0, f1, f2, f3, f4] = true) (hC : P.cellsOf e = 5)
    (h0 : P.underlying f0.type = some (.int .i64)) (h1 : P.underlying f1.type = some (.int .i64)) (h2 : P.underlying f2.type = some (.int .i64)) (h3 : P.underlying f3.type = some (.int .i64)) (h4 : P.underlying f4.type = some (.int .i64))
    (hv : Value.okWide P w r b0 t v) (h : DataW.Trod enc P w base spare held t v d p) : ∃ n F, ReadI5 w v n F := by
  obtain ⟨n, m, R, ⟨q, c, rfl, hm, hR⟩, hy⟩ := open_rows ht (by omega) hv h
  rw [hC] at hR
  rcases Nat.eq_zero_or_pos n with hn | hn
  · subst hn
    exact ⟨0, fun _ _ => 0, _, _, rfl, by simp, fun h => absurd h (by simp)⟩
  · obtain ⟨b, o, rfl, hb, hcell⟩ := hR hn
    obtain ⟨F, hF⟩ := choose_upto (α := Nat → Int) (n := n) (q := fun i x => ∀ j, j < 5 → (R i)[j]? = some (.int .i64 (x j)) ∧ (Lit.int .i64 (x j)).wf = true) (fun i hi => by
      obtain ⟨y, hy⟩ := hy i hi
      obtain ⟨_, k, hf⟩ := one_field he hone (by rw [hC]; rfl) hy
      have one : ∀ (j : Nat) (f : Field), #[f0, f1, f2, f3, f4][j]? = some f → P.underlying f.type = some (.int .i64) → ∃ x : Int, (R i)[j]? = some (.int .i64 x) ∧ (Lit.int .i64 x).wf = true := by
        intro j f hj hu
        obtain ⟨u, y, hu1, hu2⟩ := hf j f hj
        obtain ⟨x, e0, _, hw⟩ := DataW.trod_int hu hu2
        simp at e0
        exact ⟨x, by rw [hu1, e0], hw⟩
      obtain ⟨x0, a0⟩ := one 0 f0 rfl h0
      obtain ⟨x1, a1⟩ := one 1 f1 rfl h1
      obtain ⟨x2, a2⟩ := one 2 f2 rfl h2
      obtain ⟨x3, a3⟩ := one 3 f3 rfl h3
      obtain ⟨x4, a4⟩ := one 4 f4 rfl h4
      refine ⟨fun j => match j with | 0 => x0 | 1 => x1 | 2 => x2 | 3 => x3 | _ => x4, fun j hj => ?_⟩
      match j, hj with
      | 0, _ => exact a0
      | 1, _ => exact a1
      | 2, _ => exact a2
      | 3, _ => exact a3
      | 4, _ => exact a4)
    exact ⟨n, F, _, c, rfl, hm, fun _ => ⟨b, o, rfl, hb, fun i hi j hj => ⟨((hcell i hi).2 j hj).trans (hF i hi j hj).1, (hF i hi j hj).2⟩⟩⟩
end
end Go.Proofs.Ytiighehibiijcaa

namespace Go.Proofs.Ytiighehibiijcaa
open Go.RowKit Go.WideShapes Go.ChangeShapes Go.Joins Go.Deep

/-- v is a row of n bytes. -/
def ReadB (w : World) (v : Value) (n : Nat) (F : Nat → UInt8) : Prop :=
  ∃ p c, v = .slice p n c ∧ n ≤ maxLen ∧ (0 < n → ∃ b o, p = some ⟨b, o, none⟩ ∧ b < w.heap.size ∧ ∀ i, i < n → w.cell? ⟨b, o + i, none⟩ = some (.int .u8 (F i).toNat))
/-- v is a row of Bools. -/
def ReadBl (w : World) (v : Value) (ks : List Bool) : Prop :=
  ks.length ≤ maxLen ∧ ∃ p c, v = .slice p ks.length c ∧ (0 < ks.length → ∃ b o, p = some ⟨b, o, none⟩ ∧ b < w.heap.size ∧ ∀ i (h : i < ks.length), w.cell? ⟨b, o + i, none⟩ = some (.bool ks[i]))
section
variable {H : Type} {enc : TypeId × Value → H} {P : Program} {w : World} {base : Nat} {spare : Nat → Bool} {held : Bool} {r : Reach} {b0 : Nat} {t : TypeId} {v : Value} {d : DataW H} {p : List MemPlace}
theorem open_bytes {e : TypeId} (ht : P.underlying t = some (.slice e)) (he : P.underlying e = some (.int .u8)) (hce : P.cellsOf e = 1)
    (hv : Value.okWide P w r b0 t v) (h : DataW.Trod enc P w base spare held t v d p) : ∃ n F, ReadB w v n F := by
  obtain ⟨n, m, R, ⟨q, c, rfl, hm, hR⟩, hy⟩ := open_rows ht (by omega) hv h
  rw [hce] at hR
  rcases Nat.eq_zero_or_pos n with h0 | h0
  · subst h0
    exact ⟨0, fun _ => 0, _, _, rfl, by simp, fun h => absurd h (by simp)⟩
  · obtain ⟨b, o, rfl, hb, hcell⟩ := hR h0
    obtain ⟨F, hF⟩ := choose_upto (α := UInt8) (n := n) (q := fun i x => R i = [.int .u8 x.toNat]) (fun i hi => by
      obtain ⟨y, hy⟩ := hy i hi
      obtain ⟨n0, e0, _, w0⟩ := DataW.trod_int he hy
      obtain ⟨a0, a1⟩ := bounds_u8 w0
      exact ⟨byt n0, by rw [e0, byt_toNat _ a0 (by omega)]⟩)
    refine ⟨n, F, _, c, rfl, hm, fun _ => ⟨b, o, rfl, hb, fun i hi => ?_⟩⟩
    have h2 := (hcell i hi).2 0 (by omega)
    rw [hF i hi, Nat.mul_one, Nat.add_zero] at h2
    exact h2
theorem open_bools_cells {e : TypeId} {fuel : Nat} {x : DataW H × List MemPlace} (ht : P.underlying t = some (.slice e)) (he : P.underlying e = some .bool) (hce : P.cellsOf e = 1)
    (hf : DataW.trod enc P w base spare held fuel t [v] = some x) : ∃ ks, ReadBl w v ks := by
  obtain ⟨n, m, R, ⟨q, c, rfl, hm, hR⟩, hy⟩ := open_rows_cells ht (by omega) hf
  rw [hce] at hR
  rcases Nat.eq_zero_or_pos n with h0 | h0
  · subst h0
    exact ⟨[], by simp, _, _, rfl, fun h => absurd h (by simp)⟩
  · obtain ⟨b, o, rfl, hb, hcell⟩ := hR h0
    obtain ⟨F, hF⟩ := choose_upto (α := Bool) (n := n) (q := fun i x => R i = [.bool x]) (fun i hi => by
      obtain ⟨y, hy⟩ := hy i hi
      obtain ⟨n0, e0, _⟩ := DataW.trod_bool he hy
      exact ⟨n0, e0⟩)
    have hlen : ((List.range n).map F).length = n := by simp
    refine ⟨(List.range n).map F, by rw [hlen]; exact hm, some ⟨b, o, none⟩, c, by rw [hlen], fun _ => ⟨b, o, rfl, hb, fun i hi => ?_⟩⟩
    rw [hlen] at hi
    have h2 := (hcell i hi).2 0 (by omega)
    rw [hF i hi, Nat.mul_one, Nat.add_zero] at h2
    simpa using h2
/-- A struct of a row of Bools and two ints. -/
theorem open_cut {e : TypeId} {f0 f1 f2 : Field} (hs : P.underlying t = some (.struct #[f0, f1, f2])) (hone : oneCellFields P #[f0, f1, f2] = true) (hC : P.cellsOf t = 3)
    (h0 : P.underlying f0.type = some (.slice e)) (he : P.underlying e = some .bool) (hce : P.cellsOf e = 1) (h1 : P.underlying f1.type = some (.int .i64)) (h2 : P.underlying f2.type = some (.int .i64))
    (hv : Value.okWide P w r b0 t v) (h : DataW.Trod enc P w base spare held t v d p) : ∃ (kv : Value) (ks : List Bool) (a b : Int), v = .agg #[kv, .int .i64 a, .int .i64 b] ∧ ReadBl w kv ks := by
  obtain ⟨c0, c1, c2, y0, y1, y2, m, rfl, _, _, k0, k1, k2⟩ := open_agg3 hs hone hC hv h
  obtain ⟨ks, hks⟩ := open_bools_cells h0 he hce k0
  obtain ⟨a, e1, _⟩ := DataW.trod_int h1 k1
  obtain ⟨b, e2, _⟩ := DataW.trod_int h2 k2
  simp at e1 e2
  exact ⟨c0, ks, a, b, by rw [e1, e2], hks⟩
end
end Go.Proofs.Ytiighehibiijcaa

namespace Go.Proofs.Ytiighehibiijcaa
open Go.RowKit Go.WideShapes Go.ChangeShapes Go.Joins Go.Deep
section
variable {H : Type} {enc : TypeId × Value → H} {P : Program} {w : World} {base : Nat} {spare : Nat → Bool} {held : Bool} {r : Reach} {b0 : Nat} {t : TypeId} {v : Value} {d : DataW H} {p : List MemPlace}
theorem open_mark {f0 f1 f2 : Field} (hs : P.underlying t = some (.struct #[f0, f1, f2])) (hone : oneCellFields P #[f0, f1, f2] = true) (hC : P.cellsOf t = 3)
    (h0 : P.underlying f0.type = some (.int .i64)) (h1 : P.underlying f1.type = some (.int .i64)) (h2 : P.underlying f2.type = some (.int .i64))
    (hv : Value.okWide P w r b0 t v) (h : DataW.Trod enc P w base spare held t v d p) : ∃ (a b c : Int), v = .agg #[.int .i64 a, .int .i64 b, .int .i64 c] := by
  obtain ⟨c0, c1, c2, y0, y1, y2, m, rfl, _, _, k0, k1, k2⟩ := open_agg3 hs hone hC hv h
  obtain ⟨a, e0, _⟩ := DataW.trod_int h0 k0
  obtain ⟨b, e1, _⟩ := DataW.trod_int h1 k1
  obtain ⟨c, e2, _⟩ := DataW.trod_int h2 k2
  simp at e0 e1 e2
  exact ⟨a, b, c, by rw [e0, e1, e2]⟩
end
end Go.Proofs.Ytiighehibiijcaa

namespace Go.Proofs.Ytiighehibiijcaa
open Go.RowKit
set_option linter.unusedSimpArgs false
set_option linter.unnecessarySimpa false
set_option linter.unusedVariables false

/-- W: the world at the statement's start. -/
def Holds (W w : World) (g gm h : Nat) (v : Value) (cap : Nat) (D : Dev) (X : Log) (rs : List (List UInt8)) (n : Int) (j : Nat) : Prop :=
  IsDev w g gm v cap gm D ∧ IsLog w h g X ∧ Live D X rs ∧ OkP n j D ∧ W.heap.size ≤ gm ∧ W.heap.size ≤ h ∧ Below W.heap.size W w ∧ cap ≤ j * 140000
section
variable {W w w' : World} {g gm h cap : Nat} {v : Value} {D : Dev} {X : Log} {rs : List (List UInt8)} {n : Int} {j : Nat} {r0 : List UInt8}
theorem Holds.step (H : Holds W w g gm h v cap D X rs n j) (hb : Below w.heap.size w w') : Holds W w' g gm h v cap D X rs n j :=
  ⟨H.1.step hb, Blk.step H.2.1 hb, H.2.2.1, H.2.2.2.1, H.2.2.2.2.1, H.2.2.2.2.2.1, bel_step H.2.2.2.2.2.2.1 hb, H.2.2.2.2.2.2.2⟩
theorem Holds.below (H : Holds W w g gm h v cap D X rs n j) : Below W.heap.size W w := H.2.2.2.2.2.2.1
theorem Holds.live (H : Holds W w g gm h v cap D X rs n j) : Live D X rs := H.2.2.1
theorem Holds.dn (H : Holds W w g gm h v cap D X rs n j) : D.n = n := H.2.2.2.1.1
theorem IsDev.setBlk {x : Nat} {t : TypeId} {cs : Array Value} {B : Nat} (hd : IsDev w g gm v cap B D) (hx : Blk w x t cs) (h1 : t ≠ 60) (h2 : t ≠ 91) (i : Nat) (u : Value) : IsDev (w.setCell ⟨x, i, none⟩ u) g gm v cap B D := by
  have hg := upd_set w x i u
  exact ⟨hd.1.grown hg (by simpa using blk_ne hd.1 hx h1.symm), hd.2.1.kept hg (by simpa using fun e => (hd.2.1.ne hx) e.symm), hd.2.2.1.grown hg (.inr (hd.2.2.1.ne hx h2)), hd.2.2.2.1, hd.2.2.2.2⟩
theorem IsDev.grownBlk {x : Nat} {t : TypeId} {cs : Array Value} {B : Nat} (hd : IsDev w g gm v cap B D) (hx : Blk w x t cs) (h1 : t ≠ 60) (h2 : t ≠ 91) (hg : w.grownBy w' (some x)) : IsDev w' g gm v cap B D :=
  ⟨hd.1.grown hg (by simpa using blk_ne hd.1 hx h1.symm), hd.2.1.kept hg (by simpa using fun e => (hd.2.1.ne hx) e.symm), hd.2.2.1.grown hg (.inr (hd.2.2.1.ne hx h2)), hd.2.2.2.1, hd.2.2.2.2⟩
theorem OwnS.blk {B : Nat} {L : List (List UInt8)} (hv : OwnS w B v L) : v.ownBlock = Option.none ∨ ∃ q cur, v.ownBlock = some q ∧ B ≤ q ∧ Blk w q 9 cur := by
  rcases hv.2 with h1 | ⟨q, cap, cur, h1, h2, h3, h4⟩
  · rw [h1.1]; exact .inl rfl
  · rw [h1]; exact .inr ⟨q, cur, rfl, h2, h3⟩
/-- A row of texts beside a call on a log. -/
theorem OwnS.keepL {B Bd : Nat} {vs v' : Value} {L : List (List UInt8)} {cx : Array Value} (hv : OwnS w B vs L) (hd : IsDev w g gm v cap Bd D) (ht : TouchL h g gm w v w' v') (hx : Blk w h 78 cx) : OwnS w' B vs L := by
  refine ⟨hv.1, ?_⟩
  rcases hv.2 with h1 | ⟨q, cap, cur, h1, h2, h3, h4⟩
  · exact .inl h1
  · exact .inr ⟨q, cap, cur, h1, h2, hd.keepL ht hx h3 (by decide) (by decide) (by decide), h4⟩
theorem OwnS.keepD {B Bd : Nat} {vs v' : Value} {L : List (List UInt8)} (hv : OwnS w B vs L) (hd : IsDev w g gm v cap Bd D) (ht : Touch g gm w v w' v') : OwnS w' B vs L := by
  refine ⟨hv.1, ?_⟩
  rcases hv.2 with h1 | ⟨q, cap, cur, h1, h2, h3, h4⟩
  · exact .inl h1
  · exact .inr ⟨q, cap, cur, h1, h2, hd.keep ht h3 (by decide) (by decide), h4⟩
theorem below_of_none (hg : w.grownBy w' Option.none) : Below w.heap.size w w' := ⟨hg.os, hg.tape, hg.output, hg.size, fun i hi => hg.block i hi (by simp)⟩
/-- A row of texts grows. -/
theorem Holds.grownS {B : Nat} {vs : Value} {L : List (List UInt8)} (H : Holds W w g gm h v cap D X rs n j) (hv : OwnS w B vs L) (hB : W.heap.size ≤ B) (hg : w.grownBy w' vs.ownBlock) : Holds W w' g gm h v cap D X rs n j := by
  rcases hv.blk with e | ⟨q, cur, e, hq, hb⟩
  · rw [e] at hg
    exact H.step (below_of_none hg)
  · rw [e] at hg
    exact ⟨H.1.grownBlk hb (by decide) (by decide) hg, Blk.grown H.2.1 hg (by simpa using blk_ne H.2.1 hb (by decide)), H.2.2.1, H.2.2.2.1, H.2.2.2.2.1, H.2.2.2.2.2.1,
      H.2.2.2.2.2.2.1.trans (upd_below hg H.2.2.2.2.2.2.1.size (by omega)), H.2.2.2.2.2.2.2⟩
theorem Blk.grownS {B x : Nat} {t : TypeId} {cs : Array Value} {vs : Value} {L : List (List UInt8)} (hx : Blk w x t cs) (hv : OwnS w B vs L) (ht : t ≠ 9) (hg : w.grownBy w' vs.ownBlock) : Blk w' x t cs := by
  rcases hv.blk with e | ⟨q, cur, e, hq, hb⟩
  · rw [e] at hg
    exact hx.grown hg (by simp)
  · rw [e] at hg
    exact hx.grown hg (by simpa using blk_ne hx hb ht)
/-- A commit for which there is no room. -/
theorem Holds.commitFull (H : Holds W w g gm h v cap D X rs n j) (hr : roomD D < ((recsB rs ++ tRec r0).length : Int)) (hr1 : r0.length ≤ 1000) (hj : j ≤ 7000) :
    Calls Try.prog 40 #[.pointer (some ⟨h, 0, none⟩), str r0] w fun e w' => e = .returned (.int .i64 15) ∧ ∃ v' cap', Holds W w' g gm h v' cap' D X rs n (j + 30) ∧ TouchL h g gm w v w' v' := by
  obtain ⟨hd, hx, hl, hp, hg, hh, hb, hca⟩ := H
  have hp' : OkP D.n j D := by rw [hp.1]; exact hp
  have h0 := hl.disk.n0
  refine (commit_any w h g gm v cap gm D X r0 hx hd (by omega) (by omega) hl.disk.n1 hl.log_ok j hp' (by omega) (by omega) _ (commitR_full hl hr)).mono ?_
  rintro e w' ⟨v', cap', rfl, hc', hd', hx', ht'⟩
  exact ⟨rfl, v', cap', ⟨hd', hx', hl, hp.le (by omega), hg, hh, hb.trans (hd.belowL ht' hg hh hb.size), by omega⟩, ht'⟩
/-- A store into a block of the statement's own. -/
theorem Holds.set {x : Nat} {t : TypeId} {cs : Array Value} (H : Holds W w g gm h v cap D X rs n j) (hx : Blk w x t cs) (h1 : t ≠ 60) (h2 : t ≠ 91) (h3 : t ≠ 78) (hW : W.heap.size ≤ x) (i : Nat) (u : Value) :
    Holds W (w.setCell ⟨x, i, none⟩ u) g gm h v cap D X rs n j :=
  ⟨H.1.setBlk hx h1 h2 i u, Blk.far H.2.1 (blk_ne H.2.1 hx h3.symm) u, H.2.2.1, H.2.2.2.1, H.2.2.2.2.1, H.2.2.2.2.2.1, H.2.2.2.2.2.2.1.setCell (p := ⟨x, i, none⟩) hW u, H.2.2.2.2.2.2.2⟩
/-- A new device's log. -/
theorem Holds.start {w0 : World} (h0 : 3 ≤ n) (h1 : n ≤ 4096) (hd : IsDev w0 g gm v 0 gm (newD n)) (hb : Below W.heap.size W w0) (hg : W.heap.size ≤ gm) (hx : IsLog w h g ⟨(0, 0, 0), [], false⟩) (hh : w0.heap.size ≤ h) (hb2 : Below w0.heap.size w0 w) :
    Holds W w g gm h v 0 (newD n) ⟨(0, 0, 0), [], false⟩ [] n 0 :=
  ⟨hd.step hb2, hx, Live.new h0 h1, OkP.new n, hg, Nat.le_trans hb.size hh, bel_step hb hb2, Nat.zero_le _⟩
theorem ks_small (h : Live D X rs) (hr : r0.length ≤ 1000) : ksL X (tRec r0) + 4 ≤ 30 := by
  have h1 := tRec_most r0
  unfold ksL
  rw [List.length_append, h.fin, finB_length]
  omega
/-- A commit on a device that is not armed. -/
theorem Holds.commit (H : Holds W w g gm h v cap D X rs n j) (harm : D.armed = false) (hr : ((recsB rs ++ tRec r0).length : Int) ≤ roomD D) (hr1 : r0.length ≤ 1000) (he : X.mark.1 < 1000000) (hc : rs.length < 1000000) (hj : j ≤ 7000) :
    Calls Try.prog 40 #[.pointer (some ⟨h, 0, none⟩), str r0] w fun e w' => e = .returned (.int .i64 0) ∧ ∃ v' cap' D' X', Holds W w' g gm h v' cap' D' X' (rs ++ [r0]) n (j + 30) ∧ D'.armed = false ∧
      X'.mark = nextM X (tRec r0) ∧ readD D' ((X'.mark.1 + 1).tmod 2) = packS X.mark.1 X.mark.2.1 X.mark.2.2 ∧ TouchL h g gm w v w' v' := by
  obtain ⟨hd, hx, hl, hp, hg, hh, hb, hca⟩ := H
  have hp' : OkP D.n j D := by rw [hp.1]; exact hp
  obtain ⟨X', D', hC, hL', hO', hA', hN', hM', hE'⟩ := commit_done hl hp' harm hr (by omega) he hc
  have hks := ks_small (r0 := r0) hl hr1
  have h0 := hl.disk.n0
  refine (commit_any w h g gm v cap gm D X r0 hx hd (by omega) (by omega) hl.disk.n1 hl.log_ok j hp' (by omega) (by omega) _ hC).mono ?_
  rintro e w' ⟨v', cap', rfl, hc', hd', hx', ht'⟩
  exact ⟨rfl, v', cap', D', X', ⟨hd', hx', hL', by rw [hp.1] at hO'; exact hO'.le (by omega), hg, hh, hb.trans (hd.belowL ht' hg hh hb.size), by omega⟩, hA', hM', hE', ht'⟩
end
set_option maxRecDepth 100000 in
set_option maxHeartbeats 1600000 in
theorem logRoom_quiet (w : World) (h g gm : Nat) (v : Value) (cap B : Nat) (d : Dev) (x : Log) (hx : IsLog w h g x) (hd : IsDev w g gm v cap B d) (n0 : 0 ≤ d.n) (n1 : d.n ≤ 4096) (m0 : -1000000 ≤ x.mark.2.1) (m1 : x.mark.2.1 ≤ 1000000) :
    Calls Try.prog 42 #[.pointer (some ⟨h, 0, none⟩)] w fun e w' => e = .returned (.int .i64 (roomD d - x.mark.2.1)) ∧ ∃ m, w' = w.drewN m := by
  obtain ⟨c0, c1, c2, c3, c4, c5⟩ := log_cells hx
  have hr0 : -1000000 ≤ roomD d := by unfold roomD; omega
  have hr1 : roomD d ≤ 1000000 := by unfold roomD; omega
  go_enter Try.func42, Try.ntmps42
  go_wp2_with fail
  go_quiet ((go_at_call 56; exact quiet_mine (room_any _ g gm v cap B d (hd.drew _) n0 n1)))
  go_wp2
  go_ret
  exact ⟨rfl, _, rfl⟩
theorem quiet_log {P : Program} {f : FuncId} {args : Array Value} {w : World} {n : Nat} {v : Value}
    (h : Calls P f args (w.drewN n) fun e w' => e = .returned v ∧ ∃ m, w' = (w.drewN n).drewN m) : Calls P f args (w.drewN n) fun e w'' => e = .returned v ∧ ∃ m, w'' = w.drewN m :=
  h.mono fun _ _ ⟨he, m, hm⟩ => ⟨he, n + m, by rw [hm, World.drewN_drewN]⟩
theorem recsB_bound : ∀ (rs : List (List UInt8)) (m : Nat), (∀ r ∈ rs, r.length ≤ m) → (recsB rs).length ≤ rs.length * (m + 12) := by
  intro rs m
  induction rs with
  | nil => intro _; simp [recsB]
  | cons r rs ih =>
    intro h
    have h1 := tRec_most r
    have h2 := h r (by simp)
    have h3 := ih (fun q hq => h q (by simp [hq]))
    simp only [recsB, List.length_append, List.length_cons]
    rw [Nat.succ_mul]
    omega
end Go.Proofs.Ytiighehibiijcaa

namespace Go.Proofs.Ytiighehibiijcaa
open Go.RowKit

set_option maxRecDepth 100000 in
set_option maxHeartbeats 800000 in
theorem same_len (p p' : Option Addr) (n n' c c' : Nat) (w : World) (h : n ≠ n') :
    Calls Try.prog 41 #[.slice p n c, .slice p' n' c'] w fun e w' => e = .returned (.bool false) ∧ Below w.heap.size w w' := by
  have hb : ((n : Int) != (n' : Int)) = true := by simpa using fun e => h (by omega)
  go_enter Try.func41, Try.ntmps41
  go_wp2
  go_ret
  exact ⟨rfl, Below.refl _ _⟩
set_option maxRecDepth 100000 in
set_option maxHeartbeats 800000 in
theorem same_none (p p' : Option Addr) (c c' : Nat) (w : World) :
    Calls Try.prog 41 #[.slice p 0 c, .slice p' 0 c'] w fun e w' => e = .returned (.bool true) ∧ Below w.heap.size w w' := by
  go_enter Try.func41, Try.ntmps41
  go_wp2
  refine wp_loop_rounds 1 ?_
  rw [rounds_succ]
  go_wp2
  go_ret
  exact ⟨rfl, Below.refl _ _⟩
theorem take_same {L M : List (List UInt8)} {k : Nat} (h : L.take k = M.take k) (hk : k < L.length) (hk' : k < M.length) (he : L[k] = M[k]) : L.take (k + 1) = M.take (k + 1) := by
  rw [List.take_succ_eq_append_getElem hk, List.take_succ_eq_append_getElem hk', h, he]

set_option maxRecDepth 100000 in
set_option maxHeartbeats 1600000 in
theorem same_rows (g g' : Nat) (L M : List (List UInt8)) (c c' : Nat) (w : World) (hlen : L.length = M.length) (hmax : L.length ≤ maxLen) (hg : g < w.heap.size) (hg' : g' < w.heap.size)
    (hL : ∀ i (h : i < L.length), w.cell? ⟨g, i, none⟩ = some (str L[i])) (hM : ∀ i (h : i < M.length), w.cell? ⟨g', i, none⟩ = some (str M[i])) :
    Calls Try.prog 41 #[.slice (some ⟨g, 0, none⟩) L.length c, .slice (some ⟨g', 0, none⟩) M.length c'] w fun e w' => e = .returned (.bool (sameL L M)) ∧ Below w.heap.size w w' := by
  have HL := Lib.hid hL
  have HM := Lib.hid hM
  clear hL hM
  unfold maxLen at hmax
  rw [← hlen]
  have HE := Lib.hid hlen
  clear hlen
  obtain ⟨u, hu⟩ : ∃ u, sameL L M = u := ⟨_, rfl⟩
  rw [hu]
  have HU := Lib.hid hu
  clear hu
  go_enter Try.func41, Try.ntmps41
  go_wp2
  go_loopw [5] (fun i wr => ∃ k : Nat, k ≤ L.length ∧ i = .int .i64 k ∧ L.take k = M.take k ∧ Below w.heap.size w wr) (fun i _ => L.length - (intOf i).toNat)
  case atStart => exact ⟨0, Nat.zero_le _, rfl, by simp, Below.refl _ _⟩
  case round =>
    obtain ⟨k, hk, rfl, htk, hnx⟩ := hrel
    have Htk := Lib.hid htk
    clear htk
    by_cases hlt : k < L.length
    · have hlt' : k < M.length := by have := HE.out; omega
      have c1 : wr.cell? ⟨g, k, none⟩ = some (str L[k]) := (hnx.cell (p := ⟨g, k, none⟩) hg).trans (HL.out k hlt)
      have c2 : wr.cell? ⟨g', k, none⟩ = some (str M[k]) := (hnx.cell (p := ⟨g', k, none⟩) hg').trans (HM.out k hlt')
      by_cases he : L[k] = M[k]
      · have Hstep := Lib.hid (take_same Htk.out hlt hlt' he)
        rw [← he] at c2
        obtain ⟨A, hA⟩ : ∃ A, L[k] = A := ⟨_, rfl⟩
        rw [hA] at c1 c2
        clear he hA hlt'
        go_wp2
        go_quiet (fail)
        go_wp2
        go_roundw
        case rel => exact ⟨k + 1, by omega, by go_num, Hstep.out, hnx.trans ⟨rfl, rfl, rfl, Nat.le_refl _, fun _ _ => rfl⟩⟩
        case measure => simp [intOf]; omega
      · have hS : sameL L M = false := by
          rcases hu : sameL L M with _ | _
          · rfl
          · have hLM := (sameL_eq L M).1 hu
            subst hLM
            exact absurd rfl he
        obtain rfl : u = false := by rw [← HU.out, hS]
        clear hS
        obtain ⟨A, hA⟩ : ∃ A, L[k] = A := ⟨_, rfl⟩
        obtain ⟨B, hB⟩ : ∃ B, M[k] = B := ⟨_, rfl⟩
        rw [hA] at c1 he
        rw [hB] at c2 he
        have heb : (A == B) = false := by simpa using he
        have hne : (A != B) = true := by simpa using he
        clear he hA hB hlt'
        go_wp2
        go_quiet (fail)
        go_wp2
        go_ret
        exact ⟨rfl, hnx.trans ⟨rfl, rfl, rfl, Nat.le_refl _, fun _ _ => rfl⟩⟩
    · obtain rfl : k = L.length := by omega
      have hLM : L = M := by
        have := Htk.out
        rw [List.take_length] at this
        rw [this, HE.out, List.take_length]
      obtain rfl : u = true := by rw [← HU.out, hLM, sameL_refl]
      go_wp2
      go_ret
      exact ⟨rfl, hnx⟩

theorem same_any (v v' : Value) (L M : List (List UInt8)) (B B' : Nat) (w : World) (hv : OwnS w B v L) (hv' : OwnS w B' v' M) :
    Calls Try.prog 41 #[v, v'] w fun e w' => e = .returned (.bool (sameL L M)) ∧ Below w.heap.size w w' := by
  have hm := hv.fits
  rcases hv.read with ⟨rfl, rfl⟩ | ⟨g, cap, rfl, _, h2, _, _, h5⟩ <;> rcases hv'.read with ⟨rfl, rfl⟩ | ⟨g', cap', rfl, _, k2, _, _, k5⟩
  · exact same_none _ _ _ _ w
  · cases M with
    | nil => exact same_none _ _ _ _ w
    | cons a M => exact same_len _ _ _ _ _ _ w (by simp)
  · cases L with
    | nil => exact same_none _ _ _ _ w
    | cons a L => exact same_len _ _ _ _ _ _ w (by simp)
  · by_cases he : L.length = M.length
    · exact same_rows g g' L M cap cap' w he hm h2 k2 h5 k5
    · have hS : sameL L M = false := by
        rcases hu : sameL L M with _ | _
        · rfl
        · exact absurd (congrArg List.length ((sameL_eq L M).1 hu)) he
      rw [hS]
      exact same_len _ _ _ _ _ _ w he
end Go.Proofs.Ytiighehibiijcaa

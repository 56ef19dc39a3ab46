/-
  What tlv.All returns: the field of the fields, one behind the other. For texts within the reach.
-/
import Derived.Test.YtjanmonoigpmcaaBuilder
import Derived.Test.YtjanmonoigpmcaaTlvText
import Derived.Test.YtjanmonoigpmcaaStrs
import Derived.Test.YtjanmonoigpmcaaOpenStrs
import Derived.Test.YtjanmonoigpmcaaShelf
namespace Go.Proofs.Ytjanmonoigpmcaa
open Go.RowKit

/-- The fields of texts, one behind the other. -/
def catT (c : Int) : List (List UInt8) → List UInt8
  | [] => []
  | s :: l => tText c s ++ catT c l
def tAll (c : Int) (l : List (List UInt8)) : List UInt8 := tText c (catT c l)
theorem catT_snoc (c : Int) (l : List (List UInt8)) (s : List UInt8) : catT c (l ++ [s]) = catT c l ++ tText c s := by
  induction l with
  | nil => simp [catT]
  | cons a l ih => simp [catT, ih]
theorem catT_take_le (c : Int) : ∀ (l : List (List UInt8)) (k : Nat), (catT c (l.take k)).length ≤ (catT c l).length := by
  intro l
  induction l with
  | nil => intro k; simp [catT]
  | cons a l ih =>
    intro k
    cases k with
    | zero => simp [catT]
    | succ k => have := ih k; simp only [List.take_succ_cons, catT, List.length_append]; omega
theorem catT_mem_le (c : Int) : ∀ (l : List (List UInt8)) (k : Nat) (h : k < l.length), l[k].length + 4 ≤ (catT c l).length := by
  intro l
  induction l with
  | nil => intro k h; simp at h
  | cons a l ih =>
    intro k h
    simp only [catT, List.length_append, tText_length]
    cases k with
    | zero => simp only [List.getElem_cons_zero]; omega
    | succ k =>
      have := ih k (by simp only [List.length_cons] at h; omega)
      simp only [List.getElem_cons_succ]
      omega
theorem OwnS.reads {w : World} {B : Nat} {v : Value} {L : List (List UInt8)} (h : OwnS w B v L) : ReadS w v L := by
  rcases h.read with ⟨rfl, rfl⟩ | ⟨g, cap, rfl, _, h2, h3, h4, h5⟩
  · exact ⟨Option.none, 0, rfl, by simp, by simp⟩
  · exact ⟨_, cap, rfl, by omega, fun _ => ⟨g, 0, rfl, h2, fun i hi => by rw [Nat.zero_add]; exact h5 i hi⟩⟩
theorem builder_step {T e : TypeId} {B b : Nat} {bs : List Value} {w w' : World} (h : Lib.IsBuilder T e B b bs w) (hb : Below w.heap.size w w') : Lib.IsBuilder T e B b bs w' := by
  have one : ∀ p, Lib.BuilderAt T e B b p bs w → Lib.BuilderAt T e B b p bs w' := by
    rintro p hh
    have hlt := hh.lt
    obtain ⟨h1, v, h2, h3, h4⟩ := hh
    refine ⟨h1, v, (hb.block b hlt).trans h2, ?_, h4⟩
    exact World.ownsRow.kept h3 (row := Option.none) ⟨hb.os, hb.tape, hb.output, hb.size, fun k hk _ => hb.block k hk⟩ (by
      rcases hv : v.ownBlock with _ | k
      · exact .inl rfl
      · exact .inr (by simp))
  rcases h with h | h
  · exact .inl (one _ h)
  · exact .inr (one _ h)
theorem strCells_list (l : List UInt8) : Lib.strCells ⟨l.toArray⟩ = Lib.byteCells l := by
  simp [Lib.strCells, Lib.byteCells]

set_option maxRecDepth 100000 in
set_option maxHeartbeats 1600000 in
theorem tlvAll_any (c : Int) (v : Value) (L : List (List UInt8)) (w : World) (hv : ReadS w v L) (c0 : 0 ≤ c) (c1 : c ≤ 255) (hl : (catT c L).length ≤ 16777215) :
    Calls Try.prog 20 #[.int .u8 c, v] w fun e w' => e = .returned (str (tAll c L)) ∧ Below w.heap.size w w' := by
  obtain ⟨p, cp, rfl, hmax, hcells⟩ := hv
  unfold maxLen at hmax
  have HC := Lib.hid hcells
  clear hcells
  go_enter Try.func20, Try.ntmps20
  go_wp2_with fail
  go_loopw [10] (fun i wr => ∃ k : Nat, k ≤ L.length ∧ i = .int .i64 k ∧ Lib.IsBuilder 78 5 w.heap.size w.heap.size (Lib.byteCells (catT c (L.take k))) wr ∧ Below w.heap.size w wr) (fun i _ => L.length - (intOf i).toNat)
  case atStart => exact ⟨0, Nat.zero_le _, rfl, Lib.fresh_isBuilder _ _ w, (Below.refl _ w).alloc (Nat.le_refl _) _⟩
  case round =>
    obtain ⟨k, hk, rfl, hbd, hnx⟩ := hrel
    have Hbd := Lib.hid hbd
    clear hbd
    have hsz := hnx.size
    have htl := catT_take_le c L k
    by_cases hlt : k < L.length
    · obtain ⟨b, o, rfl, hbw, hcell⟩ := HC.out (by omega)
      have c1' : wr.cell? ⟨b, o + k, none⟩ = some (str L[k]) := (hnx.cell (p := ⟨b, o + k, none⟩) hbw).trans (hcell k hlt)
      have hml := catT_mem_le c L k hlt
      have Hstep := Lib.hid (show L.take (k + 1) = L.take k ++ [L[k]] from List.take_succ_eq_append_getElem hlt)
      obtain ⟨A, hA⟩ : ∃ A, L[k] = A := ⟨_, rfl⟩
      rw [hA] at c1' Hstep hml
      clear hA hcell
      go_wp2_with fail
      refine (text_any c A _ c0 c1 (by omega)).mono ?_
      rintro e w1 ⟨rfl, hb1⟩
      have hb1' := bel_step hnx hb1
      have Hbd1 := Lib.hid (builder_step Hbd.out hb1)
      clear c1'
      go_wp2_with fail
      refine (writeString_any w.heap.size w.heap.size _ ⟨(tText c A).toArray⟩ _ Hbd1.out (by simp only [Lib.byteCells, List.length_map]; have := tText_length c A; simp [ByteArray.size] at *; omega) hb1'.size).mono ?_
      rintro e w2 ⟨rfl, hbd2, hb2⟩
      have hb2' := hb1'.trans hb2
      have Hbd2 := Lib.hid hbd2
      clear hbd2
      go_wp2
      go_roundw
      case rel =>
        refine ⟨k + 1, by omega, by go_num, ?_, hb2'⟩
        rw [Hstep.out, catT_snoc]
        have h3 := Hbd2.out
        rw [strCells_list] at h3
        exact .inr (by simpa [Lib.byteCells] using h3)
      case measure => simp [intOf]; omega
    · obtain rfl : k = L.length := by omega
      have h3 := Hbd.out
      rw [List.take_length] at h3
      have H3 := Lib.hid h3
      clear h3
      go_wp2_with fail
      refine (Try.Builder_String_any _ _ _ _ H3.out (by omega)).mono ?_
      rintro e w1 ⟨rfl, hb1⟩
      have hb1' := hnx.trans hb1
      go_wp2_with fail
      refine (text_any c (catT c L) _ c0 c1 (by omega)).mono ?_
      rintro e w2 ⟨rfl, hb2⟩
      have hb2' := bel_step hb1' hb2
      go_wp2
      go_ret
      exact ⟨rfl, hb2'⟩
end Go.Proofs.Ytjanmonoigpmcaa

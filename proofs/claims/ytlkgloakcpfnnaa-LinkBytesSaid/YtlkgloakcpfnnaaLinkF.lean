/-
  What link.Bytes and Read return, and the document's: the same; what was written is read. For texts of 40 bytes at most, and bytes within the reach.
-/
import Derived.Test.YtlkgloakcpfnnaaLinkFits
import Derived.Test.YtlkgloakcpfnnaaRefInt
import Derived.Test.YtlkgloakcpfnnaaTlvInt
import Derived.Deep.RegionHeld3
namespace Go.Proofs.Ytlkgloakcpfnnaa
open Go.RowKit

/-- An end's bytes. -/
def bytesE (e : En) : List UInt8 := tNum 115 e.1.toNat ++ (tText 111 e.2.1 ++ (tText 113 e.2.2.1 ++ tText 112 e.2.2.2))
/-- Four cells. -/
def Four (w : World) (g : Nat) (a b c d : Value) : Prop := w.cell? ⟨g, 0, none⟩ = some a ∧ w.cell? ⟨g, 1, none⟩ = some b ∧ w.cell? ⟨g, 2, none⟩ = some c ∧ w.cell? ⟨g, 3, none⟩ = some d
theorem keep4 {W w w' : World} {g : Nat} {x y z v : Value} (hb : Below w.heap.size w w') (h : w.cell? ⟨g, 0, none⟩ = some x ∧ w.cell? ⟨g, 1, none⟩ = some y ∧ w.cell? ⟨g, 2, none⟩ = some z ∧ w.cell? ⟨g, 3, none⟩ = some v ∧ Hid (Below W.heap.size W w)) :
    w'.cell? ⟨g, 0, none⟩ = some x ∧ w'.cell? ⟨g, 1, none⟩ = some y ∧ w'.cell? ⟨g, 2, none⟩ = some z ∧ w'.cell? ⟨g, 3, none⟩ = some v ∧ Hid (Below W.heap.size W w') := by
  obtain ⟨h0, h1, h2, h3, h4⟩ := h
  have hlt := World.block_lt_of_cell? w _ h0
  exact ⟨(hb.cell (p := ⟨g, 0, none⟩) hlt).trans h0, (hb.cell (p := ⟨g, 1, none⟩) hlt).trans h1, (hb.cell (p := ⟨g, 2, none⟩) hlt).trans h2, (hb.cell (p := ⟨g, 3, none⟩) hlt).trans h3, Lib.hid (bel_step h4.out hb)⟩

set_option maxRecDepth 100000 in
set_option maxHeartbeats 1600000 in
theorem bytes_any (n : Int) (a b c : List UInt8) (X : List UInt8) (w : World) (hX : bytesE (n, a, b, c) = X) (hn : n ≤ 9223372036854775807) (fa : a.length ≤ 16777215) (fb : b.length ≤ 16777215) (fc : c.length ≤ 16777215) :
    Calls Try.prog 42 #[.agg #[.int .i64 n, str a, str b, str c]] w fun e w' => e = .returned (str X) ∧ Below w.heap.size w w' := by
  have hl1 := tNum_le 115 n.toNat
  have hl2 := tText_length 111 a
  have hl3 := tText_length 113 b
  have hl4 := tText_length 112 c
  unfold bytesE at hX
  obtain ⟨P1, h1⟩ : ∃ P, tNum 115 n.toNat = P := ⟨_, rfl⟩
  obtain ⟨P2, h2⟩ : ∃ P, tText 111 a = P := ⟨_, rfl⟩
  obtain ⟨P3, h3⟩ : ∃ P, tText 113 b = P := ⟨_, rfl⟩
  obtain ⟨P4, h4⟩ : ∃ P, tText 112 c = P := ⟨_, rfl⟩
  rw [h1] at hl1 hX
  rw [h2] at hl2 hX
  rw [h3] at hl3 hX
  rw [h4] at hl4 hX
  have q1 : ¬ 9223372036854775807 < P1.length + P2.length := by omega
  have q2 : ¬ 9223372036854775807 < P1.length + P2.length + P3.length := by omega
  have q2' : ¬ 9223372036854775807 < P1.length + (P2.length + P3.length) := by omega
  have q3 : ¬ 9223372036854775807 < P1.length + (P2.length + P3.length) + P4.length := by omega
  have H1 := Lib.hid h1
  have H2 := Lib.hid h2
  have H3 := Lib.hid h3
  have H4 := Lib.hid h4
  have HX := Lib.hid hX
  clear h1 h2 h3 h4 hX hl1 hl2 hl3 hl4
  go_enter Try.func42, Try.ntmps42
  go_wp2_with fail
  have F0 := Blk.new w 35 #[.int .i64 n, str a, str b, str c]
  have hb0 := (Below.refl w.heap.size w).alloc (Nat.le_refl _) (.cells #[.int .i64 n, str a, str b, str c] 35)
  obtain ⟨d0, d1, d2, d3, -⟩ := cells4 F0
  clear F0
  generalize w.alloc (.cells #[.int .i64 n, str a, str b, str c] 35) = w1 at *
  go_region_held3 (fun w' => w'.cell? ⟨w.heap.size, 0, none⟩ = some (.int .i64 n) ∧ w'.cell? ⟨w.heap.size, 1, none⟩ = some (str a) ∧ w'.cell? ⟨w.heap.size, 2, none⟩ = some (str b) ∧ w'.cell? ⟨w.heap.size, 3, none⟩ = some (str c) ∧ Hid (Below w.heap.size w w')) (first | assumption | exact keep4 hb4 ‹_› | exact keep4 hb5 ‹_› | exact ⟨d0, d1, d2, d3, Lib.hid hb0.drew⟩) (first | (go_at_call 63; refine (int_any 115 n _ (by decide) (by decide) hn).mono ?_; rw [H1.out]; rintro e w4 ⟨rfl, hb4⟩) | (go_at_call_of 44 (str a); refine (text_any 111 a _ (by decide) (by decide) fa).mono ?_; rw [H2.out]; rintro e w5 ⟨rfl, hb5⟩) | (go_at_call_of 44 (str b); refine (text_any 113 b _ (by decide) (by decide) fb).mono ?_; rw [H3.out]; rintro e w5 ⟨rfl, hb5⟩) | (go_at_call_of 44 (str c); refine (text_any 112 c _ (by decide) (by decide) fc).mono ?_; rw [H4.out]; rintro e w5 ⟨rfl, hb5⟩))
  all_goals
    obtain ⟨-, -, -, -, hR⟩ := ‹_ ∧ _ ∧ _ ∧ _ ∧ Hid (Below _ _ _)›
    go_wp2
    go_ret
    exact ⟨by rw [← HX.out]; rfl, hR.out⟩

set_option maxRecDepth 100000 in
set_option maxHeartbeats 1600000 in
theorem refBytes_any (n : Int) (a b c : List UInt8) (X : List UInt8) (w : World) (hX : bytesE (n, a, b, c) = X) (hn : n ≤ 9223372036854775807) (fa : a.length ≤ 16777215) (fb : b.length ≤ 16777215) (fc : c.length ≤ 16777215) :
    Calls Try.prog 43 #[.agg #[.int .i64 n, str a, str b, str c]] w fun e w' => e = .returned (str X) ∧ Below w.heap.size w w' := by
  have hl1 := tNum_le 115 n.toNat
  have hl2 := tText_length 111 a
  have hl3 := tText_length 113 b
  have hl4 := tText_length 112 c
  unfold bytesE at hX
  obtain ⟨P1, h1⟩ : ∃ P, tNum 115 n.toNat = P := ⟨_, rfl⟩
  obtain ⟨P2, h2⟩ : ∃ P, tText 111 a = P := ⟨_, rfl⟩
  obtain ⟨P3, h3⟩ : ∃ P, tText 113 b = P := ⟨_, rfl⟩
  obtain ⟨P4, h4⟩ : ∃ P, tText 112 c = P := ⟨_, rfl⟩
  rw [h1] at hl1 hX
  rw [h2] at hl2 hX
  rw [h3] at hl3 hX
  rw [h4] at hl4 hX
  have q1 : ¬ 9223372036854775807 < P1.length + P2.length := by omega
  have q2 : ¬ 9223372036854775807 < P1.length + P2.length + P3.length := by omega
  have q2' : ¬ 9223372036854775807 < P1.length + (P2.length + P3.length) := by omega
  have q3 : ¬ 9223372036854775807 < P1.length + (P2.length + P3.length) + P4.length := by omega
  have H1 := Lib.hid h1
  have H2 := Lib.hid h2
  have H3 := Lib.hid h3
  have H4 := Lib.hid h4
  have HX := Lib.hid hX
  clear h1 h2 h3 h4 hX hl1 hl2 hl3 hl4
  go_enter Try.func43, Try.ntmps43
  go_wp2_with fail
  have F0 := Blk.new w 35 #[.int .i64 n, str a, str b, str c]
  have hb0 := (Below.refl w.heap.size w).alloc (Nat.le_refl _) (.cells #[.int .i64 n, str a, str b, str c] 35)
  obtain ⟨d0, d1, d2, d3, -⟩ := cells4 F0
  clear F0
  generalize w.alloc (.cells #[.int .i64 n, str a, str b, str c] 35) = w1 at *
  go_region_held3 (fun w' => w'.cell? ⟨w.heap.size, 0, none⟩ = some (.int .i64 n) ∧ w'.cell? ⟨w.heap.size, 1, none⟩ = some (str a) ∧ w'.cell? ⟨w.heap.size, 2, none⟩ = some (str b) ∧ w'.cell? ⟨w.heap.size, 3, none⟩ = some (str c) ∧ Hid (Below w.heap.size w w')) (first | assumption | exact keep4 hb4 ‹_› | exact keep4 hb5 ‹_› | exact ⟨d0, d1, d2, d3, Lib.hid hb0.drew⟩) (first | (go_at_call 64; refine (refInt_any 115 n _ (by decide) (by decide) hn).mono ?_; rw [H1.out]; rintro e w4 ⟨rfl, hb4⟩) | (go_at_call_of 65 (str a); refine (refText_any 111 a _ (by decide) (by decide) fa).mono ?_; rw [H2.out]; rintro e w5 ⟨rfl, hb5⟩) | (go_at_call_of 65 (str b); refine (refText_any 113 b _ (by decide) (by decide) fb).mono ?_; rw [H3.out]; rintro e w5 ⟨rfl, hb5⟩) | (go_at_call_of 65 (str c); refine (refText_any 112 c _ (by decide) (by decide) fc).mono ?_; rw [H4.out]; rintro e w5 ⟨rfl, hb5⟩))
  all_goals
    obtain ⟨-, -, -, -, hR⟩ := ‹_ ∧ _ ∧ _ ∧ _ ∧ Hid (Below _ _ _)›
    go_wp2
    go_ret
    exact ⟨by rw [← HX.out]; rfl, hR.out⟩

end Go.Proofs.Ytlkgloakcpfnnaa

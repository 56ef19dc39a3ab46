/-
  What the helper sector of the laws of layer 6 returns. No conditions beside those in each theorem.
-/
import Derived.Test.YtiighehibiijcaaDevK
import Derived.Lib.BufferRead
namespace Go.Proofs.Ytiighehibiijcaa
open Go.RowKit
set_option linter.unusedSimpArgs false
set_option linter.unnecessarySimpa false

/-- j bytes c, then zeros: 64 in all. -/
def rowC (c : UInt8) (j : Nat) : List UInt8 := List.replicate j c ++ List.replicate (64 - j) 0
theorem rowC_length (c : UInt8) {j : Nat} (h : j ≤ 64) : (rowC c j).length = 64 := by simp [rowC]; omega
theorem rowC_at (c : UInt8) {j : Nat} (h : j < 64) : (Lib.byteCells (rowC c j))[j]? = some (.int .u8 0) := by
  unfold rowC Lib.byteCells
  obtain ⟨m, hm⟩ : ∃ m, 64 - j = m + 1 := ⟨64 - j - 1, by omega⟩
  rw [hm]
  simp
theorem rowC_set (c : UInt8) {j : Nat} (h : j < 64) : (Lib.byteCells (rowC c j)).set j (.int .u8 c.toNat) = Lib.byteCells (rowC c (j + 1)) := by
  unfold rowC Lib.byteCells
  obtain ⟨m, hm⟩ : ∃ m, 64 - j = m + 1 := ⟨64 - j - 1, by omega⟩
  have hm2 : 64 - (j + 1) = m := by omega
  rw [hm, hm2, List.replicate_succ' (n := j)]
  simp [List.replicate_succ]
theorem row64_rowC (c : UInt8) : row64.toList = Lib.byteCells (rowC c 0) := by simp [row64, rowC, Lib.byteCells]
def secB (c : UInt8) : List UInt8 := List.replicate 64 c
theorem secB_length (c : UInt8) : (secB c).length = 64 := List.length_replicate

theorem run_str_own {P : Program} {w : World} {src dst e : TypeId} {base : Nat} {v : Value} {n : Nat} {l : List UInt8} (hs : P.underlying src = some (.slice e)) (he : P.underlying e = some (.int .u8)) (hd : P.underlying dst = some .string)
    (hown : w.ownsRow base e 1 v n (Lib.byteCells l)) : (convert src dst v).run P w = .ok (.string ⟨l.toArray⟩) w := by
  have hl : l.length = n := by have := hown.1; simpa [Lib.byteCells] using this
  rcases hown.2 with ⟨rfl, h0⟩ | ⟨g, cap, cur, rfl, hb, hg, hn, hc, hcs, htk⟩
  · have : l = [] := by cases l with
      | nil => rfl
      | cons a l => simp at hl; omega
    subst this
    exact Lib.run_convert_nil_bytes w src dst e 0 hs he hd
  · subst hl
    exact run_convert_bytes_back w src dst e ⟨g, 0, none⟩ cap l hs he hd (Lib.bytes_of_row hg (by simpa using htk))

set_option maxRecDepth 100000 in
set_option maxHeartbeats 800000 in
theorem sector_any (c : UInt8) (w : World) : Calls Try.prog 18 #[.int .u8 c.toNat] w fun e w' => e = .returned (str (secB c)) ∧ Below w.heap.size w w' := by
  have hmk := make64 w
  have HM := Lib.hid hmk
  clear hmk
  go_enter Try.func18, Try.ntmps18
  go_wp2_with (at_make; refine wpList_make_run rfl _ _ _ rfl rfl rfl HM.out ?_)
  have hown : (w.alloc (.cells row64 5)).ownsRow w.heap.size 5 1 (.slice (some ⟨w.heap.size, 0, none⟩) 64 64) 64 (Lib.byteCells (rowC c 0)) := by
    rw [← row64_rowC]
    exact World.ownsRow_lit w _ 64 (Nat.le_refl _) (by unfold maxLen; omega) (by simp [row64])
  have hn2 : Below w.heap.size w (w.alloc (.cells row64 5)) := (Below.refl _ _).alloc (Nat.le_refl _) _
  obtain ⟨g, hg⟩ : ∃ g, g = w.heap.size := ⟨_, rfl⟩
  rw [← hg] at hown ⊢
  have hgB : w.heap.size ≤ g := by omega
  clear HM hg
  go_loopw [4] (fun i wr => ∃ j : Nat, j ≤ 64 ∧ i = .int .i64 j ∧ wr.ownsRow g 5 1 (.slice (some ⟨g, 0, none⟩) 64 64) 64 (Lib.byteCells (rowC c j)) ∧ Below w.heap.size w wr)
    (fun i _ => 64 - (intOf i).toNat)
  case atStart => exact ⟨0, Nat.zero_le _, rfl, hown, hn2⟩
  case round =>
    obtain ⟨j, hj, rfl, hown, hnx⟩ := hrel
    have Hown := Lib.hid hown
    by_cases hlt : j < 64
    · have hc := hown.cellAt j (by omega)
      rw [rowC_at _ hlt] at hc
      have hf := hown.frozenAt j
      have hji : (j : Int) < 64 := by omega
      clear hown
      go_wp2
      go_roundw
      case rel => exact ⟨j + 1, by omega, by go_num, by have := (Hown.out.stored j (.int .u8 c.toNat)).1; rw [rowC_set _ hlt] at this; exact this, hnx.setCell hgB _⟩
      case measure => simp [intOf]; omega
    · obtain rfl : j = 64 := by omega
      have kc := run_str_own (P := Try.prog) (w := wr) (v := .slice (some ⟨g, 0, none⟩) 64 64) (src := 40) (dst := 9) Try.underlying40 Try.underlying5 Try.underlying9 hown
      clear hown
      go_wp2_with fail
      go_ret
      exact ⟨by simp [rowC, secB], hnx⟩
end Go.Proofs.Ytiighehibiijcaa

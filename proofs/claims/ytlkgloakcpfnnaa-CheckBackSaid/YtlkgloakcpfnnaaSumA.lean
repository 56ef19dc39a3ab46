/-
  What check.Sum and its closure compute: the two halves of the sum, for any text within the reach. No conditions beside those in each theorem.
-/
import Derived.Test.YtlkgloakcpfnnaaTlvNum
namespace Go.Proofs.Ytlkgloakcpfnnaa
open Go.RowKit

/-- One byte more in a sum's two halves. -/
def addOn (p : Int × Int) (c : UInt8) : Int × Int := ((p.1 + c.toNat) % 65521, (p.2 + (p.1 + c.toNat)) % 65521)
def halves (l : List UInt8) : Int × Int := l.foldl addOn (1, 0)
theorem halves_nil : halves [] = (1, 0) := rfl
theorem halves_snoc (l : List UInt8) (c : UInt8) : halves (l ++ [c]) = addOn (halves l) c := by simp [halves, List.foldl_append]
theorem addOn_bounds (p : Int × Int) (c : UInt8) : 0 ≤ (addOn p c).1 ∧ (addOn p c).1 ≤ 65520 ∧ 0 ≤ (addOn p c).2 ∧ (addOn p c).2 ≤ 65520 := by unfold addOn; simp only; omega
theorem halves_bounds (l : List UInt8) : 0 ≤ (halves l).1 ∧ (halves l).1 ≤ 65520 ∧ 0 ≤ (halves l).2 ∧ (halves l).2 ≤ 65520 := by
  rcases List.eq_nil_or_concat l with rfl | ⟨l, c, rfl⟩
  · rw [halves_nil]; decide
  · rw [List.concat_eq_append, halves_snoc]; exact addOn_bounds _ _
/-- A text's sum. -/
def sumN (l : List UInt8) : Int := (halves l).2 * 65536 + (halves l).1
theorem sumN_bounds (l : List UInt8) : 0 ≤ sumN l ∧ sumN l ≤ 4294967295 := by have := halves_bounds l; unfold sumN; omega

theorem or_low (i a b : Nat) (h : b < 2 ^ i) : a * 2 ^ i ||| b = a * 2 ^ i + b := by
  rw [Nat.mul_comm, Nat.two_pow_add_eq_or_of_lt h]
theorem or_sum (a b : Int) (a0 : 0 ≤ a) (a1 : a ≤ 65535) (b0 : 0 ≤ b) (b1 : b ≤ 65535) : bits BinOp.or IntKind.u32 (a * 65536) b = a * 65536 + b := by
  obtain ⟨a, rfl⟩ := Int.eq_ofNat_of_zero_le a0
  obtain ⟨b, rfl⟩ := Int.eq_ofNat_of_zero_le b0
  have h := u32_or_nat (a * 65536) b (by omega) (by omega)
  rw [show a * 65536 ||| b = a * 65536 + b from or_low 16 a b (by omega)] at h
  rw [show ((a : Int) * 65536) = ((a * 65536 : Nat) : Int) by omega, h]
  omega

set_option maxHeartbeats 400000 in
theorem sum1_any (c : UInt8) (a b : Int) (ga gb : Nat) (w : World) (a0 : 0 ≤ a) (a1 : a ≤ 65520) (b0 : 0 ≤ b) (b1 : b ≤ 65520)
    (hA : w.heap[ga]? = some (.cells #[.int .u32 a] 28 (0, 0))) (hB : w.heap[gb]? = some (.cells #[.int .u32 b] 28 (0, 0))) (hne : ga ≠ gb) :
    Calls Try.prog 47 #[.int .u8 c.toNat, .pointer (some ⟨ga, 0, none⟩), .pointer (some ⟨gb, 0, none⟩)] w fun e w' =>
      e = .returned (.tuple #[]) ∧ (w.setCell ⟨ga, 0, none⟩ (.int .u32 (addOn (a, b) c).1)).setCell ⟨gb, 0, none⟩ (.int .u32 (addOn (a, b) c).2) = w' := by
  have hc : (c.toNat : Int) < 256 := by have := c.toNat_lt; omega
  have cA := cell_of_one hA
  have cB := cell_of_one hB
  have fA := free_of_one hA
  have fB := free_of_one hB
  have hne' : gb ≠ ga := fun h => hne h.symm
  clear hA hB
  go_enter Try.func47, Try.ntmps47
  go_wp2
  go_end0
  exact ⟨rfl, rfl⟩

theorem take_snoc (l : List UInt8) (k : Nat) (h : k < l.length) : l.take (k + 1) = l.take k ++ [l[k]] := by
  rw [List.take_succ_eq_append_getElem h]

theorem heap_new_at {w : World} {n : Nat} (h : n = w.heap.size) (o : Obj) : (w.alloc o).heap[n]? = some o := by subst h; exact heap_alloc_new _ _

set_option maxHeartbeats 400000 in
theorem sum_any (l : List UInt8) (w : World) (hl : l.length ≤ 140737488351232) :
    Calls Try.prog 18 #[str l] w fun e w' => e = .returned (.int .u32 (sumN l)) ∧ Below w.heap.size w w' := by
  go_enter Try.func18, Try.ntmps18
  go_wp2
  go_loopw [10] (fun i wr => ∃ k : Nat, k ≤ l.length ∧ i = .int .i64 k ∧ wr.heap[w.heap.size]? = some (.cells #[.int .u32 (halves (l.take k)).1] 28 (0, 0)) ∧
      wr.heap[w.heap.size + 1]? = some (.cells #[.int .u32 (halves (l.take k)).2] 28 (0, 0)) ∧ Below w.heap.size w wr)
    (fun i _ => l.length - (intOf i).toNat)
  case atStart =>
    refine ⟨0, Nat.zero_le _, rfl, ?_, ?_, ((Below.refl _ _).alloc (Nat.le_refl _) _).alloc (by simp) _⟩
    · rw [Below.heap_alloc _ _ _ (by simp)]
      exact heap_alloc_new _ _
    · exact heap_new_at (by simp) _
  case round =>
    obtain ⟨k, hk, rfl, hA, hB, hnx⟩ := hrel
    have hb := halves_bounds (l.take k)
    by_cases hlt : k < l.length
    · have hts := take_snoc l k hlt
      have Hts := Lib.hid hts
      clear hts
      have HA := Lib.hid hA
      have HB := Lib.hid hB
      clear hA hB
      go_wp2_with (go_at_call 47; refine (sum1_any l[k] _ _ w.heap.size (w.heap.size + 1) wr hb.1 hb.2.1 hb.2.2.1 hb.2.2.2 HA.out HB.out (by omega)).mono ?_; rintro e w1 ⟨rfl, rfl⟩)
      go_roundw
      case rel =>
        refine ⟨k + 1, by omega, by go_num, ?_, ?_, (hnx.setCell (Nat.le_refl _) _).setCell (Nat.le_succ _) _⟩
        · rw [Below.heap_setCell _ _ _ _ (by simp), Hts.out, halves_snoc]
          exact one_setCell HA.out
        · rw [Hts.out, halves_snoc]
          exact one_setCell (b := w.heap.size + 1) ((Below.heap_setCell wr ⟨w.heap.size, 0, none⟩ _ (w.heap.size + 1) (by simp)).trans HB.out)
      case measure => simp [intOf]; omega
    · obtain rfl : k = l.length := by omega
      rw [List.take_length] at hA hB hb
      have cA := cell_of_one hA
      have cB := cell_of_one hB
      clear hA hB
      go_wp2
      go_ret
      exact ⟨by unfold sumN; rw [← or_sum _ _ hb.2.2.1 (by omega) hb.1 (by omega)]; rfl, hnx⟩
end Go.Proofs.Ytlkgloakcpfnnaa

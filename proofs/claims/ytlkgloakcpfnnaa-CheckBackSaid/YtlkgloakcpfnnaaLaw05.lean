/-
  The helpers short and awake of the statements of layer 5. No conditions beside those in each theorem.
-/
import Derived.Test.YtlkgloakcpfnnaaCheckPut
import Derived.Test.YtlkgloakcpfnnaaMasks
namespace Go.Proofs.Ytlkgloakcpfnnaa
open Go.RowKit

theorem tRec_length (s : List UInt8) : 9 + s.length ≤ (tRec s).length + 1 ∧ (tRec s).length ≤ s.length + 16 := by
  unfold tRec
  have := tNum_le 83 (sumN (tText 82 s)).toNat
  have := tNum_length 83 (sumN (tText 82 s)).toNat
  rw [List.length_append, tText_length]
  omega

set_option maxHeartbeats 400000 in
theorem short05_any (s : List UInt8) (n : Nat) (w : World) :
    Calls Try.prog 15 #[str s, .int .i64 n] w fun e w' => e = .returned (str (s.take n)) ∧ w = w' := by
  by_cases h : n < s.length
  · go_enter Try.func15, Try.ntmps15
    go_wp2
    go_ret
    exact ⟨rfl, rfl⟩
  · have e := List.take_of_length_le (l := s) (i := n) (by omega)
    have E := Lib.hid e
    clear e
    go_enter Try.func15, Try.ntmps15
    go_wp2
    go_ret
    exact ⟨by rw [E.out]; rfl, rfl⟩

set_option maxHeartbeats 400000 in
theorem awake05_any (w : World) :
    Calls Try.prog 14 #[] w fun e w' => e = .returned (.bool true) ∧ Below w.heap.size w w' := by
  have hl := tRec_length [120]
  have hl' : 5 < (tRec [120]).length := by simp at hl; omega
  clear hl
  go_enter Try.func14, Try.ntmps14
  go_wp2_with fail
  refine (put_any [120] _ (by decide)).mono ?_
  rintro e w1 ⟨rfl, hb1⟩
  go_wp2_with fail
  refine (sum_any [] _ (by decide)).mono ?_
  rw [show sumN [] = 1 from rfl]
  rintro e w2 ⟨rfl, hb2⟩
  go_wp2_with fail
  refine (sum_any [87, 105, 107, 105, 112, 101, 100, 105, 97] _ (by decide)).mono ?_
  rw [show sumN [87, 105, 107, 105, 112, 101, 100, 105, 97] = 300286872 by decide]
  rintro e w3 ⟨rfl, hb3⟩
  go_wp2
  go_ret
  exact ⟨rfl, (hb1.trans (hb2.mono hb1.size)).trans (hb3.mono (Nat.le_trans hb1.size hb2.size))⟩
end Go.Proofs.Ytlkgloakcpfnnaa

/-
  What tlv.Int and the reference Int return: a number's field, of 0 where it is below. No conditions beside those in each theorem.
-/
import Derived.Test.YtlkgloakcpfnnaaRefNum
namespace Go.Proofs.Ytlkgloakcpfnnaa
open Go.RowKit

set_option maxHeartbeats 800000 in
theorem int_any (c n : Int) (w : World) (c0 : 0 ≤ c) (c1 : c ≤ 255) (hn : n ≤ 9223372036854775807) :
    Calls Try.prog 63 #[.int .u8 c, .int .i64 n] w fun e w' => e = .returned (str (tNum c n.toNat)) ∧ Below w.heap.size w w' := by
  by_cases h : n < 0
  · have h0 : n.toNat = 0 := by omega
    rw [h0]
    clear h0
    go_enter Try.func63, Try.ntmps63
    go_wp2_with fail
    refine (num_any c 0 _ c0 c1 (by decide)).mono ?_
    rintro e w1 ⟨rfl, hb⟩
    go_wp2
    go_ret
    exact ⟨rfl, hb⟩
  · obtain ⟨k, rfl⟩ := Int.eq_ofNat_of_zero_le (show 0 ≤ n by omega)
    rw [Int.toNat_natCast]
    have hk : (k : Int) ≤ 9223372036854775807 := by omega
    go_enter Try.func63, Try.ntmps63
    go_wp2_with fail
    refine (num_any c k _ c0 c1 (by omega)).mono ?_
    rintro e w1 ⟨rfl, hb⟩
    go_wp2
    go_ret
    exact ⟨rfl, hb⟩
set_option maxHeartbeats 800000 in
theorem refInt_any (c n : Int) (w : World) (c0 : 0 ≤ c) (c1 : c ≤ 255) (hn : n ≤ 9223372036854775807) :
    Calls Try.prog 64 #[.int .u8 c, .int .i64 n] w fun e w' => e = .returned (str (tNum c n.toNat)) ∧ Below w.heap.size w w' := by
  by_cases h : n < 0
  · have h0 : n.toNat = 0 := by omega
    rw [h0]
    clear h0
    go_enter Try.func64, Try.ntmps64
    go_wp2_with fail
    refine (refNum_any c 0 _ c0 c1 (by decide)).mono ?_
    rintro e w1 ⟨rfl, hb⟩
    go_wp2
    go_ret
    exact ⟨rfl, hb⟩
  · obtain ⟨k, rfl⟩ := Int.eq_ofNat_of_zero_le (show 0 ≤ n by omega)
    rw [Int.toNat_natCast]
    have hk : (k : Int) ≤ 9223372036854775807 := by omega
    go_enter Try.func64, Try.ntmps64
    go_wp2_with fail
    refine (refNum_any c k _ c0 c1 (by omega)).mono ?_
    rintro e w1 ⟨rfl, hb⟩
    go_wp2
    go_ret
    exact ⟨rfl, hb⟩
end Go.Proofs.Ytlkgloakcpfnnaa

/-
  What check.Put and the reference Put, record and Sum return, for a body of at most 2^20 bytes. No conditions beside those in each theorem.
-/
import Derived.Test.YtlkgloakcpfnnaaSumA
import Derived.Test.YtlkgloakcpfnnaaRefNum
namespace Go.Proofs.Ytlkgloakcpfnnaa
open Go.RowKit

theorem addOn_snd (p : Int × Int) (c : UInt8) : (addOn p c).2 = (p.2 + (p.1 + c.toNat) % 65521) % 65521 := by unfold addOn; simp

set_option maxHeartbeats 400000 in
theorem refSum_any (l : List UInt8) (w : World) (hl : l.length ≤ 140737488351232) :
    Calls Try.prog 19 #[str l] w fun e w' => e = .returned (.int .u32 (sumN l)) ∧ w = w' := by
  go_enter Try.func19, Try.ntmps19
  go_wp2
  go_loop [3, 4, 5] (fun a b i => ∃ k : Nat, k ≤ l.length ∧ i = .int .i64 k ∧ a = .int .u32 (halves (l.take k)).1 ∧ b = .int .u32 (halves (l.take k)).2)
    (fun _ _ i => l.length - (intOf i).toNat)
  case atStart => exact ⟨0, Nat.zero_le _, rfl, rfl, rfl⟩
  case round =>
    obtain ⟨k, hk, rfl, rfl, rfl⟩ := hrel
    have hb := halves_bounds (l.take k)
    by_cases hlt : k < l.length
    · have hts := take_snoc l k hlt
      have Hts := Lib.hid hts
      clear hts
      have hc : (l[k].toNat : Int) < 256 := by have := l[k].toNat_lt; omega
      go_wp2
      go_round
      case rel => exact ⟨k + 1, by omega, by go_num, by rw [Hts.out, halves_snoc]; rfl, by rw [Hts.out, halves_snoc, addOn_snd]⟩
      case measure => simp [intOf]; omega
    · obtain rfl : k = l.length := by omega
      rw [List.take_length] at *
      go_wp2
      go_ret
      exact ⟨rfl, rfl⟩

/-- A record. -/
def tRec (s : List UInt8) : List UInt8 := tText 82 s ++ tNum 83 (sumN (tText 82 s)).toNat
theorem sum_toNat (l : List UInt8) : ((sumN l).toNat : Int) = sumN l := by have := sumN_bounds l; omega
theorem sum_lt (l : List UInt8) : (sumN l).toNat < 256 ^ 8 := by have := sumN_bounds l; omega

set_option maxHeartbeats 400000 in
theorem refRecord_any (s : List UInt8) (w : World) (hs : s.length ≤ 16777215) :
    Calls Try.prog 46 #[str s] w fun e w' => e = .returned (str (tRec s)) ∧ Below w.heap.size w w' := by
  have hl := tText_length 82 s
  have Hl := Lib.hid hl
  clear hl
  have hn := tNum_le 83 (sumN (tText 82 s)).toNat
  have hb := sumN_bounds (tText 82 s)
  go_enter Try.func46, Try.ntmps46
  go_wp2_with fail
  refine (refText_any 82 s _ (by decide) (by decide) hs).mono ?_
  rintro e w1 ⟨rfl, hb1⟩
  go_wp2_with fail
  refine (refSum_any (tText 82 s) _ (by rw [Hl.out]; omega)).mono ?_
  rintro e w2 ⟨rfl, rfl⟩
  go_wp2_with fail
  rw [← sum_toNat]
  refine (refNum_any 83 (sumN (tText 82 s)).toNat _ (by decide) (by decide) (sum_lt _)).mono ?_
  rintro e w2 ⟨rfl, hb2⟩
  go_wp2
  go_ret
  exact ⟨rfl, hb1.trans (hb2.mono hb1.size)⟩

set_option maxHeartbeats 400000 in
theorem refPut_any (s : List UInt8) (w : World) (hs : s.length ≤ 1048576) :
    Calls Try.prog 17 #[str s] w fun e w' => e = .returned (.tuple #[str (tRec s), .int .i64 0]) ∧ Below w.heap.size w w' := by
  go_enter Try.func17, Try.ntmps17
  go_wp2_with fail
  refine (refRecord_any s _ (by omega)).mono ?_
  rintro e w1 ⟨rfl, hb1⟩
  go_wp2
  go_ret2
  exact ⟨rfl, hb1⟩

set_option maxHeartbeats 400000 in
theorem put_any (s : List UInt8) (w : World) (hs : s.length ≤ 1048576) :
    Calls Try.prog 16 #[str s] w fun e w' => e = .returned (.tuple #[str (tRec s), .int .i64 0]) ∧ Below w.heap.size w w' := by
  have hl := tText_length 82 s
  have Hl := Lib.hid hl
  clear hl
  have hn := tNum_le 83 (sumN (tText 82 s)).toNat
  have hb := sumN_bounds (tText 82 s)
  go_enter Try.func16, Try.ntmps16
  go_wp2_with fail
  refine (text_any 82 s _ (by decide) (by decide) (by omega)).mono ?_
  rintro e w1 ⟨rfl, hb1⟩
  go_wp2_with fail
  refine (sum_any (tText 82 s) _ (by rw [Hl.out]; omega)).mono ?_
  rintro e w2 ⟨rfl, hb2⟩
  go_wp2_with fail
  rw [← sum_toNat]
  refine (num_any 83 (sumN (tText 82 s)).toNat _ (by decide) (by decide) (sum_lt _)).mono ?_
  rintro e w3 ⟨rfl, hb3⟩
  go_wp2
  go_ret2
  exact ⟨rfl, (hb1.trans (hb2.mono hb1.size)).trans (hb3.mono (Nat.le_trans hb1.size hb2.size))⟩
end Go.Proofs.Ytlkgloakcpfnnaa

/-
  The helpers short, few and awake of the statements of layer 1. No conditions beside those in each theorem.
-/
import Derived.Test.YtjanmonoigpmcaaReadNum
import Derived.Test.YtjanmonoigpmcaaOpenStrs
import Derived.Test.YtjanmonoigpmcaaStrs
namespace Go.Proofs.Ytjanmonoigpmcaa
open Go.RowKit

set_option maxHeartbeats 400000 in
theorem short01_any (s : List UInt8) (n : Nat) (w : World) :
    Calls Try.prog 16 #[str s, .int .i64 n] w fun e w' => e = .returned (str (s.take n)) ∧ w = w' := by
  by_cases h : n < s.length
  · go_enter Try.func16, Try.ntmps16
    go_wp2
    go_ret
    exact ⟨rfl, rfl⟩
  · have e := List.take_of_length_le (l := s) (i := n) (by omega)
    have E := Lib.hid e
    clear e
    go_enter Try.func16, Try.ntmps16
    go_wp2
    go_ret
    exact ⟨by rw [E.out]; rfl, rfl⟩

set_option maxRecDepth 100000 in
set_option maxHeartbeats 800000 in
theorem awake01_any (w : World) :
    Calls Try.prog 15 #[] w fun e w' => e = .returned (.bool true) ∧ Below w.heap.size w w' := by
  have hr : rNum 110 ([110, 0, 0, 1, 0], false) = (0, [], true) := by decide
  have h1 : tNum 110 300 = [110, 0, 0, 2, 1, 44] := by decide
  have h2 : tText 116 [97, 98] = [116, 0, 0, 2, 97, 98] := by decide
  have HR := Lib.hid hr
  have H1 := Lib.hid h1
  have H2 := Lib.hid h2
  clear hr h1 h2
  go_enter Try.func15, Try.ntmps15
  go_wp2_with fail
  refine (read_any [110, 0, 0, 1, 0] _).mono ?_
  rintro e w1 ⟨rfl, rfl⟩
  go_wp2_with fail
  refine (readNum_any [110, 0, 0, 1, 0] false 110 _ _ (read_isRd _ w) (by decide) (by decide) (by decide) 0 [] true HR.out).mono ?_
  rintro e w2 ⟨rfl, hr2, hu2⟩
  have hb2 := (((Below.refl w.heap.size w).alloc (Nat.le_refl _) _).trans (upd_below hu2 (by simp) (Nat.le_refl _)))
  have Hr2 := Lib.hid hr2
  clear hr2 hu2
  go_wp2_with fail
  refine (num_any 110 300 _ (by decide) (by decide) (by decide)).mono ?_
  rw [H1.out]
  rintro e w3 ⟨rfl, hb3⟩
  have hb3' := bel_step hb2 hb3
  have Hr3 := Lib.hid (Blk.step Hr2.out hb3)
  go_wp2_with fail
  refine (text_any 116 [97, 98] _ (by decide) (by decide) (by decide)).mono ?_
  rw [H2.out]
  rintro e w4 ⟨rfl, hb4⟩
  have hb4' := bel_step hb3' hb4
  have Hr4 := Lib.hid (Blk.step Hr3.out hb4)
  go_wp2_with fail
  refine (end_any [] true _ _ Hr4.out).mono ?_
  rintro e w5 ⟨rfl, rfl⟩
  rw [show rEnd ([], true) = 10 by decide]
  go_wp2
  go_ret
  exact ⟨rfl, hb4'⟩

/-- The first 8 of them, each of 30 bytes at most. -/
def few30 (L : List (List UInt8)) (k : Nat) : List (List UInt8) := (L.take k).map fun s => s.take 30
theorem few30_le (L : List (List UInt8)) (k : Nat) : ∀ b ∈ few30 L k, b.length ≤ 30 := by
  intro b hb
  unfold few30 at hb
  obtain ⟨s, _, rfl⟩ := List.mem_map.1 hb
  rw [List.length_take]
  omega
theorem few30_length (L : List (List UInt8)) (k : Nat) (h : k ≤ L.length) : (few30 L k).length = k := by
  simp [few30]
  omega
theorem few30_step (L : List (List UInt8)) (k : Nat) (h : k < L.length) : few30 L (k + 1) = few30 L k ++ [L[k].take 30] := by
  unfold few30
  rw [List.take_succ_eq_append_getElem h, List.map_append]
  rfl
theorem few30_most (L : List (List UInt8)) : (few30 L 8).length ≤ 8 := by simp [few30]; omega
theorem few30_end (L : List (List UInt8)) (k : Nat) (h : L.length ≤ k) : few30 L k = few30 L L.length := by
  unfold few30
  rw [List.take_of_length_le h, List.take_length]

set_option maxRecDepth 100000 in
set_option maxHeartbeats 1600000 in
theorem few01_any (v : Value) (L : List (List UInt8)) (w : World) (hv : ReadS w v L) :
    Calls Try.prog 19 #[v] w fun e w' => ∃ v', e = .returned v' ∧ OwnS w' w.heap.size v' (few30 L 8) ∧ Below w.heap.size w w' := by
  obtain ⟨i0, hi, hz0, hz1, hz2⟩ := info_parts Try.infoStr
  obtain ⟨p, c, rfl, hmax, hcells⟩ := hv
  unfold maxLen at hmax
  have HC := Lib.hid hcells
  clear hcells
  obtain ⟨R, hR⟩ : ∃ R, few30 L 8 = R := ⟨_, rfl⟩
  rw [hR]
  have HR := Lib.hid hR
  clear hR
  go_enter Try.func19, Try.ntmps19
  go_wp2_with fail
  go_loopw [3, 4] (fun m i wr => ∃ k : Nat, k ≤ L.length ∧ k ≤ 8 ∧ i = .int .i64 k ∧ OwnS wr w.heap.size m (few30 L k) ∧ Below w.heap.size w wr) (fun _ i _ => 8 - (intOf i).toNat)
  case atStart => exact ⟨0, Nat.zero_le _, by omega, rfl, OwnS.none _ _, Below.refl _ _⟩
  case round =>
    obtain ⟨k, hk, hk8, rfl, hown, hnx⟩ := hrel
    have Hown := Lib.hid hown
    clear hown
    have hsz := hnx.size
    by_cases hlt : k < L.length
    · by_cases hlt8 : k < 8
      · obtain ⟨b, o, rfl, hbw, hcell⟩ := HC.out (by omega)
        have c1 : wr.cell? ⟨b, o + k, none⟩ = some (str L[k]) := (hnx.cell (p := ⟨b, o + k, none⟩) hbw).trans (hcell k hlt)
        have Hstep := Lib.hid (few30_step L k hlt)
        have hcl := few30_length L k hk
        obtain ⟨A, hA⟩ : ∃ A, L[k] = A := ⟨_, rfl⟩
        rw [hA] at c1 Hstep
        obtain ⟨M, hM⟩ : ∃ M, few30 L k = M := ⟨_, rfl⟩
        rw [hM] at Hown Hstep hcl
        obtain ⟨B, hB⟩ : ∃ B, A.take 30 = B := ⟨_, rfl⟩
        rw [hB] at Hstep
        have HB := Lib.hid hB
        clear hA hM hB hcell
        go_wp2_with fail
        refine (short01_any A 30 _).mono ?_
        rw [HB.out]
        rintro e w2 ⟨rfl, rfl⟩
        clear c1
        go_wp2_with (at_builtin; refine wpList_append_own _ rfl _ _ 25 rfl w.heap.size 9 i0 (.string ByteArray.empty) 1 16 Try.underlying25 hi hz0 hz1 hz2 rfl (by decide) _ _ _ rfl (Hown.out.alloc _) ⟨wr.heap.size, 0, none⟩ 1 1 [str B] rfl rfl (cell_one_new _ _ _) (by simp [Value.oneCell']) (by unfold maxLen; omega) (by omega) (by simp; omega) ?_; intro v' w6 hown' hgrow _)
        have hb6 := (hnx.alloc hsz (.cells #[str B] 9)).grown hgrow (by simp; omega) (fun k hk => (Hown.out.lt k hk).1)
        go_roundw
        case rel => exact ⟨k + 1, by omega, by omega, by go_num, by rw [Hstep.out]; exact OwnS.push hown', hb6⟩
        case measure => simp [intOf]; omega
      · obtain rfl : k = 8 := by omega
        have ho := Hown.out
        rw [HR.out] at ho
        have Ho := Lib.hid ho
        clear ho
        go_wp2
        go_ret
        exact ⟨_, rfl, Ho.out, hnx⟩
    · have ho := Hown.out
      rw [show few30 L k = R by rw [← HR.out, few30_end L k (by omega), few30_end L 8 (by omega)]] at ho
      have Ho := Lib.hid ho
      clear ho
      go_wp2
      go_ret
      exact ⟨_, rfl, Ho.out, hnx⟩
end Go.Proofs.Ytjanmonoigpmcaa

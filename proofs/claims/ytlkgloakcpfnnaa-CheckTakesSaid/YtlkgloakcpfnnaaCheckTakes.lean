/-
  The walk of CheckTakes: it returns true for every text. No conditions beside those in each theorem.
-/
import Derived.Test.YtlkgloakcpfnnaaRefAll
import Derived.Test.YtlkgloakcpfnnaaSame
import Derived.Test.YtlkgloakcpfnnaaCheckSums
namespace Go.Proofs.Ytlkgloakcpfnnaa
open Go.RowKit

set_option maxRecDepth 100000 in
set_option maxHeartbeats 1600000 in
theorem checkTakes_walk (s : List UInt8) (w : World) :
    Calls Try.prog 10 #[str s] w fun e w' => e = .returned (.bool true) ∧ Below w.heap.size w w' := by
  obtain ⟨S, hS⟩ : ∃ S, S = s.take 400 := ⟨_, rfl⟩
  have hSl : S.length ≤ 400 := by rw [hS, List.length_take]; omega
  have HS := Lib.hid hS
  clear hS
  obtain ⟨⟨t, n, er⟩, ht⟩ : ∃ q, takeR S = q := ⟨_, rfl⟩
  have HT := Lib.hid ht
  obtain ⟨⟨R, N⟩, hR⟩ : ∃ q, allR S = q := ⟨_, rfl⟩
  have HR := Lib.hid hR
  clear ht hR
  go_enter Try.func10, Try.ntmps10
  go_wp2_with fail
  refine (awake05_any _).mono ?_
  rintro e w1 ⟨rfl, hb1⟩
  go_wp2_with fail
  refine (short05_any s 400 _).mono ?_
  rw [← HS.out]
  rintro e w2 ⟨rfl, rfl⟩
  go_wp2_with fail
  refine (take_any S t n er _ HT.out (by omega)).mono ?_
  rintro e w3 ⟨rfl, hb3⟩
  have hb3' := bel_step hb1 hb3
  go_wp2_with fail
  refine (refTake_any S t n er _ HT.out (by omega)).mono ?_
  rintro e w4 ⟨rfl, hb4⟩
  have hb4' := bel_step hb3' hb4
  go_wp2_with fail
  refine (all_any S _ (by omega)).mono ?_
  rw [HR.out]
  rintro e w5 ⟨v, rfl, hown, hb5⟩
  have hb5' := bel_step hb4' hb5
  have Hown := Lib.hid hown
  clear hown
  go_wp2_with fail
  refine (refAll_any S _ (by omega)).mono ?_
  rw [HR.out]
  rintro e w6 ⟨v', rfl, hown', hb6⟩
  have hb6' := bel_step hb5' hb6
  have Hown1 := Lib.hid (Hown.out.step hb6)
  have Hown' := Lib.hid hown'
  clear hown'
  go_wp2_with fail
  refine (same_any v v' R R _ _ _ Hown1.out Hown'.out).mono ?_
  rw [sameL_refl]
  rintro e w7 ⟨rfl, hb7⟩
  have hb7' := bel_step hb6' hb7
  clear hb1 hb3 hb4 hb5 hb6 hb7 hb3' hb4' hb5' hb6' Hown Hown1 Hown'
  go_wp2
  go_ret
  exact ⟨rfl, hb7'⟩
end Go.Proofs.Ytlkgloakcpfnnaa

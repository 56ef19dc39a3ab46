/-
  The walk of TlvNests: it returns true for every texts. No conditions beside those in each theorem.
-/
import Derived.Test.YtjanmonoigpmcaaTlvBack
namespace Go.Proofs.Ytjanmonoigpmcaa
open Go.RowKit

theorem reads_two {w : World} {g cp : Nat} {S : List UInt8} (h : Blk w g 9 #[str S, str S]) : ReadS w (.slice (some ⟨g, 0, none⟩) 2 cp) [S, S] := by
  refine ⟨_, _, rfl, by show 2 ≤ maxLen; decide, fun _ => ⟨g, 0, rfl, h.lt, ?_⟩⟩
  intro i hi
  rw [Nat.zero_add, h.cell i]
  match i, hi with
  | 0, _ => rfl
  | 1, _ => rfl

set_option maxRecDepth 100000 in
set_option maxHeartbeats 3200000 in
theorem tlvNests_walk (v : Value) (L : List (List UInt8)) (w : World) (hv : ReadS w v L) :
    Calls Try.prog 11 #[v] w fun e w' => e = .returned (.bool true) ∧ Below w.heap.size w w' := by
  obtain ⟨M, hM⟩ : ∃ M, few30 L 8 = M := ⟨_, rfl⟩
  have hMl : M.length ≤ 8 := by rw [← hM]; exact few30_most L
  have hMb : ∀ b ∈ M, b.length ≤ 30 := by rw [← hM]; exact few30_le L 8
  have hcl : (catT 97 M).length ≤ 272 := by rw [catT_length]; have := sumT_le _ 30 hMb; omega
  obtain ⟨S, hS⟩ : ∃ S, tAll 97 M = S := ⟨_, rfl⟩
  have hSl : S.length ≤ 276 := by rw [← hS]; unfold tAll; rw [tText_length]; omega
  have hc2 : (catT 98 [S, S]).length ≤ 560 := by rw [catT_length]; simp [sumT]; omega
  obtain ⟨T, hT⟩ : ∃ T, tAll 98 [S, S] = T := ⟨_, rfl⟩
  have hTl : T.length ≤ 564 := by rw [← hT]; unfold tAll; rw [tText_length]; omega
  obtain ⟨U, hU⟩ : ∃ U, tText 99 T = U := ⟨_, rfl⟩
  have hUl : U.length ≤ 568 := by rw [← hU, tText_length]; omega
  have HR1 := Lib.hid (show rText 99 100000 (U ++ U, false) = (T, U, false) by rw [← hU]; exact rText_back 99 100000 T _ (by decide) (by decide) (by omega) (by omega))
  have HR2 := Lib.hid (show rAll 98 2 100000 (T, false) = ([S, S], [], false) by
    have := rAll_back 98 2 100000 [S, S] [] (by decide) (by decide) (fun b hb => by simp at hb; subst hb; omega) (fun b hb => by simp at hb; subst hb; omega) (by omega) (by show ((2 : Nat) : Int) ≤ 2; decide)
    rwa [List.append_nil, hT] at this)
  have HR3 := Lib.hid (show rAll 97 8 30 (S, false) = (M, [], false) by
    have := rAll_back 97 8 30 M [] (by decide) (by decide) (fun b hb => by have := hMb b hb; omega) (fun b hb => by have := hMb b hb; omega) (by omega) (by omega)
    rwa [List.append_nil, hS] at this)
  have HM := Lib.hid hM
  have HS := Lib.hid hS
  have HT := Lib.hid hT
  have HU := Lib.hid hU
  have HV := Lib.hid hv
  have Hc2 := Lib.hid hc2
  clear hM hS hT hU hv hMb hc2
  have q1 : ¬ 9223372036854775807 < U.length + U.length := by omega
  have q2 : ((U.length : Int) + (U.length : Int) != 2 * (U.length : Int)) = false := by rw [bne_eq_false_iff_eq]; omega
  go_enter Try.func11, Try.ntmps11
  go_wp2_with fail
  refine (awake01_any _).mono ?_
  rintro e w1 ⟨rfl, hb1⟩
  go_wp2_with fail
  refine (few01_any v L _ (ReadS.step HV.out hb1)).mono ?_
  rw [HM.out]
  rintro e w2 ⟨vm, rfl, hom, hb2⟩
  have hb2' := bel_step hb1 hb2
  have OM2 := Lib.hid hom
  clear hom hb1 hb2
  go_wp2_with fail
  refine (tlvAll_any 97 vm M _ OM2.out.reads (by decide) (by decide) (by omega)).mono ?_
  rw [HS.out]
  rintro e w3 ⟨rfl, hb3⟩
  have hb3' := bel_step hb2' hb3
  have OM3 := Lib.hid (OM2.out.step hb3)
  clear hb3 hb2' OM2
  go_wp2_with fail
  have OM4 := Lib.hid (OM3.out.alloc (.cells #[str S, str S] 9))
  have hb4' := hb3'.alloc hb3'.size (.cells #[str S, str S] 9)
  refine (tlvAll_any 98 _ [S, S] _ (reads_two (Blk.new w3 _ _)) (by decide) (by decide) (by have := Hc2.out; omega)).mono ?_
  rw [HT.out]
  rintro e w5 ⟨rfl, hb5⟩
  have hb5' := bel_step hb4' hb5
  have OM5 := Lib.hid (OM4.out.step hb5)
  clear hb3' hb4' OM3 OM4 hb5
  go_wp2_with fail
  refine (text_any 99 T _ (by decide) (by decide) (by omega)).mono ?_
  rw [HU.out]
  rintro e w6 ⟨rfl, hb6⟩
  have hb6' := bel_step hb5' hb6
  have OM6 := Lib.hid (OM5.out.step hb6)
  clear hb5' OM5 hb6
  go_wp2_with fail
  refine (read_any (U ++ U) _).mono ?_
  rintro e w7 ⟨rfl, rfl⟩
  have I7 := Lib.hid (read_isRd (U ++ U) w6)
  have OM7 := Lib.hid (OM6.out.alloc (.cells #[str (U ++ U), .bool false] 51))
  have hz6 := hb6'.size
  have hb7' := hb6'.alloc hz6 (.cells #[str (U ++ U), .bool false] 51)
  clear OM6 hb6'
  generalize w6.alloc (.cells #[str (U ++ U), .bool false] 51) = w7 at *
  generalize w6.heap.size = g at *
  go_wp2_with fail
  refine (left_ok (U ++ U) _ _ I7.out).mono ?_
  rintro e wq ⟨rfl, rfl⟩
  go_wp2_with fail
  refine (readText_any (U ++ U) false 99 100000 _ _ I7.out (by decide) (by decide) (by rw [List.length_append]; omega) (by decide) T U false HR1.out).mono ?_
  rintro e w8 ⟨rfl, hr8, hu8⟩
  have I8 := Lib.hid hr8
  have OM8 := Lib.hid (OM7.out.grown hu8 (.inr (OwnS.ne OM7.out I7.out (by decide))))
  have hb8 := hb7'.trans (upd_below hu8 hb7'.size hz6)
  clear hr8 hu8 I7 OM7 hb7'
  go_wp2_with fail
  refine (left_ok U _ _ I8.out).mono ?_
  rintro e wq ⟨rfl, rfl⟩
  go_wp2_with fail
  refine (read_any T _).mono ?_
  rintro e wq ⟨rfl, rfl⟩
  have J8 := Lib.hid (read_isRd T w8)
  have OM9 := Lib.hid (OM8.out.alloc (.cells #[str T, .bool false] 51))
  have hz8 := hb8.size
  have hb9 := hb8.alloc hz8 (.cells #[str T, .bool false] 51)
  clear OM8 hb8 I8
  generalize w8.alloc (.cells #[str T, .bool false] 51) = w9 at *
  generalize w8.heap.size = g' at *
  go_wp2_with fail
  refine (readAll_any T false 98 2 100000 _ _ J8.out (by decide) (by decide) (by omega) (by decide) [S, S] [] false HR2.out).mono ?_
  rintro e w10 ⟨v10, rfl, ho10, hr10, hu10⟩
  have J10 := Lib.hid hr10
  have OM10 := Lib.hid (OM9.out.grown hu10 (.inr (OwnS.ne OM9.out J8.out (by decide))))
  have hb10 := hb9.trans (upd_below hu10 hb9.size hz8)
  rcases ho10.read with ⟨_, hn⟩ | ⟨gv, cap, rfl, hg1, hg2, hg3, hg4, hcell⟩
  · cases hn
  · have cA := hcell 0 (by show 0 < 2; decide)
    have cB := hcell 1 (by show 1 < 2; decide)
    simp only [List.getElem_cons_zero, List.getElem_cons_succ] at cA cB
    simp only [List.length_cons, List.length_nil] at hg3
    clear hr10 hu10 J8 OM9 hb9 hcell ho10
    go_wp2_with fail
    refine (end_any [] false _ _ J10.out).mono ?_
    rw [show rEnd ([], false) = 0 by decide]
    rintro e wq ⟨rfl, rfl⟩
    go_wp2_with fail
    refine (read_any S _).mono ?_
    rintro e wq ⟨rfl, rfl⟩
    have K10 := Lib.hid (read_isRd S w10)
    have OM11 := Lib.hid (OM10.out.alloc (.cells #[str S, .bool false] 51))
    have hz10 := hb10.size
    have hb11 := hb10.alloc hz10 (.cells #[str S, .bool false] 51)
    clear OM10 hb10 J10 cA cB
    generalize w10.alloc (.cells #[str S, .bool false] 51) = w11 at *
    generalize w10.heap.size = g2 at *
    go_wp2_with fail
    refine (readAll_any S false 97 8 30 _ _ K10.out (by decide) (by decide) (by omega) (by decide) M [] false HR3.out).mono ?_
    rintro e w12 ⟨v12, rfl, ho12, hr12, hu12⟩
    have K12 := Lib.hid hr12
    have OM12 := Lib.hid (OM11.out.grown hu12 (.inr (OwnS.ne OM11.out K10.out (by decide))))
    have O12 := Lib.hid ho12
    have hb12 := hb11.trans (upd_below hu12 hb11.size hz10)
    clear hr12 hu12 ho12 OM11 hb11 K10
    go_wp2_with fail
    refine (same_any _ _ M M _ _ _ O12.out OM12.out).mono ?_
    rw [sameL_refl]
    rintro e w13 ⟨rfl, hb13⟩
    have hb13' := bel_step hb12 hb13
    have K13 := Lib.hid (Blk.step K12.out hb13)
    clear hb13 hb12 OM12 O12
    go_wp2_with fail
    refine (end_any [] false _ _ K13.out).mono ?_
    rw [show rEnd ([], false) = 0 by decide]
    rintro e wq ⟨rfl, rfl⟩
    go_wp2
    go_ret
    exact ⟨rfl, hb13'⟩
end Go.Proofs.Ytjanmonoigpmcaa

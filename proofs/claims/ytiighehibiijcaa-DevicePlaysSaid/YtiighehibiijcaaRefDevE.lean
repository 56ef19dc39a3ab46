/-
  What New of the document's device does. No conditions beside those in each theorem.
-/
import Derived.Test.YtiighehibiijcaaRefDevD
import Derived.Test.YtiighehibiijcaaOpenBytes
import Derived.Deep.DeepCutAuto
namespace Go.Proofs.Ytiighehibiijcaa
open Go.RowKit
set_option linter.unusedSimpArgs false
set_option linter.unnecessarySimpa false
set_option linter.unusedVariables false

theorem safeL_new (n : Int) : safeL (newD n) = List.replicate n.toNat zero64 := by
  refine List.ext_getElem (by simp [safeL_length, newD]) fun i h1 h2 => ?_
  rw [safeL_at h1, List.getElem_replicate]
  rfl
theorem refNew_bad (w : World) (n : Int) (h : ¬ (1 ≤ n ∧ n ≤ 4096)) :
    Calls Try.prog 28 #[.int .i64 n] w fun e w' => e = .returned (.pointer none) ∧ w = w' := by
  by_cases h0 : n < 1
  · go_enter Try.func28, Try.ntmps28
    go_wp2_with fail
    go_ret
    exact ⟨rfl, rfl⟩
  · have d2 : 4096 < n := by omega
    go_enter Try.func28, Try.ntmps28
    go_wp2_with fail
    go_ret
    exact ⟨rfl, rfl⟩
set_option maxRecDepth 100000 in
set_option maxHeartbeats 3200000 in
theorem refNew_any (w : World) (n : Int) (h0 : 1 ≤ n) (h1 : n ≤ 4096) :
    Calls Try.prog 28 #[.int .i64 n] w fun e w' => ∃ sv, e = .returned (.pointer (some ⟨w.heap.size, 0, none⟩)) ∧ IsRef w' w.heap.size sv (.slice none 0 0) w.heap.size (newD n) ∧ Below w.heap.size w w' := by
  obtain ⟨i0, hi, hz0, hz1, hz2⟩ : ∃ i, Try.prog.info? 9 = some i ∧ i.zero = some (.string ByteArray.empty) ∧ i.size = 1 ∧ i.bytes = 16 := info_parts Try.infoStr
  have d1 : decide (n < 1) = false := by simp; omega
  have d2 : decide (4096 < n) = false := by simp; omega
  obtain ⟨m, rfl⟩ := Int.eq_ofNat_of_zero_le (show 0 ≤ n by omega)
  obtain ⟨B, hB⟩ : ∃ B, w.heap.size = B := ⟨_, rfl⟩
  have HBB := Lib.hid hB
  go_enter Try.func28, Try.ntmps28
  go_wp2_with fail
  have X0 := Lib.hid (Blk.new w 56 #[.slice none 0 0, .slice none 0 0, .bool true, .bool false, .int .i64 0, .int .i64 0])
  have B0 := Lib.hid ((Below.refl B w).alloc (by omega) (.cells #[.slice none 0 0, .slice none 0 0, .bool true, .bool false, .int .i64 0, .int .i64 0] 56))
  generalize w.alloc (.cells #[.slice none 0 0, .slice none 0 0, .bool true, .bool false, .int .i64 0, .int .i64 0] 56) = w1 at X0 B0 ⊢
  obtain ⟨rh, hrh⟩ : ∃ rh, B = rh := ⟨_, rfl⟩
  rw [hB] at X0
  rw [hrh] at X0 ⊢
  have hBr : B ≤ rh := by omega
  have HRH := Lib.hid hrh
  clear hB hrh
  go_loopw [4] (fun i wr => ∃ (j : Nat) (sv : Value), j ≤ m ∧ i = .int .i64 j ∧ Blk wr rh 56 #[sv, .slice none 0 0, .bool true, .bool false, .int .i64 0, .int .i64 0] ∧ OwnS wr B sv (List.replicate j zero64) ∧ Below B w wr) (fun i _ => m - (intOf i).toNat)
  case atStart => exact ⟨0, _, Nat.zero_le _, rfl, X0.out, OwnS.none _ _, B0.out⟩
  case round =>
    obtain ⟨j, sv, hj, rfl, hb, ho, hbl⟩ := hrel
    have HB := Lib.hid hb
    have HO := Lib.hid ho
    have HBL := Lib.hid hbl
    clear hb ho hbl
    by_cases hlt : j < m
    · have hji : (j : Int) < (m : Int) := by omega
      have HMK := Lib.hid (make64 wr.drew)
      have HCV := Lib.hid (show (convert 40 9 (.slice (some ⟨wr.heap.size, 0, none⟩) 64 64)).run Try.prog (wr.alloc (.cells row64 5)).drew = .ok (str zero64) (wr.alloc (.cells row64 5)).drew from conv64 wr.drew)
      have lr := HB.out.lt
      have hwB : w.heap.size = B := HBB.out
      go_wp2_with fail
      refine until_begin 11 (fun w' => w'.cell? ⟨rh, 0, none⟩ = some sv) (by kernel_rfl) (HB.out.drew.cell 0) (fun hS => ?_)
      refine until_take 0 (some 18) (u := ?_) rfl rfl (by kernel_rfl) (by kernel_rfl) (by kernel_rfl) (by kernel_rfl) (fun _ _ _ h => h) (by rfl) (fun wS hv => ?_) hS ?_
      rotate_left
      · clear hv
        go_simp
        all_goals with_reducible rfl
      try simp only [Act.put, List.setIfInBounds_toArray, List.set]
      refine until_take 1 (some 19) (u := ?_) rfl rfl (by kernel_rfl) (by kernel_rfl) (by kernel_rfl) (by kernel_rfl) (fun _ _ _ h => h) (by rfl) (fun wS hv => ?_) hS ?_
      rotate_left
      · clear hv
        go_simp
        all_goals with_reducible rfl
      try simp only [Act.put, List.setIfInBounds_toArray, List.set]
      refine until_take 2 (some 20) (u := ?_) rfl rfl (by kernel_rfl) (by kernel_rfl) (by kernel_rfl) (by kernel_rfl) (fun _ _ _ h => h) (by rfl) (fun wS hv => ?_) hS ?_
      rotate_left
      · clear hv
        go_simp
        all_goals with_reducible rfl
      try simp only [Act.put, List.setIfInBounds_toArray, List.set]
      refine until_take 3 (some 21) (u := ?_) rfl rfl (by kernel_rfl) (by kernel_rfl) (by kernel_rfl) (by kernel_rfl) (fun _ _ _ h => h) (by rfl) (fun wS hv => ?_) hS ?_
      rotate_left
      · clear hv
        go_simp
        all_goals with_reducible rfl
      try simp only [Act.put, List.setIfInBounds_toArray, List.set]
      refine until_take 4 (some 22) (u := ?_) rfl rfl (by kernel_rfl) (by kernel_rfl) (by kernel_rfl) (by kernel_rfl) (fun _ _ _ h => h) (by rfl) (fun wS hv => ?_) hS ?_
      rotate_left
      · obtain k1 := hv
        go_simp
        all_goals with_reducible rfl
      try simp only [Act.put, List.setIfInBounds_toArray, List.set]
      refine until_one 5 (by kernel_rfl) rfl (fun K hK => ?_)
      refine step_value (d := some 23) (by rfl) rfl (r := .slice (some ⟨wr.drew.heap.size, 0, none⟩) 64 64) (w1 := wr.drew.alloc (.cells row64 5)) (by go_simp; rw [HMK.out]; rfl) ?_
      refine hK.out _ _ ((HB.out.drew.alloc _).cell 0) (fun hS => ?_)
      clear hK K
      try simp only [Act.put, List.setIfInBounds_toArray, List.set]
      refine until_one 6 (by kernel_rfl) rfl (fun K hK => ?_)
      refine step_value (d := some 24) (by rfl) rfl (r := str zero64) (w1 := wr.drew.alloc (.cells row64 5)) (by go_simp; rw [HCV.out]; rfl) ?_
      refine hK.out _ _ ((HB.out.drew.alloc _).cell 0) (fun hS => ?_)
      clear hK K
      try simp only [Act.put, List.setIfInBounds_toArray, List.set]
      refine until_one 7 (by kernel_rfl) rfl (fun K hK => ?_)
      refine step_value (d := some 25) (by rfl) rfl (r := .slice (some ⟨wr.heap.size + 1, 0, none⟩) 1 1) (w1 := (wr.drew.alloc (.cells row64 5)).alloc (.cells #[str zero64] 9)) (by go_simp) ?_
      refine hK.out _ _ (((HB.out.drew.alloc _).alloc _).cell 0) (fun hS => ?_)
      clear hK K
      try simp only [Act.put, List.setIfInBounds_toArray, List.set]
      refine until_one 8 (by kernel_rfl) rfl (fun K hK => ?_)
      have HO1 : OwnS ((wr.drew.alloc (.cells row64 5)).alloc (.cells #[str zero64] 9)) B sv (List.replicate j zero64) := OwnS.alloc (OwnS.alloc (OwnS.drew HO.out) _) _
      have hN : Blk ((wr.drew.alloc (.cells row64 5)).alloc (.cells #[str zero64] 9)) (wr.heap.size + 1) 9 #[str zero64] := Blk.new_at (by simp) _ _
      have HO1b : ((wr.drew.alloc (.cells row64 5)).alloc (.cells #[str zero64] 9)).ownsRow B 9 1 sv j ((List.replicate j zero64).map str) := by have := HO1; unfold OwnS at this; rw [List.length_replicate] at this; exact this
      refine step_append_lies _ rfl (.tmp 22) (.tmp 25) 54 rfl B 9 i0 (.string ByteArray.empty) 1 16 Try.underlying54 hi hz0 hz1 hz2 rfl (by decide) sv j ((List.replicate j zero64).map str) rfl HO1b ⟨wr.heap.size + 1, 0, none⟩ 1 1 [str zero64] rfl rfl (World.news_of_block hN) (by simp [Value.oneCell']) (by decide) (by unfold maxLen; omega) (by omega) (by simp; omega) _ rfl ?_
      intro gv c2 w2 hown hgrow hat hlt
      have HB2 := Lib.hid (Blk.grown ((HB.out.drew.alloc (.cells row64 5)).alloc (.cells #[str zero64] 9)) hgrow (OwnS.ne HO1 ((HB.out.drew.alloc (.cells row64 5)).alloc (.cells #[str zero64] 9)) (by decide)).symm)
      have HO2 := Lib.hid (OwnS.push (L := List.replicate j zero64) (by rw [List.length_replicate]; exact hown))
      have HG2 := Lib.hid hgrow
      have HBB : Below B w w2 := (((HBL.out.drew).alloc (show B ≤ wr.heap.size by have := HBL.out.size; omega) (.cells row64 5)).alloc (by simp; have := HBL.out.size; omega) (.cells #[str zero64] 9)).trans ⟨hgrow.os, hgrow.tape, hgrow.output, hgrow.size, fun i hi => hgrow.block i (by simp; have := HBL.out.size; omega) (fun e => by have := (HO1.own_lt e.symm).2; omega)⟩
      clear hown hgrow hat hN HO1 HO1b
      refine hK.out _ _ (HB2.out.cell 0) (fun hS => ?_)
      clear hK K
      try simp only [Act.put, List.setIfInBounds_toArray, List.set]
      refine until_one 9 (by kernel_rfl) rfl (fun K hK => ?_)
      refine step_value (d := some 27) (by rfl) rfl (r := .pointer (some ⟨rh, 0, none⟩)) (w1 := w2) (by go_simp) ?_
      refine hK.out _ _ hS (fun hS => ?_)
      clear hK K
      try simp only [Act.put, List.setIfInBounds_toArray, List.set]
      refine until_take 10 (some 28) (u := ?_) rfl rfl (by kernel_rfl) (by kernel_rfl) (by kernel_rfl) (by kernel_rfl) (fun _ _ _ h => h) (by rfl) (fun wS hv => ?_) hS ?_
      rotate_left
      · clear hv
        go_simp
        all_goals with_reducible rfl
      try simp only [Act.put, List.setIfInBounds_toArray, List.set]
      refine until_last (by kernel_rfl) rfl (by kernel_rfl) (fun K hK => ?_)
      have q0 := HB2.out.frozen 0
      go_simp
      refine hK.out _ _ ?_
      clear hK K
      clear hS HB
      have HB3 := Lib.hid (HB2.out.set_ 0 (.slice (some ⟨gv, 0, none⟩) (j + 1) c2))
      have HO3 := Lib.hid (HO2.out.grown (upd_set w2 rh 0 (.slice (some ⟨gv, 0, none⟩) (j + 1) c2)) (.inr (HO2.out.ne HB2.out (by decide))))
      have HB4 := Lib.hid (HBB.setCell (p := ⟨rh, 0, none⟩) hBr (.slice (some ⟨gv, 0, none⟩) (j + 1) c2))
      generalize w2.setCell ⟨rh, 0, none⟩ (.slice (some ⟨gv, 0, none⟩) (j + 1) c2) = w3 at HB3 HO3 HB4 ⊢
      go_wp2
      go_roundw
      case rel => exact ⟨j + 1, _, by omega, by go_num, HB3.out, by rw [List.replicate_succ']; exact HO3.out, HB4.out⟩
      case measure => simp [intOf]; omega
    · obtain rfl : j = m := by omega
      go_wp2_with fail
      go_ret
      refine ⟨sv, by rw [HBB.out, HRH.out]; rfl, ?_, by rw [HBB.out]; exact HBL.out⟩
      rw [HBB.out]
      refine ⟨by rw [HRH.out]; exact HB.out, ?_, OwnW.none _ _, Nat.le_refl _⟩
      rw [safeL_new]
      exact HO.out
end Go.Proofs.Ytiighehibiijcaa

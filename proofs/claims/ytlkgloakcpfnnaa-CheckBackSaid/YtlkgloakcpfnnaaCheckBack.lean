/-
  The walk of CheckBack: it returns true for all bodies, whatever stands behind. No conditions beside those in each theorem.
-/
import Derived.Test.YtlkgloakcpfnnaaCheckTwo
import Derived.Test.YtlkgloakcpfnnaaSame
import Derived.Test.YtlkgloakcpfnnaaOpenStrs
namespace Go.Proofs.Ytlkgloakcpfnnaa
open Go.RowKit

/-- Records, one behind the other. -/
def recs : List (List UInt8) → List UInt8
  | [] => []
  | b :: l => tRec b ++ recs l
theorem recs_snoc (l : List (List UInt8)) (b : List UInt8) : recs (l ++ [b]) = recs l ++ tRec b := by
  induction l with
  | nil => simp [recs]
  | cons a l ih => simp [recs, ih]
theorem all_recs : ∀ (l : List (List UInt8)), (∀ b ∈ l, b.length ≤ 60) → allR (recs l) = (l, (recs l).length) := by
  intro l
  induction l with
  | nil => intro _; rfl
  | cons a l ih =>
    intro h
    have ha := h a (by simp)
    rw [recs, all_back a _ (by omega), ih (fun b hb => h b (by simp [hb]))]
    simp
theorem recs_length : ∀ (l : List (List UInt8)), (∀ b ∈ l, b.length ≤ 60) → (recs l).length ≤ 76 * l.length := by
  intro l
  induction l with
  | nil => intro _; simp [recs]
  | cons a l ih =>
    intro h
    have ha := h a (by simp)
    have := ih (fun b hb => h b (by simp [hb]))
    have hl := (tRec_length a).2
    simp only [recs, List.length_append, List.length_cons]
    omega
/-- The first k of them, each of 60 bytes at most. -/
def cut60 (L : List (List UInt8)) (k : Nat) : List (List UInt8) := (L.take k).map fun s => s.take 60
theorem cut60_le (L : List (List UInt8)) (k : Nat) : ∀ b ∈ cut60 L k, b.length ≤ 60 := by
  intro b hb
  unfold cut60 at hb
  obtain ⟨s, _, rfl⟩ := List.mem_map.1 hb
  rw [List.length_take]
  omega
theorem cut60_length (L : List (List UInt8)) (k : Nat) (h : k ≤ L.length) : (cut60 L k).length = k := by
  simp [cut60]
  omega
theorem cut60_step (L : List (List UInt8)) (k : Nat) (h : k < L.length) : cut60 L (k + 1) = cut60 L k ++ [L[k].take 60] := by
  unfold cut60
  rw [List.take_succ_eq_append_getElem h, List.map_append]
  rfl

set_option maxRecDepth 100000 in
set_option maxHeartbeats 3200000 in
theorem checkBack_walk (v : Value) (L : List (List UInt8)) (rest : List UInt8) (w : World) (hv : ReadS w v L) :
    Calls Try.prog 11 #[v, str rest] w fun e w' => e = .returned (.bool true) ∧ Below w.heap.size w w' := by
  obtain ⟨i0, hi, hz0, hz1, hz2⟩ := info_parts Try.infoStr
  obtain ⟨p, c, rfl, hmax, hcells⟩ := hv
  unfold maxLen at hmax
  have HC := Lib.hid hcells
  clear hcells
  obtain ⟨T, hT⟩ : ∃ T, T = rest.take 30 := ⟨_, rfl⟩
  have hTl : T.length ≤ 30 := by rw [hT, List.length_take]; omega
  have HT := Lib.hid hT
  clear hT
  go_enter Try.func11, Try.ntmps11
  go_wp2_with fail
  refine (awake05_any _).mono ?_
  rintro e w1 ⟨rfl, hb1⟩
  have z1 := hb1.size
  go_wp2_with fail
  go_loopw [6, 7, 8] (fun s m i wr => ∃ k : Nat, k ≤ L.length ∧ k ≤ 8 ∧ s = str (recs (cut60 L k)) ∧ i = .int .i64 k ∧ OwnS wr w.heap.size m (cut60 L k) ∧ Below w.heap.size w wr) (fun _ _ i _ => 8 - (intOf i).toNat)
  case atStart => exact ⟨0, Nat.zero_le _, by omega, rfl, rfl, OwnS.none _ _, hb1⟩
  case round =>
    obtain ⟨k, hk, hk8, rfl, rfl, hown, hnx⟩ := hrel
    have Hown := Lib.hid hown
    clear hown
    have hsz := hnx.size
    have hrl := recs_length _ (cut60_le L k)
    rw [cut60_length L k hk] at hrl
    have HA := Lib.hid (all_recs _ (cut60_le L k))
    by_cases hlt : k < L.length
    · by_cases hlt8 : k < 8
      · obtain ⟨b, o, rfl, hbw, hcell⟩ := HC.out (by omega)
        have c1 : wr.cell? ⟨b, o + k, none⟩ = some (str L[k]) := (hnx.cell (p := ⟨b, o + k, none⟩) hbw).trans (hcell k hlt)
        have Hstep := Lib.hid (cut60_step L k hlt)
        have hcl := cut60_length L k hk
        obtain ⟨A, hA⟩ : ∃ A, L[k] = A := ⟨_, rfl⟩
        rw [hA] at c1 Hstep
        obtain ⟨M, hM⟩ : ∃ M, cut60 L k = M := ⟨_, rfl⟩
        rw [hM] at Hown hrl HA Hstep hcl ⊢
        obtain ⟨S, hS⟩ : ∃ S, recs M = S := ⟨_, rfl⟩
        rw [hS] at hrl ⊢
        have HS := Lib.hid hS
        obtain ⟨B, hB⟩ : ∃ B, A.take 60 = B := ⟨_, rfl⟩
        have hBl : B.length ≤ 60 := by rw [← hB, List.length_take]; omega
        rw [hB] at Hstep
        have HB := Lib.hid hB
        have hT := take_back B T (by omega)
        have hxl := (tRec_length B).2
        obtain ⟨X, hX⟩ : ∃ X, tRec B = X := ⟨_, rfl⟩
        rw [hX] at hT hxl
        have HX := Lib.hid hX
        have HTk := Lib.hid hT
        clear hA hM hS hB hX hT hcell HA
        go_wp2_with fail
        refine (short05_any A 60 _).mono ?_
        rw [HB.out]
        rintro e w2 ⟨rfl, rfl⟩
        go_wp2_with fail
        refine (put_any B _ (by omega)).mono ?_
        rw [HX.out]
        rintro e w3 ⟨rfl, hb3⟩
        have hb3' := bel_step hnx hb3
        go_wp2_with fail
        refine (short05_any rest 30 _).mono ?_
        rw [← HT.out]
        rintro e w4 ⟨rfl, rfl⟩
        go_wp2_with fail
        refine (take_any (X ++ T) B X.length 0 _ HTk.out (by rw [List.length_append]; omega)).mono ?_
        rintro e w5 ⟨rfl, hb5⟩
        have hb5' := bel_step hb3' hb5
        have Hown5 := Lib.hid ((Hown.out.step hb3).step hb5)
        have z5 := hb5'.size
        clear c1
        go_wp2_with (at_builtin; refine wpList_append_own _ rfl _ _ 61 rfl w.heap.size 9 i0 (.string ByteArray.empty) 1 16 Try.underlying61 hi hz0 hz1 hz2 rfl (by decide) _ _ _ rfl (Hown5.out.alloc _) ⟨w5.heap.size, 0, none⟩ 1 1 [str B] rfl rfl (cell_one_new _ _ _) (by simp [Value.oneCell']) (by unfold maxLen; omega) (by omega) (by simp; omega) ?_; intro v' w6 hown' hgrow _)
        have hb6 := (hb5'.alloc z5 (.cells #[str B] 9)).grown hgrow (by simp; omega) (fun k hk => (Hown5.out.lt k hk).1)
        go_roundw
        case rel => exact ⟨k + 1, by omega, by omega, by rw [Hstep.out, recs_snoc, HS.out, HX.out], by go_num, by rw [Hstep.out]; exact OwnS.push hown', hb6⟩
        case measure => simp [intOf]; omega
      · obtain ⟨M, hM⟩ : ∃ M, cut60 L k = M := ⟨_, rfl⟩
        rw [hM] at Hown hrl HA ⊢
        obtain ⟨S, hS⟩ : ∃ S, recs M = S := ⟨_, rfl⟩
        rw [hS] at hrl HA ⊢
        clear hM hS
        go_wp2_with fail
        refine (all_any S _ (by omega)).mono ?_
        rw [HA.out]
        rintro e w5 ⟨v, rfl, hown', hb5⟩
        have hb5' := bel_step hnx hb5
        have Hown1 := Lib.hid (Hown.out.step hb5)
        have Hown' := Lib.hid hown'
        clear hown'
        go_wp2_with fail
        refine (same_any v u7 M M _ _ _ Hown'.out Hown1.out).mono ?_
        rw [sameL_refl]
        rintro e w7 ⟨rfl, hb7⟩
        have hb7' := bel_step hb5' hb7
        clear hb5 hb7 hb5' Hown Hown1 Hown' hnx
        go_wp2
        go_ret
        exact ⟨rfl, hb7'⟩
    · obtain ⟨M, hM⟩ : ∃ M, cut60 L k = M := ⟨_, rfl⟩
      rw [hM] at Hown hrl HA ⊢
      obtain ⟨S, hS⟩ : ∃ S, recs M = S := ⟨_, rfl⟩
      rw [hS] at hrl HA ⊢
      clear hM hS
      go_wp2_with fail
      refine (all_any S _ (by omega)).mono ?_
      rw [HA.out]
      rintro e w5 ⟨v, rfl, hown', hb5⟩
      have hb5' := bel_step hnx hb5
      have Hown1 := Lib.hid (Hown.out.step hb5)
      have Hown' := Lib.hid hown'
      clear hown'
      go_wp2_with fail
      refine (same_any v u7 M M _ _ _ Hown'.out Hown1.out).mono ?_
      rw [sameL_refl]
      rintro e w7 ⟨rfl, hb7⟩
      have hb7' := bel_step hb5' hb7
      clear hb5 hb7 hb5' Hown Hown1 Hown' hnx
      go_wp2
      go_ret
      exact ⟨rfl, hb7'⟩
end Go.Proofs.Ytlkgloakcpfnnaa

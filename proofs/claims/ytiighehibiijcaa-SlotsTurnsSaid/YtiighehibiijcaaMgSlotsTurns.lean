/-
  SlotsTurns of the statements' layer 7 returns true. For any records.
  The statement twinspanlaw07.SlotsTurns: for every input the law returns true, and its arguments read as before. The walk is in SlotsTurns; here is the row round it. No conditions.
-/
import Derived.Test.YtiighehibiijcaaMg6
import Derived.ProofKit
import Derived.OpenShut
import Derived.ShutString
import Derived.ChangeOld
import Derived.Below
namespace Go.Proofs.Ytiighehibiijcaa
open Go.RowKit
set_option linter.unusedSimpArgs false
set_option linter.unnecessarySimpa false
set_option linter.unusedVariables false

/-- The frame: what the variables hold; us: all else. -/
def FrT (v0 v3 v4 v5 v8 v9 : Value) (us : Nat → Value) : Act := ⟨#[v0, us 1, us 2, v3, v4, v5, us 6, us 7, v8, v9, us 10, us 11, us 12, us 13, us 14, us 15, us 16, us 17, us 18, us 19, us 20, us 21, us 22, us 23, us 24, us 25, us 26, us 27, us 28, us 29, us 30, us 31, us 32, us 33, us 34, us 35, us 36, us 37, us 38, us 39, us 40, us 41, us 42, us 43, us 44, us 45, us 46, us 47, us 48, us 49, us 50, us 51, us 52, us 53, us 54, us 55, us 56, us 57, us 58, us 59, us 60, us 61, us 62, us 63, us 64, us 65, us 66, us 67, us 68, us 69, us 70, us 71, us 72, us 73, us 74, us 75, us 76, us 77, us 78, us 79, us 80, us 81, us 82, us 83, us 84, us 85, us 86, us 87, us 88, us 89, us 90, us 91, us 92, us 93, us 94, us 95, us 96, us 97, us 98, us 99, us 100, us 101, us 102, us 103, us 104, us 105, us 106, us 107], []⟩

theorem start_40 : openR (newD 40) = (some ⟨(0, 0, 0), [], false⟩, [], 0) := (Live.new (n := 40) (by omega) (by omega)).open
theorem turns_take {L : List (List UInt8)} {j : Nat} (h : j < L.length) : (L.take (j + 1)).map (List.take 80) = (L.take j).map (List.take 80) ++ [(L[j]).take 80] := by
  rw [List.take_succ_eq_append_getElem h, List.map_append]; rfl
theorem turns_room {L : List (List UInt8)} {j : Nat} (h : j < L.length) (hj : j < 12) : ((recsB ((L.take j).map (List.take 80)) ++ tRec ((L[j]).take 80)).length : Int) ≤ (40 - 2) * 64 := by
  have h1 := recsB_bound ((L.take j).map (List.take 80)) 80 (fun r hr => by
    obtain ⟨q, _, rfl⟩ := List.mem_map.1 hr
    rw [List.length_take]; omega)
  have h2 := tRec_most ((L[j]).take 80)
  have h3 : ((L[j]).take 80).length ≤ 80 := by rw [List.length_take]; omega
  have h4 : ((L.take j).map (List.take 80)).length = j := by rw [List.length_map, List.length_take]; omega
  rw [h4] at h1
  rw [List.length_append]
  omega

set_option maxRecDepth 100000 in
set_option maxHeartbeats 16000000 in
theorem slotsTurns_any (v0 : Value) (L : List (List UInt8)) (w : World) (hL : ReadS w v0 L) :
    Calls Try.prog 13 #[v0] w fun e w' => e = .returned (.bool true) ∧ Below w.heap.size w w' := by
  obtain ⟨p0, c0, rfl, hmax, hcell⟩ := hL
  have HCELL := Lib.hid hcell
  clear hcell hmax
  go_enter Try.func13, Try.ntmps13
  go_wp2_with fail
  refine (awake07_any _).mono ?_
  rintro e w0 ⟨rfl, hb0⟩
  go_wp2_with fail
  refine (new_any _ 40 (by omega) (by omega)).mono ?_
  rintro e w1 ⟨rfl, hd1, hb1⟩
  obtain ⟨g, hg⟩ : ∃ g, w0.heap.size + 1 = g := ⟨_, rfl⟩
  obtain ⟨gm, hgm⟩ : ∃ gm, w0.heap.size = gm := ⟨_, rfl⟩
  have hWg : w.heap.size ≤ gm := by have := hb0.size; omega
  rw [hg, hgm] at hd1
  rw [hg]
  have HD1 := Lib.hid hd1
  have B1 := Lib.hid (bel_step hb0 hb1)
  clear hd1 hg hgm hb0 hb1
  go_wp2_with fail
  refine (open_any _ g gm _ _ _ _ HD1.out (by decide) (by decide) (fun k s h => by cases h) (by intro p hp; cases hp) (by decide) _ start_40).mono ?_
  rintro e w2 ⟨⟨h, va, rfl, hh, hx, ha⟩, hb2⟩
  have hp0 := Holds.start (by omega) (by omega) HD1.out B1.out hWg hx hh hb2
  have HP0 := Lib.hid hp0
  clear hp0 hx hh hb2 ha
  go_wp2_with fail
  refine (logMark_any _ h g _ HP0.out.2.1).mono ?_
  rintro e w3 ⟨rfl, hb3⟩
  have HP1 := Lib.hid (HP0.out.step hb3)
  clear hb3
  go_upto_block 0 with fail
  have HO0 := Lib.hid (Blk.new w3 62 #[.int .i64 0, .int .i64 0, .int .i64 0])
  have HP2 := Lib.hid (HP1.out.step ((Below.refl w3.heap.size w3).alloc (Nat.le_refl _) (.cells #[.int .i64 0, .int .i64 0, .int .i64 0] 62)))
  obtain ⟨o, ho⟩ : ∃ o, w3.heap.size = o := ⟨_, rfl⟩
  have HWO := Lib.hid (show w.heap.size ≤ o by rw [← ho]; exact HP1.out.below.size)
  rw [ho] at HO0 ⊢
  generalize w3.alloc (.cells #[.int .i64 0, .int .i64 0, .int .i64 0] 62) = w4 at HO0 HP2 ⊢
  clear ho HP1 HP0 HD1 B1 hWg
  refine wp_cut (fun a' w' => Below w.heap.size w w' ∧ ∃ us, a' = FrT (.slice p0 L.length c0) (.bool true) (.pointer (some ⟨g, 0, none⟩)) (.pointer (some ⟨h, 0, none⟩)) (.pointer (some ⟨o, 0, none⟩)) (us 9) us) ?_ ?_
  rotate_left
  · intro J1 K1 hJ1 hK1
    go_wp2_with fail
    refine wp_loop_ghost_k (fun k' a' w' => ∃ (j : Nat) (v : Value) (cap : Nat) (D : Dev) (X : Log), j + k' = L.length ∧ j ≤ 12 ∧ Holds w w' g gm h v cap D X ((L.take j).map (List.take 80)) 40 (30 * j) ∧ D.armed = false ∧ X.mark.1 = (j : Int) ∧ X.mark.2.2 = (j : Int) ∧ Blk w' o 62 #[.int .i64 X.mark.1, .int .i64 X.mark.2.1, .int .i64 X.mark.2.2] ∧ ∃ us, a' = FrT (.slice p0 L.length c0) (.bool true) (.pointer (some ⟨g, 0, none⟩)) (.pointer (some ⟨h, 0, none⟩)) (.pointer (some ⟨o, 0, none⟩)) (.int .i64 j) us) L.length ?_ ?_
    · exact ⟨0, _, _, _, _, by omega, by omega, HP2.out, rfl, rfl, rfl, HO0.out, meet_us (by kernel_rfl)⟩
    · intro gk a0 wr hinv
      obtain ⟨j, v, cap, D, X, hj, hj12, hp, har, he, hc, hb, us, rfl⟩ := hinv
      intro J2 K2 hJ2 hK2
      unfold FrT
      have HP := Lib.hid hp
      have HB := Lib.hid hb
      have HAR := Lib.hid har
      clear hp HP2 hb har HO0
      by_cases h1 : j < L.length
      · have i1 : (j : Int) < (L.length : Int) := by omega
        by_cases h2 : j < 12
        · have i2 : (j : Int) < 12 := by omega
          obtain ⟨b, of, rfl, hbw, hcl⟩ := HCELL.out (by omega)
          have k0 := (HP.out.below.cell (p := ⟨b, of + j, none⟩) hbw).trans (hcl j h1)
          clear hcl
          go_wp2_with fail
          refine (short_any _ 80 _).mono ?_
          rintro e w5 ⟨rfl, rfl⟩
          obtain ⟨r0, hr0⟩ : ∃ r, (L[j]).take 80 = r := ⟨_, rfl⟩
          have hr80 : r0.length ≤ 80 := by rw [← hr0, List.length_take]; omega
          have HRR := Lib.hid hr0
          have hroom := turns_room h1 h2
          rw [hr0] at hroom ⊢
          have HRO := Lib.hid (show ((recsB ((L.take j).map (List.take 80)) ++ tRec r0).length : Int) ≤ roomD D by unfold roomD; rw [HP.out.dn]; exact hroom)
          have hlen : ((L.take j).map (List.take 80)).length = j := by rw [List.length_map, List.length_take]; omega
          have HLE := Lib.hid hlen
          clear hroom hr0 hlen
          go_wp2_with fail
          refine (HP.out.commit HAR.out HRO.out (by omega) (by omega) (by rw [HLE.out]; omega) (by omega)).mono ?_
          rintro e w6 ⟨rfl, v6, cap6, D6, X6, hp6, har6, hm6, hel6, ht6⟩
          have HB6 := Lib.hid (HP.out.1.keepL ht6 HP.out.2.1 HB.out (by decide) (by decide) (by decide))
          have HP6 := Lib.hid hp6
          have HAR6 := Lib.hid har6
          have hE : X6.mark.1 = (j : Int) + 1 := by rw [hm6]; show X.mark.1 + 1 = _; rw [he]
          have hC : X6.mark.2.2 = (j : Int) + 1 := by rw [hm6]; show X.mark.2.2 + 1 = _; rw [hc]
          have hel2 : safeD D6 ((X6.mark.1 + 1).tmod 2) = packS X.mark.1 X.mark.2.1 X.mark.2.2 := by rw [← readD_quiet hp6.live.waits]; exact hel6
          have hhe2 : safeD D6 (X6.mark.1.tmod 2) = packS X6.mark.1 X6.mark.2.1 X6.mark.2.2 := by rw [← readD_quiet hp6.live.waits]; exact hp6.live.here
          have hD6 := hp6.dn
          have t1 : 0 ≤ X6.mark.1.tmod 2 ∧ X6.mark.1.tmod 2 < 2 := ⟨Int.tmod_nonneg _ (by omega), Int.tmod_lt_of_pos _ (by omega)⟩
          have t2 : 0 ≤ (X6.mark.1 + 1).tmod 2 ∧ (X6.mark.1 + 1).tmod 2 < 2 := ⟨Int.tmod_nonneg _ (by omega), Int.tmod_lt_of_pos _ (by omega)⟩
          have HF1 := Lib.hid (show (if hasD D6.n (X6.mark.1.tmod 2) = true then safeD D6 (X6.mark.1.tmod 2) else []) = packS X6.mark.1 X6.mark.2.1 X6.mark.2.2 by rw [if_pos (hasD_of t1.1 (by omega))]; exact hhe2)
          have HF2 := Lib.hid (show (if hasD D6.n ((X6.mark.1 + 1).tmod 2) = true then safeD D6 ((X6.mark.1 + 1).tmod 2) else []) = packS X.mark.1 X.mark.2.1 X.mark.2.2 by rw [if_pos (hasD_of t2.1 (by omega))]; exact hel2)
          have HW1 := Lib.hid (show (Lit.int .i64 (X6.mark.1.tmod 2)).wf = true from wf_near t1.1 (by omega))
          have HW2 := Lib.hid (show (Lit.int .i64 ((X6.mark.1 + 1).tmod 2)).wf = true from wf_near t2.1 (by omega))
          have HU1 := Lib.hid (unpack_pack hp6.live.mk_ok)
          have HU2 := Lib.hid (unpack_pack HP.out.live.mk_ok)
          have HTK := Lib.hid (turns_take h1)
          have HWT := Lib.hid hp6.live.waits
          obtain ⟨tt1, htt1⟩ : ∃ t, X6.mark.1.tmod 2 = t := ⟨_, rfl⟩
          obtain ⟨tt2, htt2⟩ : ∃ t, (X6.mark.1 + 1).tmod 2 = t := ⟨_, rfl⟩
          rw [htt1] at HF1 HW1
          rw [htt2] at HF2 HW2
          obtain ⟨M, hM⟩ : ∃ M, X6.mark = M := ⟨_, rfl⟩
          obtain ⟨e1, b1, c1⟩ := M
          obtain ⟨K, hK⟩ : ∃ M, X.mark = M := ⟨_, rfl⟩
          obtain ⟨e0, b0, c0'⟩ := K
          rw [hM] at hE hC HF1 HU1 htt1 htt2
          rw [hK] at he hc HF2 HU2 HB6
          simp only [] at hE hC he hc HF1 HU1 HF2 HU2 HB6 htt1 htt2
          have s1 : (e1 != (j : Int) + 1) = false := by rw [hE]; simp
          have s2 : (c1 != (j : Int) + 1) = false := by rw [hC]; simp
          have s3 : 0 ≤ e1 := by omega
          have s4 : e1 ≤ 13 := by omega
          have HEE := Lib.hid hE
          have HCC := Lib.hid hC
          clear hE hC he hc
          have HM := Lib.hid hM
          have HK := Lib.hid hK
          clear hp6 har6 ht6 hel6 hel2 hhe2 hm6 t1 t2 hM hK
          go_wp2_with fail
          refine (logMark_any _ h g X6 HP6.out.2.1).mono ?_
          rw [HM.out]
          rintro e w7 ⟨rfl, hb7⟩
          have HP7 := Lib.hid (HP6.out.step hb7)
          have HB7 := Lib.hid (HB6.out.step hb7)
          clear hb7
          go_wp2_with fail
          have HM8 := Lib.hid (Blk.new w7 62 #[.int .i64 e1, .int .i64 b1, .int .i64 c1])
          have hbx : Below w7.heap.size w7 (w7.alloc (.cells #[.int .i64 e1, .int .i64 b1, .int .i64 c1] 62)) := (Below.refl _ _).alloc (Nat.le_refl _) _
          have HP8 := Lib.hid (HP7.out.step hbx)
          have HB8 := Lib.hid (HB7.out.step hbx)
          obtain ⟨gM, hgM⟩ : ∃ q, w7.heap.size = q := ⟨_, rfl⟩
          rw [hgM] at HM8 ⊢
          clear hbx hgM
          generalize w7.alloc (.cells #[.int .i64 e1, .int .i64 b1, .int .i64 c1] 62) = w8 at HP8 HB8 HM8 ⊢
          obtain ⟨m0, m1, m2, mf0, mf1, mf2⟩ := cells3 HM8.out
          refine (safe_any _ g gm _ _ _ _ tt1 HP8.out.1 HW1.out).mono ?_
          rw [HF1.out]
          rintro e w9 ⟨rfl, hbx⟩
          have HP9 := Lib.hid (HP8.out.step hbx)
          have HB9 := Lib.hid (HB8.out.step hbx)
          have HM9 := Lib.hid (HM8.out.step hbx)
          clear hbx
          clear m0 m1 m2 mf0 mf1 mf2
          go_wp2_with fail
          refine (unpack_any _ (by rw [packS_length]; omega) _ _ _ _ _ HU1.out).mono ?_
          rintro e w10 ⟨rfl, hbx⟩
          have HP10 := Lib.hid (HP9.out.step hbx)
          have HB10 := Lib.hid (HB9.out.step hbx)
          have HM10 := Lib.hid (HM9.out.step hbx)
          clear hbx
          obtain ⟨m0, m1, m2, -, -, -⟩ := cells3 HM10.out
          have lM := HM10.out.lt
          go_wp2_with fail
          clear m0 m1 m2 lM
          have HA11 := Lib.hid (Blk.new w10 62 #[.int .i64 e1, .int .i64 b1, .int .i64 c1])
          have hbx : Below w10.heap.size w10 (w10.alloc (.cells #[.int .i64 e1, .int .i64 b1, .int .i64 c1] 62)) := (Below.refl _ _).alloc (Nat.le_refl _) _
          have HP11 := Lib.hid (HP10.out.step hbx)
          have HB11 := Lib.hid (HB10.out.step hbx)
          have HM11 := Lib.hid (HM10.out.step hbx)
          obtain ⟨gA, hgA⟩ : ∃ q, w10.heap.size = q := ⟨_, rfl⟩
          rw [hgA] at HA11 ⊢
          clear hbx hgA
          generalize w10.alloc (.cells #[.int .i64 e1, .int .i64 b1, .int .i64 c1] 62) = w11 at HP11 HB11 HM11 HA11 ⊢
          refine (safe_any _ g gm _ _ _ _ tt2 HP11.out.1 HW2.out).mono ?_
          rw [HF2.out]
          rintro e w12 ⟨rfl, hbx⟩
          have HP12 := Lib.hid (HP11.out.step hbx)
          have HB12 := Lib.hid (HB11.out.step hbx)
          have HM12 := Lib.hid (HM11.out.step hbx)
          have HA12 := Lib.hid (HA11.out.step hbx)
          clear hbx
          go_wp2_with fail
          refine (unpack_any _ (by rw [packS_length]; omega) _ _ _ _ _ HU2.out).mono ?_
          rintro e w13 ⟨rfl, hbx⟩
          have HP13 := Lib.hid (HP12.out.step hbx)
          have HB13 := Lib.hid (HB12.out.step hbx)
          have HM13 := Lib.hid (HM12.out.step hbx)
          have HA13 := Lib.hid (HA12.out.step hbx)
          clear hbx
          have hbx : Below w13.heap.size w13 (w13.alloc (.cells #[.int .i64 e0, .int .i64 b0, .int .i64 c0'] 62)) := (Below.refl _ _).alloc (Nat.le_refl _) _
          have lM := HM13.out.lt
          have lA := HA13.out.lt
          have lB := HB13.out.lt
          obtain ⟨m0, m1, m2, -, -, -⟩ := cells3 HM13.out
          obtain ⟨a0, a1, a2, -, -, -⟩ := cells3 HA13.out
          obtain ⟨o0, o1, o2, -, -, -⟩ := cells3 HB13.out
          have HP14 := Lib.hid (HP13.out.step hbx)
          have HB14 := Lib.hid (HB13.out.step hbx)
          have HM14 := Lib.hid (HM13.out.step hbx)
          clear hbx
          go_wp2_with fail
          refine (waiting_any _ g gm _ _ _ _ HP14.out.1 (by rw [HWT.out]; decide)).mono ?_
          rintro e w15 ⟨vw, rfl, ho15, hbx⟩
          rw [HWT.out] at ho15
          obtain ⟨pw, cw, rfl⟩ := ho15.form
          have HP15 := Lib.hid (HP14.out.step hbx)
          have HB15 := Lib.hid (HB14.out.step hbx)
          have HM15 := Lib.hid (HM14.out.step hbx)
          clear hbx ho15 m0 m1 m2 a0 a1 a2 o0 o1 o2 lM lA lB
          obtain ⟨m0, m1, m2, -, -, -⟩ := cells3 HM15.out
          obtain ⟨o0, o1, o2, of0, of1, of2⟩ := cells3 HB15.out
          go_wp2_with fail
          have hq1 := HP15.out.set HB15.out (by decide) (by decide) (by decide) HWO.out 0 (.int .i64 e1)
          have hb1 := HB15.out.set_ 0 (.int .i64 e1)
          have hq2 := hq1.set hb1 (by decide) (by decide) (by decide) HWO.out 1 (.int .i64 b1)
          have hb2 := hb1.set_ 1 (.int .i64 b1)
          have hq3 := hq2.set hb2 (by decide) (by decide) (by decide) HWO.out 2 (.int .i64 c1)
          have hb3 := hb2.set_ 2 (.int .i64 c1)
          refine Handed.intro (gk - 1) (by omega) (hJ2 _ _ _ ⟨j + 1, v6, cap6, D6, X6, by omega, by omega, by rw [HTK.out, HRR.out]; exact hq3, HAR6.out, by rw [HM.out]; exact HEE.out, by rw [HM.out]; exact HCC.out, by rw [HM.out]; exact hb3, meet_us (by kernel_rfl)⟩)
        · have i2 : ¬ (j : Int) < 12 := by omega
          go_wp2_with fail
          exact meet_at hJ1 ⟨HP.out.below, meet_us (by kernel_rfl)⟩
      · have i1 : ¬ (j : Int) < (L.length : Int) := by omega
        go_wp2_with fail
        exact meet_at hJ1 ⟨HP.out.below, meet_us (by kernel_rfl)⟩
  · rintro a1 w5 ⟨hb, us, rfl⟩
    unfold FrT
    have HB := Lib.hid hb
    clear hb
    go_wp2_with fail
    go_ret
    exact ⟨rfl, HB.out⟩
end Go.Proofs.Ytiighehibiijcaa

namespace Go.Proofs.Ytiighehibiijcaa.slotsTurnsLaw
open Go.ChangeShapes Go.WideShapes Go.ChangeAt Go.RowKit
open Go.ChangeMaps (open_string shut_string)
set_option linter.unusedVariables false

theorem own : ownKnob Try.prog.godebug = none := by kernel_rfl
theorem laidOut : laidOutB Try.prog = true := by kernel_rfl

set_option maxRecDepth 100000 in
theorem lifted (os : Os) (started : os.Started) (H : Type) (enc : TypeId × Value → H) :
    ReturnsInHanded {} Try.checked os 13 .any (Rows.slotsTurnsSpec.pre6 enc Try.prog Try.f13 Rows.slotsTurnsRow.domain false) (Rows.slotsTurnsSpec.post enc Try.prog Try.f13 false true false false) := by
  refine returnsInHanded_of_change (C := Try.checked) own started (by kernel_rfl) Try.func13
    (ChangeSpec.witness6 (enc := enc) (C := Try.checked) false ⟨#[], #[.slice none 0 0], []⟩ 16 (by kernel_rfl) (by kernel_rfl) (by kernel_rfl) (by kernel_rfl)) ?_
  intro W base args ds gs before hval0 hW hcnd _
  have hval : ∀ (j : Nat) t v, Try.f13.params[j]? = some t → args[j]? = some v → Value.okWide Try.prog W .any base t v := hval0
  have hW' := hW
  obtain ⟨p, q, hA0, hV, rfl, hfz, hnd⟩ := hW
  have hA : DataW.TrodAll enc Try.prog W 0 (fun _ => true) true Try.f13.params.toList args.toList ds p := hA0
  rw [Try.params13] at hA hval
  obtain ⟨v0, vs0, d0, ds0, p0, q0, hargs, rfl, rfl, h0, r0⟩ := trodAll_cons hA
  obtain ⟨rfl, rfl, rfl⟩ := trodAll_nil r0
  obtain rfl : args = #[v0] := by cases args; simp_all
  obtain ⟨rfl, rfl⟩ := trodVars_none hV
  have k0 := h0
  have lt0 : ∀ x ∈ p0, x.block < W.heap.size := by obtain ⟨m, hm⟩ := k0; exact DataW.trod_lt m _ _ _ hm
  obtain ⟨L0, hL0⟩ := open_strl Try.underlying54 Try.underlying9 (by kernel_rfl) (hval 0 54 v0 rfl rfl) h0
  clear hA0 hval0
  have hw := slotsTurns_any v0 L0 W hL0
  refine hw.mono fun e W' ⟨he, bel⟩ => ?_
  subst he
  exact ⟨_, rfl, _, _, _, [], _, [], hW', trodAll_mk1 (shut_bool Try.underlying4 _), (trodAll_cons_mk (Below.trod laidOut (by kernel_rfl) (of_decide_eq_true (by kernel_rfl)) k0 bel lt0) trodAll_mk0), rfl, bel.frame _, fun h => by cases h⟩

theorem over : Rows.slotsTurnsRow.holds Try.pinned (OpenSpec.ofChange Rows.slotsTurnsSpec) :=
  OpenClaim.holds_of_wide 13 Try.f13 rfl rfl rfl rfl rfl rfl rfl ⟨rfl, rfl, rfl, rfl, rfl⟩ rfl rfl rfl rfl rfl (by kernel_rfl) Try.func13 (by kernel_rfl)
    (of_decide_eq_true (by kernel_rfl)) (by unfold Func.isWrapper; first | (rw [if_pos (by decide +kernel)]; kernel_rfl) | (rw [if_neg (by decide +kernel)]; exact ⟨rfl, rfl⟩))
    (fun os started H enc _ => lifted os started H enc)

/-- The statement. -/
theorem proved : Rows.SlotsTurnsSaid := over
end Go.Proofs.Ytiighehibiijcaa.slotsTurnsLaw

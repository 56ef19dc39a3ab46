/-
  SlotsFull of the statements' layer 7 returns true. For any number of sectors and any records.
  The statement twinspanlaw07.SlotsFull: for every input the law returns true, and its arguments read as before. The walk is in SlotsFull; here is the row round it. No conditions.
-/
import Derived.Test.YtiighehibiijcaaMg6
import Derived.ProofKit
import Derived.OpenShut
import Derived.ShutString
import Derived.ChangeOld
import Derived.Below
namespace Go.Proofs.Ytiighehibiijcaa
open Go.RowKit
set_option linter.unusedSimpArgs false
set_option linter.unnecessarySimpa false
set_option linter.unusedVariables false

/-- The frame: what the variables hold; us: all else. -/
def FrF (v1 v5 v7 v8 v11 v12 : Value) (us : Nat → Value) : Act := ⟨#[us 0, v1, us 2, us 3, us 4, v5, us 6, v7, v8, us 9, us 10, v11, v12, us 13, us 14, us 15, us 16, us 17, us 18, us 19, us 20, us 21, us 22, us 23, us 24, us 25, us 26, us 27, us 28, us 29, us 30, us 31, us 32, us 33, us 34, us 35, us 36, us 37, us 38, us 39, us 40, us 41, us 42, us 43, us 44, us 45, us 46, us 47, us 48, us 49, us 50, us 51, us 52, us 53, us 54, us 55, us 56, us 57, us 58, us 59, us 60, us 61, us 62, us 63, us 64, us 65, us 66, us 67, us 68, us 69, us 70, us 71, us 72, us 73, us 74, us 75, us 76, us 77, us 78, us 79, us 80, us 81, us 82, us 83, us 84, us 85, us 86, us 87, us 88, us 89, us 90, us 91, us 92, us 93, us 94, us 95, us 96, us 97, us 98, us 99, us 100, us 101, us 102, us 103, us 104, us 105, us 106, us 107, us 108, us 109, us 110, us 111, us 112, us 113, us 114, us 115, us 116, us 117, us 118, us 119, us 120, us 121, us 122, us 123, us 124, us 125, us 126, us 127, us 128, us 129, us 130, us 131, us 132, us 133, us 134, us 135, us 136, us 137, us 138, us 139, us 140, us 141, us 142, us 143, us 144, us 145, us 146, us 147, us 148, us 149, us 150, us 151, us 152, us 153, us 154, us 155], []⟩
theorem cell_one_at {w : World} {b : Nat} (hb : w.heap.size = b) (x : Value) (t : TypeId) : ∀ j u, [x][j]? = some u → (w.alloc (.cells #[x] t)).cell? ((⟨b, 0, none⟩ : Addr).add j) = some u := by
  subst hb; exact cell_one_new w x t

set_option maxRecDepth 100000 in
set_option maxHeartbeats 16000000 in
theorem slotsFull_any (a : Int) (v0 : Value) (L : List (List UInt8)) (w : World) (hL : ReadS w v0 L) :
    Calls Try.prog 11 #[.int .i64 a, v0] w fun e w' => e = .returned (.bool true) ∧ Below w.heap.size w w' := by
  obtain ⟨i0, hi, hz0, hz1, hz2⟩ : ∃ i, Try.prog.info? 9 = some i ∧ i.zero = some (.string ByteArray.empty) ∧ i.size = 1 ∧ i.bytes = 16 := info_parts (by kernel_rfl)
  obtain ⟨p0, c0, rfl, hmax, hcell⟩ := hL
  have HCELL := Lib.hid hcell
  clear hcell hmax
  obtain ⟨q, hq⟩ : ∃ q, bits .and .i64 a 7 = q ∧ 0 ≤ q ∧ q < 8 := ⟨_, rfl, by rw [i64_and3]; omega, by rw [i64_and3]; omega⟩
  obtain ⟨hq, hq0, hq8⟩ := hq
  obtain ⟨N, hN⟩ : ∃ N, 3 + q = N := ⟨_, rfl⟩
  have n0 : 3 ≤ N := by omega
  have n1 : N ≤ 10 := by omega
  have n2 : 1 ≤ N := by omega
  have n3 : N ≤ 4096 := by omega
  have hop := (Live.new n0 n3).open
  have HOP := Lib.hid hop
  have HR := Lib.hid (show roomD (newD N) - (⟨(0, 0, 0), [], false⟩ : Log).mark.2.1 = (N - 2) * 64 by unfold roomD; show (N - 2) * 64 - 0 = _; omega)
  clear hop
  go_enter Try.func11, Try.ntmps11
  go_wp2_with fail
  refine (awake07_any _).mono ?_
  rintro e w0 ⟨rfl, hb0⟩
  go_wp2_with fail
  refine (new_any _ N n2 n3).mono ?_
  rintro e w1 ⟨rfl, hd1, hb1⟩
  obtain ⟨g, hg⟩ : ∃ g, w0.heap.size + 1 = g := ⟨_, rfl⟩
  obtain ⟨gm, hgm⟩ : ∃ gm, w0.heap.size = gm := ⟨_, rfl⟩
  have hWg : w.heap.size ≤ gm := by have := hb0.size; omega
  rw [hg, hgm] at hd1
  rw [hg]
  have HD1 := Lib.hid hd1
  have B1 := Lib.hid (bel_step hb0 hb1)
  clear hd1 hg hgm hb0 hb1
  go_wp2_with fail
  refine (open_any _ g gm _ _ _ _ HD1.out (show 0 ≤ N by omega) n3 (fun k s h => by cases h) (by intro p hp; cases hp) (by show (0 : Nat) < 4611686018427; decide) _ HOP.out).mono ?_
  rintro e w2 ⟨⟨h, va, rfl, hh, hx, ha⟩, hb2⟩
  have HP2 := Lib.hid (Holds.start n0 n3 HD1.out B1.out hWg hx hh hb2)
  clear hx hh hb2 ha
  go_wp2_with fail
  refine (logRoom_any _ h g gm _ _ _ _ _ HP2.out.2.1 HP2.out.1 (show 0 ≤ N by omega) n3 (by decide) (by decide)).mono ?_
  rw [HR.out]
  rintro e w3 ⟨rfl, hb3⟩
  have HP3 := Lib.hid (HP2.out.step hb3)
  clear hb3
  go_upto_block 0 with fail
  clear HP2 HD1 B1 hWg HR HOP hq hq0 hq8 hN
  refine wp_cut (fun a' w' => ∃ (v tv : Value) (cap : Nat) (D : Dev) (X : Log) (T : List (List UInt8)), Holds w w' g gm h v cap D X T N 1000 ∧ OwnS w' w.heap.size tv T ∧ ∃ us, a' = FrF (.slice p0 L.length c0) (.bool true) (.pointer (some ⟨g, 0, none⟩)) (.pointer (some ⟨h, 0, none⟩)) tv (us 12) us) ?_ ?_
  rotate_left
  · intro J1 K1 hJ1 hK1
    go_wp2_with fail
    refine wp_loop_ghost_k (fun k' a' w' => ∃ (j : Nat) (v tv : Value) (cap : Nat) (D : Dev) (X : Log) (T : List (List UInt8)), j + k' = L.length ∧ j ≤ 30 ∧ T.length ≤ j ∧ X.mark.1 = (T.length : Int) ∧ Holds w w' g gm h v cap D X T N (30 * j) ∧ D.armed = false ∧ OwnS w' w.heap.size tv T ∧ ∃ us, a' = FrF (.slice p0 L.length c0) (.bool true) (.pointer (some ⟨g, 0, none⟩)) (.pointer (some ⟨h, 0, none⟩)) tv (.int .i64 j) us) L.length ?_ ?_
    · exact ⟨0, _, _, _, _, _, [], by omega, by omega, by simp, rfl, HP3.out, rfl, OwnS.none _ _, meet_us (by kernel_rfl)⟩
    · intro gk a0 wr hinv
      obtain ⟨j, v, tv, cap, D, X, T, hj, hj30, hT, he, hp, har, ho, us, rfl⟩ := hinv
      intro J2 K2 hJ2 hK2
      unfold FrF
      have HP := Lib.hid hp
      have HO := Lib.hid ho
      have HAR := Lib.hid har
      clear hp HP3 ho har
      by_cases h1 : j < L.length
      · have i1 : (j : Int) < (L.length : Int) := by omega
        by_cases h2 : j < 30
        · have i2 : (j : Int) < 30 := by omega
          obtain ⟨b, of, rfl, hbw, hcl⟩ := HCELL.out (by omega)
          have k0 := (HP.out.below.cell (p := ⟨b, of + j, none⟩) hbw).trans (hcl j h1)
          clear hcl
          go_wp2_with fail
          refine (short_any _ 80 _).mono ?_
          rintro e w5 ⟨rfl, rfl⟩
          have HP5 := HP
          have HO5 := HO
          clear k0
          obtain ⟨r0, hr0⟩ : ∃ r, (L[j]).take 80 = r := ⟨_, rfl⟩
          have HRR := Lib.hid hr0
          have hr80 : r0.length ≤ 80 := by rw [← hr0, List.length_take]; omega
          rw [hr0]
          clear hr0
          obtain ⟨e0, b0, c1, hmk⟩ : ∃ e0 b0 c1, X.mark = (e0, b0, c1) := ⟨_, _, _, rfl⟩
          have HK := Lib.hid hmk
          have hmo := HP5.out.live.mk_ok
          have hby := HP5.out.live.disk.bytes
          have hrm := HP5.out.live.disk.room
          have hdn := HP5.out.dn
          rw [hmk] at hmo hby he
          obtain ⟨mo1, mo2, mo3, mo4, mo5, mo6⟩ := hmo
          simp only [] at mo1 mo2 mo3 mo4 mo5 mo6 hby he
          have hRD : roomD D = (N - 2) * 64 := by unfold roomD; rw [hdn]
          obtain ⟨R0, hR0⟩ : ∃ R, roomD D - b0 = R := ⟨_, rfl⟩
          have HR0 := Lib.hid (show roomD D - X.mark.2.1 = R0 by rw [hmk]; exact hR0)
          have hR1 : 0 ≤ R0 := by omega
          have hR2 : R0 ≤ 1000 := by omega
          have hb1 : b0 ≤ 1000 := by omega
          have HDN := Lib.hid hdn
          have HRD := Lib.hid hRD
          have HBY := Lib.hid hby
          have HR00 := Lib.hid hR0
          have HEE := Lib.hid he
          have tm := tRec_most r0
          have tl := tRec_least r0 (by omega)
          clear hmk hdn hRD hby hrm hR0 he
          go_wp2_with fail
          refine (logRoom_any _ h g gm _ _ _ _ _ HP5.out.2.1 HP5.out.1 (by rw [HDN.out]; omega) (by rw [HDN.out]; omega) (by rw [HK.out]; show _ ≤ b0; omega) (by rw [HK.out]; show b0 ≤ _; omega)).mono ?_
          rw [HR0.out]
          rintro e w6 ⟨rfl, hbx⟩
          have HP6 := Lib.hid (HP5.out.step hbx)
          have HO6 := Lib.hid (HO5.out.step hbx)
          clear hbx
          go_wp2_with fail
          refine (logMark_any _ h g X HP6.out.2.1).mono ?_
          rw [HK.out]
          rintro e w7 ⟨rfl, hbx⟩
          have HP7 := Lib.hid (HP6.out.step hbx)
          have HO7 := Lib.hid (HO6.out.step hbx)
          clear hbx
          go_wp2_with fail
          change Calls _ _ _ (w7.alloc (.cells #[.int .i64 e0, .int .i64 b0, .int .i64 c1] 62)) _
          have HM8 := Lib.hid (Blk.new w7 62 #[.int .i64 e0, .int .i64 b0, .int .i64 c1])
          have hbx : Below w7.heap.size w7 (w7.alloc (.cells #[.int .i64 e0, .int .i64 b0, .int .i64 c1] 62)) := (Below.refl _ _).alloc (Nat.le_refl _) _
          have HP8 := Lib.hid (HP7.out.step hbx)
          have HO8 := Lib.hid (HO7.out.step hbx)
          obtain ⟨gM, hgM⟩ : ∃ q, w7.heap.size = q := ⟨_, rfl⟩
          rw [hgM] at HM8 ⊢
          clear hbx hgM
          generalize w7.alloc (.cells #[.int .i64 e0, .int .i64 b0, .int .i64 c1] 62) = w8 at HP8 HO8 HM8 ⊢
          by_cases hfit : ((recsB T ++ tRec r0).length : Int) ≤ roomD D
          · skip
            refine (HP8.out.commit HAR.out hfit (by omega) (by rw [HK.out]; show e0 < _; rw [HEE.out]; omega) (by omega) (by omega)).mono ?_
            rintro e w9 ⟨rfl, v9, cap9, D9, X9, hp9, har9, hm9, -, ht9⟩
            have HM9 := Lib.hid (HP8.out.1.keepL ht9 HP8.out.2.1 HM8.out (by decide) (by decide) (by decide))
            have HO9 := Lib.hid (HO8.out.keepL HP8.out.1 ht9 HP8.out.2.1)
            have HP9 := Lib.hid hp9
            have HAR9 := Lib.hid har9
            obtain ⟨t, ht⟩ : ∃ t : Nat, (tRec r0).length = t := ⟨_, rfl⟩
            have hm10 : X9.mark = (e0 + 1, b0 + (t : Int), c1 + 1) := by rw [hm9]; unfold nextM; rw [HK.out, ht]
            have HK9 := Lib.hid hm10
            have HDN9 := Lib.hid hp9.dn
            have hft := hfit
            rw [List.length_append, ht] at hft
            rw [ht] at tm tl
            have hRD9 : roomD D9 = roomD D := by unfold roomD; rw [HDN9.out, HDN.out]
            have HR9 := Lib.hid (show roomD D9 - X9.mark.2.1 = R0 - t by rw [hm10, hRD9]; have := HR00.out; show roomD D - (b0 + (t : Int)) = R0 - t; omega)
            have hR3 : (t : Int) ≤ R0 := by have := HR00.out; have := HBY.out; omega
            have ht9b : t ≤ 1000 := by omega
            have hs1 : b0 + (t : Int) - b0 = (t : Int) := by omega
            have hs2 : R0 - (R0 - (t : Int)) = (t : Int) := by omega
            have hs3 : ¬ (t : Int) < (r0.length : Int) + 9 := by omega
            have hs4 : decide ((t : Int) < (r0.length : Int) + 9) = false := by simp; omega
            clear hp9 ht9 har9 hm9 hm10 hfit hft ht hRD9
            go_wp2_with fail
            refine (logMark_any _ h g X9 HP9.out.2.1).mono ?_
            rw [HK9.out]
            rintro e w10 ⟨rfl, hbx⟩
            have HP10 := Lib.hid (HP9.out.step hbx)
            have HO10 := Lib.hid (HO9.out.step hbx)
            have HM10 := Lib.hid (HM9.out.step hbx)
            clear hbx
            have hbx : Below w10.heap.size w10 (w10.alloc (.cells #[.int .i64 (e0 + 1), .int .i64 (b0 + (t : Int)), .int .i64 (c1 + 1)] 62)) := (Below.refl _ _).alloc (Nat.le_refl _) _
            have HP11 := Lib.hid (HP10.out.step hbx)
            have HO11 := Lib.hid (HO10.out.step hbx)
            have HM11 := Lib.hid (HM10.out.step hbx)
            have HN11 := Lib.hid (Blk.new w10 62 #[.int .i64 (e0 + 1), .int .i64 (b0 + (t : Int)), .int .i64 (c1 + 1)])
            have hln := HO11.out.fits
            have hsz : (w10.alloc (.cells #[.int .i64 (e0 + 1), .int .i64 (b0 + (t : Int)), .int .i64 (c1 + 1)] 62)).heap.size = w10.heap.size + 1 := by simp
            have z10 : w.heap.size ≤ w10.heap.size := HP10.out.below.size
            clear hbx
            have hoa := HO11.out.alloc (.cells #[str r0] 9)
            have HOA := Lib.hid hoa
            clear hoa
            go_wp2_with (at_builtin; refine wpList_append_own _ rfl _ _ 54 rfl w.heap.size 9 i0 (.string ByteArray.empty) 1 16 Try.underlying54 hi hz0 hz1 hz2 rfl (by decide) _ _ _ rfl HOA.out ⟨w10.heap.size + 1, 0, none⟩ 1 1 [str r0] rfl rfl (cell_one_at hsz _ _) (by simp [Value.oneCell']) (by unfold maxLen; omega) (by omega) (by simp; omega) ?_; intro v' w12 hown' hgrow _)
            have hbx : Below (w10.alloc (.cells #[.int .i64 (e0 + 1), .int .i64 (b0 + (t : Int)), .int .i64 (c1 + 1)] 62)).heap.size (w10.alloc (.cells #[.int .i64 (e0 + 1), .int .i64 (b0 + (t : Int)), .int .i64 (c1 + 1)] 62)) ((w10.alloc (.cells #[.int .i64 (e0 + 1), .int .i64 (b0 + (t : Int)), .int .i64 (c1 + 1)] 62)).alloc (.cells #[str r0] 9)) := (Below.refl _ _).alloc (Nat.le_refl _) _
            have HP12 := Lib.hid ((HP11.out.step hbx).grownS HOA.out (Nat.le_refl _) hgrow)
            have HM12 := Lib.hid ((HM11.out.step hbx).grownS HOA.out (by decide) hgrow)
            have HN12 := Lib.hid ((HN11.out.step hbx).grownS HOA.out (by decide) hgrow)
            have HO12 := Lib.hid (OwnS.push hown')
            clear hown' hgrow hbx hln hsz z10
            obtain ⟨gN, hgN⟩ : ∃ q, w10.heap.size = q := ⟨_, rfl⟩
            rw [hgN] at HN12 ⊢
            clear hgN
            obtain ⟨m0, m1, m2, -, -, -⟩ := cells3 HM12.out
            obtain ⟨k0, k1, k2, -, -, -⟩ := cells3 HN12.out
            have hroom : ∀ q, Calls Try.prog 42 #[.pointer (some ⟨h, 0, none⟩)] (w12.drewN q) fun e w'' => e = .returned (.int .i64 (R0 - (t : Int))) ∧ ∃ m, w'' = w12.drewN m := fun q => quiet_log (by
              have := logRoom_quiet (w12.drewN q) h g gm _ _ _ D9 X9 HP12.out.2.1 (HP12.out.1.drew q) (by rw [HDN9.out]; omega) (by rw [HDN9.out]; omega) (by have := HR9.out; have := HK9.out; rw [this]; show _ ≤ b0 + (t : Int); omega) (by have := HK9.out; rw [this]; show b0 + (t : Int) ≤ _; omega)
              rw [HR9.out] at this
              exact this)
            have HRM := Lib.hid hroom
            clear hroom
            go_quiet ((go_at_call 42; exact HRM.out _))
            go_wp2_with fail
            refine Handed.intro (gk - 1) (by omega) (hJ2 _ _ _ ⟨j + 1, v9, _, cap9, D9, X9, T ++ [r0], by omega, by omega, by simp; omega, by rw [HK9.out]; show e0 + 1 = _; rw [HEE.out, List.length_append]; simp, HP12.out.step (below_drewN w12 nq), HAR9.out, HO12.out.step (below_drewN w12 nq), meet_us (by kernel_rfl)⟩)
          · have hfull : roomD D < ((recsB T ++ tRec r0).length : Int) := by omega
            clear hfit
            refine (HP8.out.commitFull hfull (by omega) (by omega)).mono ?_
            rintro e w9 ⟨rfl, v9, cap9, hp9, ht9⟩
            have HM9 := Lib.hid (HP8.out.1.keepL ht9 HP8.out.2.1 HM8.out (by decide) (by decide) (by decide))
            have HO9 := Lib.hid (HO8.out.keepL HP8.out.1 ht9 HP8.out.2.1)
            have HP9 := Lib.hid hp9
            clear hp9 ht9
            have hle : ((recsB T ++ tRec r0).length : Int) = b0 + ((tRec r0).length : Int) := by rw [List.length_append, HBY.out]; omega
            have hf1 : R0 < (r0.length : Int) + 13 := by
              have := HR00.out
              omega
            have hf2 : decide ((r0.length : Int) + 13 ≤ R0) = false := by simp; omega
            have hf3 : ¬ (r0.length : Int) + 13 ≤ R0 := by omega
            clear hfull hle
            go_wp2_with fail
            refine (logMark_any _ h g X HP9.out.2.1).mono ?_
            rw [HK.out]
            rintro e w10 ⟨rfl, hbx⟩
            have HP10 := Lib.hid (HP9.out.step hbx)
            have HO10 := Lib.hid (HO9.out.step hbx)
            have HM10 := Lib.hid (HM9.out.step hbx)
            clear hbx
            have lM := HM10.out.lt
            obtain ⟨m0, m1, m2, -, -, -⟩ := cells3 HM10.out
            have hbx : Below w10.heap.size w10 (w10.alloc (.cells #[.int .i64 e0, .int .i64 b0, .int .i64 c1] 62)) := (Below.refl _ _).alloc (Nat.le_refl _) _
            have HP11 := Lib.hid (HP10.out.step hbx)
            have HO11 := Lib.hid (HO10.out.step hbx)
            clear hbx
            go_wp2_with fail
            refine (logRoom_any _ h g gm _ _ _ _ _ HP11.out.2.1 HP11.out.1 (by rw [HDN.out]; omega) (by rw [HDN.out]; omega) (by rw [HK.out]; show _ ≤ b0; omega) (by rw [HK.out]; show b0 ≤ _; omega)).mono ?_
            rw [HR0.out]
            rintro e w12 ⟨rfl, hbx⟩
            have HP12 := Lib.hid (HP11.out.step hbx)
            have HO12 := Lib.hid (HO11.out.step hbx)
            clear hbx
            go_wp2_with fail
            have HBR := Lib.hid HP12.out.live.ok
            refine (logBroken_any _ h g X HP12.out.2.1).mono ?_
            rw [HBR.out]
            rintro e w13 ⟨rfl, rfl⟩
            go_wp2_with fail
            refine Handed.intro (gk - 1) (by omega) (hJ2 _ _ _ ⟨j + 1, v9, _, cap9, D, X, T, by omega, by omega, by omega, by rw [HK.out]; exact HEE.out, HP12.out, HAR.out, HO12.out, meet_us (by kernel_rfl)⟩)
        · have i2 : ¬ (j : Int) < 30 := by omega
          go_wp2_with fail
          exact meet_at hJ1 ⟨_, _, _, _, _, _, ⟨HP.out.1, HP.out.2.1, HP.out.live, HP.out.2.2.2.1.le (by omega), HP.out.2.2.2.2.1, HP.out.2.2.2.2.2.1, HP.out.below, by exact Nat.le_trans HP.out.2.2.2.2.2.2.2 (Nat.mul_le_mul_right 140000 (show 30 * j ≤ 1000 by omega))⟩, HO.out, meet_us (by kernel_rfl)⟩
      · have i1 : ¬ (j : Int) < (L.length : Int) := by omega
        go_wp2_with fail
        exact meet_at hJ1 ⟨_, _, _, _, _, _, ⟨HP.out.1, HP.out.2.1, HP.out.live, HP.out.2.2.2.1.le (by omega), HP.out.2.2.2.2.1, HP.out.2.2.2.2.2.1, HP.out.below, by exact Nat.le_trans HP.out.2.2.2.2.2.2.2 (Nat.mul_le_mul_right 140000 (show 30 * j ≤ 1000 by omega))⟩, HO.out, meet_us (by kernel_rfl)⟩
  · rintro a1 w5 ⟨v, tv, cap, D, X, T, hp, ho, us, rfl⟩
    unfold FrF
    have HP := Lib.hid hp
    have HO := Lib.hid ho
    have hdn := hp.dn
    have hw : D.waits = [] := hp.live.waits
    clear hp ho
    go_wp2_with fail
    refine (open_any _ g gm _ _ _ _ HP.out.1 (by omega) (by omega) HP.out.live.disk.safe HP.out.live.disk.wait (by rw [hw]; decide) _ HP.out.live.open).mono ?_
    rintro e w6 ⟨⟨h6, vl, rfl, hh6, hx6, hl6⟩, hb6⟩
    have HL6 := Lib.hid hl6
    have HO6 := Lib.hid (HO.out.step hb6)
    have HP6 := Lib.hid (HP.out.step hb6)
    clear hl6 hb6 hx6 hh6
    go_wp2_with fail
    refine (same_any vl tv T T _ _ _ HL6.out HO6.out).mono ?_
    rw [sameL_refl]
    rintro e w7 ⟨rfl, hb7⟩
    have HP7 := Lib.hid (HP6.out.step hb7)
    clear hb7
    go_wp2_with fail
    go_ret
    exact ⟨rfl, HP7.out.below⟩
end Go.Proofs.Ytiighehibiijcaa

namespace Go.Proofs.Ytiighehibiijcaa.slotsFullLaw
open Go.ChangeShapes Go.WideShapes Go.ChangeAt Go.RowKit
open Go.ChangeMaps (open_string shut_string)
set_option linter.unusedVariables false

theorem own : ownKnob Try.prog.godebug = none := by kernel_rfl
theorem laidOut : laidOutB Try.prog = true := by kernel_rfl

set_option maxRecDepth 100000 in
theorem lifted (os : Os) (started : os.Started) (H : Type) (enc : TypeId × Value → H) :
    ReturnsInHanded {} Try.checked os 11 .any (Rows.slotsFullSpec.pre6 enc Try.prog Try.f11 Rows.slotsFullRow.domain false) (Rows.slotsFullSpec.post enc Try.prog Try.f11 false true false false) := by
  refine returnsInHanded_of_change (C := Try.checked) own started (by kernel_rfl) Try.func11
    (ChangeSpec.witness6 (enc := enc) (C := Try.checked) false ⟨#[], #[.int .i64 0, .slice none 0 0], []⟩ 16 (by kernel_rfl) (by kernel_rfl) (by kernel_rfl) (by kernel_rfl)) ?_
  intro W base args ds gs before hval0 hW hcnd _
  have hval : ∀ (j : Nat) t v, Try.f11.params[j]? = some t → args[j]? = some v → Value.okWide Try.prog W .any base t v := hval0
  have hW' := hW
  obtain ⟨p, q, hA0, hV, rfl, hfz, hnd⟩ := hW
  have hA : DataW.TrodAll enc Try.prog W 0 (fun _ => true) true Try.f11.params.toList args.toList ds p := hA0
  rw [Try.params11] at hA hval
  obtain ⟨v0, vs0, d0, ds0, p0, q0, hargs, rfl, rfl, h0, r0⟩ := trodAll_cons hA
  obtain ⟨v1, vs1, d1, ds1, p1, q1, rfl, rfl, rfl, h1, r1⟩ := trodAll_cons r0
  obtain ⟨rfl, rfl, rfl⟩ := trodAll_nil r1
  obtain rfl : args = #[v0, v1] := by cases args; simp_all
  obtain ⟨rfl, rfl⟩ := trodVars_none hV
  have k0 := h0
  have lt0 : ∀ x ∈ p0, x.block < W.heap.size := by obtain ⟨m, hm⟩ := k0; exact DataW.trod_lt m _ _ _ hm
  have k1 := h1
  have lt1 : ∀ x ∈ p1, x.block < W.heap.size := by obtain ⟨m, hm⟩ := k1; exact DataW.trod_lt m _ _ _ hm
  obtain ⟨a0, rfl, rfl, rfl, w0⟩ := open_int Try.underlying3 (hval 0 3 v0 rfl rfl) h0
  obtain ⟨L1, hL1⟩ := open_strl Try.underlying54 Try.underlying9 (by kernel_rfl) (hval 1 54 v1 rfl rfl) h1
  clear hA0 hval0
  have hw := slotsFull_any a0 v1 L1 W hL1
  refine hw.mono fun e W' ⟨he, bel⟩ => ?_
  subst he
  exact ⟨_, rfl, _, _, _, [], _, [], hW', trodAll_mk1 (shut_bool Try.underlying4 _), (trodAll_cons_mk (Below.trod laidOut (by kernel_rfl) (of_decide_eq_true (by kernel_rfl)) k0 bel lt0) (trodAll_cons_mk (Below.trod laidOut (by kernel_rfl) (of_decide_eq_true (by kernel_rfl)) k1 bel lt1) trodAll_mk0)), rfl, bel.frame _, fun h => by cases h⟩

theorem over : Rows.slotsFullRow.holds Try.pinned (OpenSpec.ofChange Rows.slotsFullSpec) :=
  OpenClaim.holds_of_wide 11 Try.f11 rfl rfl rfl rfl rfl rfl rfl ⟨rfl, rfl, rfl, rfl, rfl⟩ rfl rfl rfl rfl rfl (by kernel_rfl) Try.func11 (by kernel_rfl)
    (of_decide_eq_true (by kernel_rfl)) (by unfold Func.isWrapper; first | (rw [if_pos (by decide +kernel)]; kernel_rfl) | (rw [if_neg (by decide +kernel)]; exact ⟨rfl, rfl⟩))
    (fun os started H enc _ => lifted os started H enc)

/-- The statement. -/
theorem proved : Rows.SlotsFullSaid := over
end Go.Proofs.Ytiighehibiijcaa.slotsFullLaw

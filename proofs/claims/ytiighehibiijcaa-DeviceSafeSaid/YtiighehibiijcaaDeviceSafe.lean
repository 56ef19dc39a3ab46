/-
  The walk of DeviceSafe: it returns true for any bytes and any crash. No conditions beside those in each theorem.
-/
import Derived.Test.YtiighehibiijcaaSafePlain
import Derived.Test.YtiighehibiijcaaOpenBytes
import Derived.Test.YtiighehibiijcaaMeet
import Derived.Deep.RegionHeld3
namespace Go.Proofs.Ytiighehibiijcaa
open Go.RowKit
set_option linter.unusedSimpArgs false
set_option linter.unnecessarySimpa false
set_option linter.unusedVariables false

/-- The frame: what the variables hold; us: all else. -/
def FrS (v0 v1 v5 v7 v8 v9 v10 v11 v12 v13 v14 v15 v16 v17 : Value) (us : Nat → Value) : Act := ⟨#[v0, v1, us 2, us 3, us 4, v5, us 6, v7, v8, v9, v10, v11, v12, v13, v14, v15, v16, v17, us 18, us 19, us 20, us 21, us 22, us 23, us 24, us 25, us 26, us 27, us 28, us 29, us 30, us 31, us 32, us 33, us 34, us 35, us 36, us 37, us 38, us 39, us 40, us 41, us 42, us 43, us 44, us 45, us 46, us 47, us 48, us 49, us 50, us 51, us 52, us 53, us 54, us 55, us 56, us 57, us 58, us 59, us 60, us 61, us 62, us 63, us 64, us 65, us 66, us 67, us 68, us 69, us 70, us 71, us 72, us 73, us 74, us 75, us 76, us 77, us 78, us 79, us 80, us 81, us 82, us 83, us 84, us 85, us 86, us 87, us 88, us 89, us 90, us 91, us 92, us 93, us 94, us 95, us 96, us 97, us 98, us 99, us 100, us 101, us 102, us 103, us 104, us 105, us 106, us 107, us 108, us 109, us 110, us 111, us 112, us 113, us 114, us 115, us 116, us 117, us 118, us 119, us 120, us 121, us 122, us 123, us 124, us 125, us 126, us 127, us 128, us 129, us 130, us 131, us 132, us 133, us 134, us 135, us 136, us 137, us 138, us 139, us 140, us 141, us 142, us 143, us 144, us 145, us 146, us 147, us 148, us 149, us 150, us 151, us 152, us 153, us 154, us 155, us 156, us 157, us 158, us 159, us 160, us 161, us 162, us 163, us 164, us 165, us 166], []⟩

theorem KeepIs.ofRead {W w : World} {g gm : Nat} {v kv : Value} {cap B : Nat} {d : Dev} {ks : List Bool} (hR : ReadBl W kv ks) (hd : IsDev w g gm v cap B d) (hB : Below W.heap.size W w) (hBB : W.heap.size ≤ B) : KeepIs w g gm v kv ks := by
  obtain ⟨h1, p, c, rfl, h2⟩ := hR
  refine ⟨h1, p, c, rfl, fun h => ?_⟩
  obtain ⟨b, o, rfl, hb, hc⟩ := h2 h
  refine ⟨b, o, rfl, Nat.lt_of_lt_of_le hb hB.size, fun w' v' ht i hi => ?_⟩
  have hb2 := hd.below ht hBB hB.size
  exact ((hb2.cell (p := ⟨b, o + i, Option.none⟩) hb).trans (hB.cell (p := ⟨b, o + i, Option.none⟩) hb)).trans (hc i hi)
def firstB (L : Nat → UInt8) (m : Nat) : Nat → UInt8 := fun q => if q < m then L q else 0

set_option maxRecDepth 100000 in
set_option maxHeartbeats 8000000 in
theorem deviceSafe_walk (v1 v2 : Value) (kv : Value) (torn at_ : Int) (w : World) (n1 : Nat) (L : Nat → UInt8) (h1L : ReadB w v1 n1 L) (n2 : Nat) (G : Nat → UInt8) (h2L : ReadB w v2 n2 G) (ks : List Bool) (hks : ReadBl w kv ks) :
    Calls Try.prog 5 #[v1, v2, .agg #[kv, .int .i64 torn, .int .i64 at_]] w fun e w' => e = .returned (.bool true) ∧ Below w.heap.size w w' := by
  obtain ⟨p1, c1, rfl, hmax1, hc1⟩ := h1L
  obtain ⟨p2, c2, rfl, hmax2, hc2⟩ := h2L
  have HC1 := Lib.hid hc1
  have HC2 := Lib.hid hc2
  have HK := Lib.hid hks
  have h5 : w.heap.size ≤ w.heap.size := Nat.le_refl _
  clear hc1 hc2 hks hmax1 hmax2
  go_enter Try.func5, Try.ntmps5
  go_wp2_with fail
  obtain ⟨cutC, hcutC⟩ : ∃ c : Array Value, #[kv, .int .i64 torn, .int .i64 at_] = c := ⟨_, rfl⟩
  have CB0 := Lib.hid (Blk.new w 43 #[kv, .int .i64 torn, .int .i64 at_])
  have bA := Lib.hid ((Below.refl w.heap.size w).alloc (Nat.le_refl _) (.cells #[kv, .int .i64 torn, .int .i64 at_] 43))
  generalize w.alloc (.cells #[kv, .int .i64 torn, .int .i64 at_] 43) = wA at CB0 bA ⊢
  obtain ⟨gc, hgc⟩ : ∃ gc, w.heap.size = gc := ⟨_, rfl⟩
  rw [hgc] at CB0 ⊢
  rw [hcutC] at CB0
  have HGC := Lib.hid hgc
  have HCC := Lib.hid hcutC
  clear h5 hgc hcutC
  refine (awake06_any _).mono ?_
  rintro e w0 ⟨rfl, hb0⟩
  have CB1 := Lib.hid (CB0.out.step hb0)
  have bA := Lib.hid (bel_step bA.out hb0)
  have zA : w.heap.size ≤ w0.heap.size := bA.out.size
  clear hb0 CB0
  go_wp2_with fail
  refine (new_any _ 8 (by omega) (by omega)).mono ?_
  rintro e w1 ⟨rfl, hd1, hb1⟩
  have CB2 := Lib.hid (CB1.out.step hb1)
  obtain ⟨g, hg⟩ : ∃ g, w0.heap.size + 1 = g := ⟨_, rfl⟩
  obtain ⟨gm, hgm⟩ : ∃ gm, w0.heap.size = gm := ⟨_, rfl⟩
  rw [hg, hgm] at hd1
  rw [hg]
  have z1 := hb1.size
  rw [hgm] at zA z1
  have HD1 := Lib.hid hd1
  have B1 := Lib.hid hb1
  have HGM := Lib.hid hgm
  clear hd1 hg hgm hb1 CB1
  obtain ⟨m1, hm1⟩ : ∃ m, min n1 8 = m := ⟨_, rfl⟩
  obtain ⟨m2, hm2⟩ : ∃ m, min n2 8 = m := ⟨_, rfl⟩
  have hm18 : m1 ≤ 8 := by omega
  have hm28 : m2 ≤ 8 := by omega
  have hm1n : m1 ≤ n1 := by omega
  have hm2n : m2 ≤ n2 := by omega
  have HM1 := Lib.hid hm1
  have HM2 := Lib.hid hm2
  clear hm1 hm2
  go_upto_block 0 with fail
  refine wp_cut (fun a' w' => ∃ (v : Value) (cap : Nat) (d : Dev), cap ≤ 100 ∧ IsDev w' g gm v cap gm d ∧ Touch g gm w1 (.slice none 0 0) w' v ∧ Blk w' gc 43 cutC ∧ OnD 8 m1 m1 d ∧ (∀ q : Nat, q < 8 → readD d q = secB (firstB L m1 q)) ∧ ∃ us, a' = FrS (.slice p1 n1 c1) (.slice p2 n2 c2) (.pointer (some ⟨gc, 0, none⟩)) (.bool true) (.pointer (some ⟨g, 0, none⟩)) (us 9) (us 10) (us 11) (us 12) (us 13) (us 14) (us 15) (us 16) (us 17) us) ?_ ?_
  rotate_left
  · intro J1 K1 hJ1 hK1
    go_wp2_with fail
    refine wp_loop_ghost_k (fun k a' w' => ∃ (j : Nat) (v : Value) (cap : Nat) (d : Dev), j + k = m1 ∧ cap ≤ 100 ∧ IsDev w' g gm v cap gm d ∧ Touch g gm w1 (.slice none 0 0) w' v ∧ Blk w' gc 43 cutC ∧ OnD 8 j j d ∧ (∀ q : Nat, q < 8 → readD d q = secB (firstB L j q)) ∧ ∃ us, a' = FrS (.slice p1 n1 c1) (.slice p2 n2 c2) (.pointer (some ⟨gc, 0, none⟩)) (.bool true) (.pointer (some ⟨g, 0, none⟩)) (.int .i64 j) (us 10) (us 11) (us 12) (us 13) (us 14) (us 15) (us 16) (us 17) us) m1 ?_ ?_
    · exact ⟨0, _, 0, newD 8, by omega, by omega, HD1.out, Touch.refl _ _ _ _, CB2.out, OnD.new 8, fun q _ => rfl, meet_us (by kernel_rfl)⟩
    · intro gk a0 wr hinv
      obtain ⟨j, v, cap, d, hj, hcap, hd, ht, cb, ho, hr, us, rfl⟩ := hinv
      intro J2 K2 hJ2 hK2
      unfold FrS
      have HD := Lib.hid hd
      have HT := Lib.hid ht
      have CB := Lib.hid cb
      have HO := Lib.hid ho
      have HR := Lib.hid hr
      clear hd ht cb ho hr
      by_cases h1 : j < m1
      · have i1 : (j : Int) < (n1 : Int) := by omega
        have i2 : (j : Int) < 8 := by omega
        obtain ⟨b, o, rfl, hbw, hcl⟩ := HC1.out (by omega)
        have hB := ((bA.out.trans (B1.out.mono (by have := HGM.out; omega))).trans (HD1.out.below HT.out zA (by omega)))
        have k1 := (hB.cell (p := ⟨b, o + j, none⟩) hbw).trans (hcl j (by omega))
        have hjh : hasD 8 (j : Int) = true := by simp [hasD]; omega
        have hjw : (Lit.int .i64 (j : Int)).wf = true := by
          rw [← wrap_small (j : Int) (by omega) (by omega)]
          exact wf_wrap _ _
        have hok := HO.out.ok (by omega) (by omega)
        have HWE := Lib.hid (HO.out.writeE (s := secB (L j)) hjh (secB_length _))
        have HW := Lib.hid (HO.out.write (s := secB (L j)) hjh hjw (secB_length _))
        clear hB hcl hjh
        go_wp2_with fail
        refine (sector_any (L j) _).mono ?_
        rintro e w2 ⟨rfl, hb2⟩
        have HD2 := Lib.hid (HD.out.step hb2)
        have T2 := Lib.hid (HT.out.trans (Touch.of_below (v := v) hb2))
        have CB2 := Lib.hid (CB.out.step hb2)
        go_wp2_with fail
        refine (write_any _ g gm _ _ _ _ (j : Int) (secB (L j)) HD2.out hok).mono ?_
        rw [HWE.out]
        rintro e w3 ⟨rfl, v3, hd3, t3⟩
        have CB3 := Lib.hid (HD2.out.keep t3 CB2.out (by decide) (by decide))
        have T3 := Lib.hid (T2.out.trans t3)
        have HD3 := Lib.hid hd3
        clear hd3 t3 k1
        go_wp2_with fail
        refine Handed.intro (gk - 1) (by omega) (hJ2 _ _ _ ⟨j + 1, v3, cap, _, by omega, hcap, HD3.out, T3.out, CB3.out, HW.out.1, fun q hq => ?_, meet_us (by kernel_rfl)⟩)
        rw [HW.out.2.1]
        by_cases e : q = j
        · subst e; rw [if_pos rfl]; simp [firstB]
        · rw [if_neg (by omega), HR.out q hq]
          unfold firstB
          by_cases e2 : q < j
          · rw [if_pos e2, if_pos (by omega)]
          · rw [if_neg e2, if_neg (by omega)]
      · obtain rfl : j = m1 := by omega
        by_cases h2 : j < n1
        · have i1 : (j : Int) < (n1 : Int) := by omega
          have i2 : ¬ (j : Int) < 8 := by have := HM1.out; omega
          go_wp2_with fail
          exact meet_at hJ1 ⟨v, cap, d, hcap, HD.out, HT.out, CB.out, HO.out, HR.out, meet_us (by kernel_rfl)⟩
        · have i1 : ¬ (j : Int) < (n1 : Int) := by omega
          go_wp2_with fail
          exact meet_at hJ1 ⟨v, cap, d, hcap, HD.out, HT.out, CB.out, HO.out, HR.out, meet_us (by kernel_rfl)⟩
  · rintro a2 w2 ⟨v, cap, d, hcap, hd, ht, cb, ho, hr, us, rfl⟩
    unfold FrS
    have HD := Lib.hid hd
    have HT := Lib.hid ht
    have CB := Lib.hid cb
    have HO := Lib.hid ho
    have HR := Lib.hid hr
    have hok := ho.ok (by omega) (by omega)
    have hwl := ho.2.2.2.2.2.2.1
    have HFE := Lib.hid ho.flushE
    have HF := Lib.hid ho.flush
    clear hd ht cb ho hr CB2
    go_wp2_with fail
    refine (flush_any _ g gm _ _ _ _ HD.out hok HO.out.2.2.2.2.2.2.2.1.weak (by omega)).mono ?_
    rw [HFE.out]
    rintro e w3 ⟨rfl, v3, cap3, hc3, hd3, t3⟩
    have CB3 := Lib.hid (HD.out.keep t3 CB.out (by decide) (by decide))
    have T3 := Lib.hid (HT.out.trans t3)
    have HD3 := Lib.hid hd3
    clear hd3 t3
    obtain ⟨D3, hD3⟩ : ∃ D, flushR d = D := ⟨_, rfl⟩
    rw [hD3] at HD3 HF
    have hw3 := HF.out.2.2.2
    go_wp2_with fail
    refine (waiting_any _ g gm _ _ _ _ HD3.out (by rw [hw3]; decide)).mono ?_
    rintro e w4 ⟨v4, rfl, ho4, hb4⟩
    obtain ⟨p4, c4, rfl⟩ := ho4.form
    rw [hw3]
    have HD4 := Lib.hid (HD3.out.step hb4)
    have T4 := Lib.hid (T3.out.trans (Touch.of_below (v := v3) hb4))
    have CB4 := Lib.hid (CB3.out.step hb4)
    have HW3 := Lib.hid hw3
    have HSF := Lib.hid (fun (q : Nat) (hq : q < 8) => (HF.out.2.2.1 q).trans (HR.out q hq))
    clear ho4 hb4 hw3 hD3 HD3 T3 CB3
    go_upto_block 2 with fail
    refine wp_cut (fun a' w' => ∃ (v : Value) (cap : Nat) (d : Dev), cap ≤ 200 ∧ IsDev w' g gm v cap gm d ∧ Touch g gm w1 (.slice none 0 0) w' v ∧ Blk w' gc 43 cutC ∧ OnD 8 20 8 d ∧ d.waits = waitsG G m2 ∧ (∀ q : Nat, q < 8 → safeD d q = secB (firstB L m1 q)) ∧ ∃ us, a' = FrS (.slice p1 n1 c1) (.slice p2 n2 c2) (.pointer (some ⟨gc, 0, none⟩)) (.bool true) (.pointer (some ⟨g, 0, none⟩)) (us 9) (us 10) (us 11) (us 12) (us 13) (us 14) (us 15) (us 16) (us 17) us) ?_ ?_
    rotate_left
    · intro J1 K1 hJ1 hK1
      go_wp2_with fail
      refine wp_loop_ghost_k (fun k a' w' => ∃ (j : Nat) (v : Value) (cap : Nat) (d : Dev), j + k = m2 ∧ cap ≤ 200 ∧ IsDev w' g gm v cap gm d ∧ Touch g gm w1 (.slice none 0 0) w' v ∧ Blk w' gc 43 cutC ∧ OnD 8 (9 + j) j d ∧ d.waits = waitsG G j ∧ (∀ q : Nat, q < 8 → safeD d q = secB (firstB L m1 q)) ∧ ∃ us, a' = FrS (.slice p1 n1 c1) (.slice p2 n2 c2) (.pointer (some ⟨gc, 0, none⟩)) (.bool true) (.pointer (some ⟨g, 0, none⟩)) (us 9) (.int .i64 j) (us 11) (us 12) (us 13) (us 14) (us 15) (us 16) (us 17) us) m2 ?_ ?_
      · exact ⟨0, v3, cap3, D3, by omega, by omega, HD4.out, T4.out, CB4.out, HF.out.1.weak (by omega) (by omega), HW3.out, HSF.out, meet_us (by kernel_rfl)⟩
      · intro gk a0 wr hinv
        obtain ⟨j, v, cap, d, hj, hcap, hd, ht, cb, ho, hwt, hr, us, rfl⟩ := hinv
        intro J2 K2 hJ2 hK2
        unfold FrS
        have HD := Lib.hid hd
        have HT := Lib.hid ht
        have CB := Lib.hid cb
        have HO := Lib.hid ho
        have HR := Lib.hid hr
        have HWT := Lib.hid hwt
        clear hd ht cb ho hr hwt
        by_cases h1 : j < m2
        · have i1 : (j : Int) < (n2 : Int) := by omega
          have i2 : (j : Int) < 8 := by omega
          obtain ⟨b, o, rfl, hbw, hcl⟩ := HC2.out (by omega)
          have hB := ((bA.out.trans (B1.out.mono (by have := HGM.out; omega))).trans (HD1.out.below HT.out zA (by omega)))
          have k1 := (hB.cell (p := ⟨b, o + j, none⟩) hbw).trans (hcl j (by omega))
          by_cases hG : G j = 0
          · rw [hG] at k1
            have k1 : wr.cell? ⟨b, o + j, none⟩ = some (.int .u8 0) := k1
            clear hB hcl
            go_wp2_with fail
            refine Handed.intro (gk - 1) (by omega) (hJ2 _ _ _ ⟨j + 1, v, cap, d, by omega, hcap, HD.out, HT.out, CB.out, HO.out.weak (by omega) (by omega), ?_, HR.out, meet_us (by kernel_rfl)⟩)
            rw [HWT.out]
            simp [waitsG, hG]
          · have hG0 : (G j).toNat ≠ 0 := fun e => hG (UInt8.toNat_inj.1 (by simpa using e))
            have hGi : (((G j).toNat : Int) == 0) = false := beq_eq_false_iff_ne.2 (by omega)
            have hGi2 : (((G j).toNat : Int) != 0) = true := bne_iff_ne.2 (by omega)
            have hjh : hasD 8 (j : Int) = true := by simp [hasD]; omega
            have hjw : (Lit.int .i64 (j : Int)).wf = true := by
              rw [← wrap_small (j : Int) (by omega) (by omega)]
              exact wf_wrap _ _
            have hok := HO.out.ok (by omega) (by omega)
            have HWE := Lib.hid (HO.out.writeE (s := secB (G j)) hjh (secB_length _))
            have HW := Lib.hid (HO.out.write (s := secB (G j)) hjh hjw (secB_length _))
            have HWW := Lib.hid (show (writeR d (j : Int) (secB (G j))).waits = d.waits ++ [((j : Int), secB (G j))] by rw [writeR_on HO.out.2.1 (by rw [HO.out.1]; exact hjh) (secB_length _)]; rfl)
            have HGJ := Lib.hid hG
            clear hB hcl hjh hG hG0
            go_wp2_with fail
            refine (sector_any (G j) _).mono ?_
            rintro e w5 ⟨rfl, hb5⟩
            have HD5 := Lib.hid (HD.out.step hb5)
            have T5 := Lib.hid (HT.out.trans (Touch.of_below (v := v) hb5))
            have CB5 := Lib.hid (CB.out.step hb5)
            go_wp2_with fail
            refine (write_any _ g gm _ _ _ _ (j : Int) (secB (G j)) HD5.out hok).mono ?_
            rw [HWE.out]
            rintro e w6 ⟨rfl, v6, hd6, t6⟩
            have CB6 := Lib.hid (HD5.out.keep t6 CB5.out (by decide) (by decide))
            have T6 := Lib.hid (T5.out.trans t6)
            have HD6 := Lib.hid hd6
            clear hd6 t6 k1
            go_wp2_with fail
            refine Handed.intro (gk - 1) (by omega) (hJ2 _ _ _ ⟨j + 1, v6, cap, _, by omega, hcap, HD6.out, T6.out, CB6.out, HW.out.1.weak (by omega) (by omega), ?_, fun q hq => (HW.out.2.2 q).trans (HR.out q hq), meet_us (by kernel_rfl)⟩)
            rw [HWW.out, HWT.out]
            simp [waitsG, HGJ.out]
        · obtain rfl : j = m2 := by omega
          by_cases h2 : j < n2
          · have i1 : (j : Int) < (n2 : Int) := by omega
            have i2 : ¬ (j : Int) < 8 := by have := HM2.out; omega
            go_wp2_with fail
            exact meet_at hJ1 ⟨v, cap, d, hcap, HD.out, HT.out, CB.out, HO.out.weak (by omega) (by omega), HWT.out, HR.out, meet_us (by kernel_rfl)⟩
          · have i1 : ¬ (j : Int) < (n2 : Int) := by omega
            go_wp2_with fail
            exact meet_at hJ1 ⟨v, cap, d, hcap, HD.out, HT.out, CB.out, HO.out.weak (by omega) (by omega), HWT.out, HR.out, meet_us (by kernel_rfl)⟩
    · rintro a5 w5 ⟨v5, cap5, d5, hcap5, hd5, ht5, cb5, ho5, hwt5, hr5, us5, rfl⟩
      unfold FrS
      have HD5 := Lib.hid hd5
      have T5 := Lib.hid ht5
      have HO5 := Lib.hid ho5
      have hkeep := KeepIs.ofRead HK.out hd5 ((bA.out.trans (B1.out.mono (by have := HGM.out; omega))).trans (HD1.out.below ht5 zA (by omega))) (by omega)
      have HKP := Lib.hid hkeep
      have hwl5 := ho5.2.2.2.2.2.2.1
      have c0 : w5.cell? ⟨gc, 0, none⟩ = some kv := by rw [← HCC.out] at cb5; exact cb5.cell 0
      have c1' : w5.cell? ⟨gc, 1, none⟩ = some (.int .i64 torn) := by rw [← HCC.out] at cb5; exact cb5.cell 1
      have c2' : w5.cell? ⟨gc, 2, none⟩ = some (.int .i64 at_) := by rw [← HCC.out] at cb5; exact cb5.cell 2
      obtain ⟨cc, hcc⟩ : ∃ cc, (min (max at_ 0) 64).toNat = cc := ⟨_, rfl⟩
      have hcc64 : cc ≤ 64 := by omega
      have HMX := Lib.hid (fun (q : Nat) (hq : q < 8) => safe_mix (ks := ks) (torn := torn) (G := G) (old := firstB L m1) (k := m2) hcc64 hwt5 ho5.2.2.2.2.2.2.2.2 hr5 hq)
      have HO6 := Lib.hid (ho5.crash ks torn hcc64)
      have HN0 := Lib.hid (show d5.n ≠ 0 by rw [ho5.1]; decide)
      clear hd5 ht5 cb5 ho5 hwt5 hr5 hkeep CB4 HD4 T4
      go_wp2_with fail
      refine (crash_any _ g gm _ _ _ _ _ ks torn at_ HD5.out HKP.out HO5.out.2.2.2.2.2.2.2.2 (by rw [HO5.out.1]; exact HO5.out.2.2.2.2.2.2.2.1) HN0.out (by omega)).mono ?_
      rw [hcc]
      rintro e w6 ⟨rfl, cap6, hc6, hd6, t6⟩
      have HD6 := Lib.hid hd6
      have T6 := Lib.hid (T5.out.trans t6)
      clear hd6 t6 c0 c1' c2' HKP
      obtain ⟨D6, hD6⟩ : ∃ D, crashD ks torn cc d5 = D := ⟨_, rfl⟩
      rw [hD6] at HD6 HO6
      have HMX6 := Lib.hid (fun (q : Nat) (hq : q < 8) => hD6 ▸ HMX.out q hq)
      have HRD := Lib.hid (fun q : Int => show readD D6 q = safeD D6 q by rw [← hD6]; rfl)
      clear HMX hD6
      go_wp2_with fail
      refine wp_loop_ghost_k (fun k a' w' => ∃ q : Nat, q + k = 8 ∧ IsDev w' g gm (.slice none 0 0) cap6 gm D6 ∧ Touch g gm w1 (.slice none 0 0) w' (.slice none 0 0) ∧ ∃ us, a' = FrS (.slice p1 n1 c1) (.slice p2 n2 c2) (.pointer (some ⟨gc, 0, none⟩)) (.bool true) (.pointer (some ⟨g, 0, none⟩)) (us 9) (us 10) (.int .i64 q) (us 12) (us 13) (us 14) (us 15) (us 16) (us 17) us) 8 ?_ ?_
      · exact ⟨0, by omega, HD6.out, T6.out, meet_us (by kernel_rfl)⟩
      · intro gk a0 wr hinv
        obtain ⟨q, hq, hd, ht, us, rfl⟩ := hinv
        intro J2 K2 hJ2 hK2
        unfold FrS
        have HD := Lib.hid hd
        have HT := Lib.hid ht
        clear hd ht HD6 T6
        by_cases hq8 : q < 8
        · have i1 : (q : Int) < 8 := by omega
          have hB := ((bA.out.trans (B1.out.mono (by have := HGM.out; omega))).trans (HD1.out.below HT.out zA (by omega)))
          go_upto_if 92 with fail
          refine wp_cut (fun a' w' => w' = wr ∧ ∃ us, a' = FrS (.slice p1 n1 c1) (.slice p2 n2 c2) (.pointer (some ⟨gc, 0, none⟩)) (.bool true) (.pointer (some ⟨g, 0, none⟩)) (us 9) (us 10) (.int .i64 q) (.int .u8 (firstB L m1 q).toNat) (us 13) (us 14) (us 15) (us 16) (us 17) us) ?_ ?_
          rotate_left
          · intro J3 K3 hJ3 hK3
            by_cases h1 : q < n1
            · have i2 : (q : Int) < (n1 : Int) := by omega
              obtain ⟨b, o, rfl, hbw, hcl⟩ := HC1.out (by omega)
              have k1 := (hB.cell (p := ⟨b, o + q, none⟩) hbw).trans (hcl q h1)
              have hfb : firstB L m1 q = L q := by unfold firstB; rw [if_pos (by have := HM1.out; omega)]
              rw [hfb] at hJ3
              clear hcl hB hfb
              go_wp2_with fail
              exact meet_at hJ3 ⟨rfl, meet_us (by kernel_rfl)⟩
            · have i2 : ¬ (q : Int) < (n1 : Int) := by omega
              have hfb : firstB L m1 q = 0 := by unfold firstB; rw [if_neg (by omega)]
              rw [hfb] at hJ3
              clear hB hfb
              go_wp2_with fail
              exact meet_at hJ3 ⟨rfl, meet_us (by kernel_rfl)⟩
          · rintro a3 w3 ⟨rfl, us3, rfl⟩
            unfold FrS
            go_upto_if 100 with fail
            refine wp_cut (fun a' w' => w' = w3 ∧ ∃ us, a' = FrS (.slice p1 n1 c1) (.slice p2 n2 c2) (.pointer (some ⟨gc, 0, none⟩)) (.bool true) (.pointer (some ⟨g, 0, none⟩)) (us 9) (us 10) (.int .i64 q) (.int .u8 (firstB L m1 q).toNat) (.int .u8 (firstB G m2 q).toNat) (us 14) (us 15) (us 16) (us 17) us) ?_ ?_
            rotate_left
            · intro J3 K3 hJ3 hK3
              by_cases h1 : q < n2
              · have i2 : (q : Int) < (n2 : Int) := by omega
                obtain ⟨b, o, rfl, hbw, hcl⟩ := HC2.out (by omega)
                have k1 := (hB.cell (p := ⟨b, o + q, none⟩) hbw).trans (hcl q h1)
                have hfb : firstB G m2 q = G q := by unfold firstB; rw [if_pos (by have := HM2.out; omega)]
                rw [hfb] at hJ3
                clear hcl hB hfb
                go_wp2_with fail
                exact meet_at hJ3 ⟨rfl, meet_us (by kernel_rfl)⟩
              · have i2 : ¬ (q : Int) < (n2 : Int) := by omega
                have hfb : firstB G m2 q = 0 := by unfold firstB; rw [if_neg (by omega)]
                rw [hfb] at hJ3
                clear hB hfb
                go_wp2_with fail
                exact meet_at hJ3 ⟨rfl, meet_us (by kernel_rfl)⟩
            · rintro a4 w4 ⟨rfl, us4, rfl⟩
              unfold FrS
              obtain ⟨c, hc64, hmix, hzero⟩ := HMX6.out q hq8
              have hnow : (if q < m2 then G q else 0) = firstB G m2 q := rfl
              rw [hnow] at hmix hzero
              obtain ⟨a, ha⟩ : ∃ a, firstB G m2 q = a := ⟨_, rfl⟩
              obtain ⟨b, hb⟩ : ∃ b, firstB L m1 q = b := ⟨_, rfl⟩
              rw [ha, hb] at hmix
              rw [ha] at hzero ⊢
              rw [hb]
              have hqh : hasD 8 (q : Int) = true := by simp [hasD]; omega
              have hqw : (Lit.int .i64 (q : Int)).wf = true := by
                rw [← wrap_small (q : Int) (by omega) (by omega)]
                exact wf_wrap _ _
              obtain ⟨S, hS⟩ : ∃ S, mixB a b c = S := ⟨_, rfl⟩
              have hSl : S.length = 64 := by rw [← hS]; exact mixB_length hc64
              have hSi : (S.length : Int) = 64 := by omega
              have HAT := Lib.hid (fun (k : Nat) (hk : k < 64) => show S[k]'(by omega) = if k < c then a else b by subst hS; exact mixB_at hc64 hk)
              rw [hS] at hmix
              have HRE := Lib.hid (HO6.out.read hqh).1
              have HRS := Lib.hid ((HO6.out.read hqh).2.trans ((HRD.out q).trans hmix))
              have HSS := Lib.hid (show (if hasD D6.n (q : Int) = true then safeD D6 (q : Int) else []) = S by rw [HO6.out.1, hqh]; exact hmix)
              have hwl6 : D6.waits.length < 4611686018427 := by have := HO6.out.2.2.2.2.2.2.1; omega
              have HZ := Lib.hid hzero
              clear hmix hS hnow ha hb hB hqh hzero
              go_wp2_with fail
              refine (read_any _ g gm _ _ _ _ (q : Int) HD.out hqw hwl6).mono ?_
              rw [HRS.out, HRE.out]
              rintro e w5 ⟨rfl, hb5⟩
              have HD5 := Lib.hid (HD.out.step hb5)
              have T5 := Lib.hid (HT.out.trans (Touch.of_below (v := .slice none 0 0) hb5))
              go_wp2_with fail
              refine (safe_any _ g gm _ _ _ _ (q : Int) HD5.out hqw).mono ?_
              rw [HSS.out]
              rintro e w6 ⟨rfl, hb6⟩
              have HD6 := Lib.hid (HD5.out.step hb6)
              have T6 := Lib.hid (T5.out.trans (Touch.of_below (v := .slice none 0 0) hb6))
              clear hb5 hb6 HD5 T5
              go_wp2_with fail
              refine wp_loop_ghost_k (fun k' a' w' => ∃ (k : Nat) (tb : Bool), k + k' = 64 ∧ w' = w6 ∧ (a ≠ 0 → a ≠ b → tb = decide (c < k)) ∧ ∃ us, a' = FrS (.slice p1 n1 c1) (.slice p2 n2 c2) (.pointer (some ⟨gc, 0, none⟩)) (.bool true) (.pointer (some ⟨g, 0, none⟩)) (us 9) (us 10) (.int .i64 q) (.int .u8 b.toNat) (.int .u8 a.toNat) (str S) (us 15) (.bool tb) (.int .i64 k) us) 64 ?_ ?_
              · exact ⟨0, false, by omega, rfl, fun _ _ => by simp, meet_us (by kernel_rfl)⟩
              · intro gk2 a7 w7 hinv
                obtain ⟨k, tb, hk, rfl, htb, us7, rfl⟩ := hinv
                intro J4 K4 hJ4 hK4
                unfold FrS
                have HTB := Lib.hid htb
                clear htb
                by_cases hk64 : k < 64
                · have ki : (k : Int) < 64 := by omega
                  have kS : (k : Int) < (S.length : Int) := by omega
                  have hat := HAT.out k hk64
                  by_cases ha0 : a = 0
                  · subst ha0
                    have hc0 := HZ.out rfl
                    rw [if_neg (by omega)] at hat
                    by_cases hb0 : b = 0
                    · subst hb0
                      clear hc0
                      go_wp2_with fail
                      exact Handed.intro (gk2 - 1) (by omega) (hJ4 _ _ _ ⟨k + 1, tb, by omega, rfl, fun e => absurd rfl e, meet_us (by kernel_rfl)⟩)
                    · have hb00 : b.toNat ≠ 0 := fun e => hb0 (UInt8.toNat_inj.1 (by simpa using e))
                      have hbi : ((b.toNat : Int) == 0) = false := beq_eq_false_iff_ne.2 (by omega)
                      have hbi2 : ((b.toNat : Int) != 0) = true := bne_iff_ne.2 (by omega)
                      clear hc0 hb0 hb00
                      go_wp2_with fail
                      exact Handed.intro (gk2 - 1) (by omega) (hJ4 _ _ _ ⟨k + 1, tb, by omega, rfl, fun e => absurd rfl e, meet_us (by kernel_rfl)⟩)
                  · have ha00 : a.toNat ≠ 0 := fun e => ha0 (UInt8.toNat_inj.1 (by simpa using e))
                    have hai : ((a.toNat : Int) == 0) = false := beq_eq_false_iff_ne.2 (by omega)
                    have hai2 : ((a.toNat : Int) != 0) = true := bne_iff_ne.2 (by omega)
                    clear ha00
                    by_cases hab : a = b
                    · subst hab
                      rw [ite_self] at hat
                      have HA0 := Lib.hid ha0
                      clear ha0
                      go_wp2_with fail
                      exact Handed.intro (gk2 - 1) (by omega) (hJ4 _ _ _ ⟨k + 1, tb, by omega, rfl, fun _ e => absurd rfl e, meet_us (by kernel_rfl)⟩)
                    · have hne : a.toNat ≠ b.toNat := fun e => hab (UInt8.toNat_inj.1 e)
                      have habi : ((a.toNat : Int) == (b.toNat : Int)) = false := beq_eq_false_iff_ne.2 (by omega)
                      have hbai : ((b.toNat : Int) == (a.toNat : Int)) = false := beq_eq_false_iff_ne.2 (by omega)
                      have habi2 : ((a.toNat : Int) != (b.toNat : Int)) = true := bne_iff_ne.2 (by omega)
                      have hbai2 : ((b.toNat : Int) != (a.toNat : Int)) = true := bne_iff_ne.2 (by omega)
                      have htb := HTB.out ha0 hab
                      by_cases hkc : k < c
                      · rw [if_pos hkc] at hat
                        have htb0 : tb = false := htb.trans (decide_eq_false (by omega))
                        subst htb0
                        clear htb hne hab ha0
                        go_wp2_with fail
                        exact Handed.intro (gk2 - 1) (by omega) (hJ4 _ _ _ ⟨k + 1, false, by omega, rfl, fun _ _ => (decide_eq_false (by omega)).symm, meet_us (by kernel_rfl)⟩)
                      · rw [if_neg hkc] at hat
                        clear htb hne hab ha0
                        go_wp2_with fail
                        exact Handed.intro (gk2 - 1) (by omega) (hJ4 _ _ _ ⟨k + 1, true, by omega, rfl, fun _ _ => (decide_eq_true (by omega)).symm, meet_us (by kernel_rfl)⟩)
                · obtain rfl : k = 64 := by omega
                  go_wp2_with fail
                  exact Handed.intro (gk - 1) (by omega) (hJ2 _ _ _ ⟨q + 1, by omega, HD6.out, T6.out, meet_us (by kernel_rfl)⟩)
        · obtain rfl : q = 8 := by omega
          have hw6 : D6.waits.length = 0 := by have := HO6.out.2.2.2.2.2.2.1; omega
          go_wp2_with fail
          refine (waiting_any _ g gm _ _ _ _ HD.out (by omega)).mono ?_
          rintro e w7 ⟨v7, rfl, ho7, hb7⟩
          obtain ⟨p7, c7, rfl⟩ := ho7.form
          rw [hw6]
          have T7 := Lib.hid (HT.out.trans (Touch.of_below (v := .slice none 0 0) hb7))
          clear ho7 hb7
          go_wp2_with fail
          go_ret
          exact ⟨rfl, ((bA.out.trans (B1.out.mono (by have := HGM.out; omega))).trans (HD1.out.below T7.out zA (by omega)))⟩
end Go.Proofs.Ytiighehibiijcaa

/-
  The walk of DeviceArmed: it returns true for every number. No conditions beside those in each theorem.
-/
import Derived.Test.YtiighehibiijcaaArmPlain
import Derived.Test.YtiighehibiijcaaMasks
namespace Go.Proofs.Ytiighehibiijcaa
open Go.RowKit
set_option linter.unusedSimpArgs false
set_option linter.unnecessarySimpa false
set_option linter.unusedVariables false

theorem crash_none (torn : Int) (cc : Nat) (d : Dev) : crashD [] torn cc d = { d with waits := [], on := true, armed := false } := by
  have h : ∀ l i, crashN [] torn cc d l i = d := by
    intro l i
    induction i with
    | zero => rfl
    | succ i ih =>
      unfold crashN
      split
      · rw [ih]; rfl
      · exact ih
  unfold crashD
  rw [h]

set_option maxRecDepth 100000 in
set_option maxHeartbeats 8000000 in
theorem deviceArmed_walk (n : Int) (w : World) :
    Calls Try.prog 6 #[.int .i64 n] w fun e w' => e = .returned (.bool true) ∧ Below w.heap.size w w' := by
  obtain ⟨k, hk⟩ : ∃ k : Nat, n % 32 = k := ⟨(n % 32).toNat, by omega⟩
  have ek := i64_and5 n
  rw [hk] at ek
  have hk31 : k ≤ 31 := by omega
  clear hk
  go_enter Try.func6, Try.ntmps6
  go_wp2_with fail
  refine (awake06_any _).mono ?_
  rintro e w0 ⟨rfl, hb0⟩
  have z0 := hb0.size
  go_wp2_with fail
  refine (new_any _ 4 (by omega) (by omega)).mono ?_
  rintro e w1 ⟨rfl, hd1, hb1⟩
  obtain ⟨g, hg⟩ : ∃ g, w0.heap.size + 1 = g := ⟨_, rfl⟩
  obtain ⟨gm, hgm⟩ : ∃ gm, w0.heap.size = gm := ⟨_, rfl⟩
  rw [hg, hgm] at hd1
  rw [hg]
  have z1 := hb1.size
  rw [hgm] at z0 z1
  have HD1 := Lib.hid hd1
  have B1 := Lib.hid hb1
  have T1 := Lib.hid (Touch.refl g gm w1 (.slice none 0 0))
  have HGM := Lib.hid hgm
  clear hd1 hg hgm hb1
  go_wp2_with fail
  refine (arm_any _ g gm _ _ _ _ (k : Int) HD1.out).mono ?_
  rintro e w2 ⟨rfl, hd2, t2⟩
  have HD2 := Lib.hid hd2
  have T2 := Lib.hid (T1.out.trans t2)
  have HA2 := Lib.hid (ArmI.start k)
  clear hd2 t2
  go_wp2_with fail
  go_loopw [6] (fun i wr => ∃ (j : Nat) (v : Value) (cap : Nat) (d : Dev), j ≤ k ∧ i = .int .i64 j ∧ cap ≤ j * 32 ∧ IsDev wr g gm v cap gm d ∧ ArmI k j d ∧ Touch g gm w1 (.slice none 0 0) wr v) (fun i _ => k - (intOf i).toNat)
  case atStart => exact ⟨0, _, _, _, Nat.zero_le _, rfl, by omega, HD2.out, HA2.out, T2.out⟩
  case round =>
    obtain ⟨j, v, cap, d, hj, rfl, hcap, hd, ha, ht⟩ := hrel
    have HD := Lib.hid hd
    have HA := Lib.hid ha
    have HT := Lib.hid ht
    have hok := ha.ok hj hk31
    have hwl : d.waits.length ≤ j := ha.2.2.2.2.2.2.1
    have HW := Lib.hid ha.2.2.2.2.2.1
    have HS := Lib.hid ha.2.2.2.2.2.2.2
    by_cases hlt : j < k
    · by_cases h3 : j % 3 = 2
      · have h3i : (j : Int).tmod 3 = 2 := by rw [Int.tmod_eq_emod_of_nonneg (by omega)]; omega
        obtain ⟨hf, hf2⟩ := ha.flush hlt
        have HF := Lib.hid hf
        have HF2 := Lib.hid hf2
        clear hd ha ht hf hf2
        go_wp2_with fail
        refine (flush_any _ g gm _ _ _ _ HD.out hok HW.out.weak (by omega)).mono ?_
        rw [HF.out]
        rintro e w3 ⟨rfl, v3, cap3, hc3, hd3, t3⟩
        have HD3 := Lib.hid hd3
        have T3 := Lib.hid (HT.out.trans t3)
        clear hd3 t3
        go_wp2_with fail
        go_roundw
        case rel => exact ⟨j + 1, v3, cap3, _, by omega, by go_num, by omega, HD3.out, HF2.out, T3.out⟩
        case measure => simp [intOf]; omega
      · have h3i : ¬ (j : Int).tmod 3 = 2 := by rw [Int.tmod_eq_emod_of_nonneg (by omega)]; omega
        obtain ⟨q, hq⟩ : ∃ q : Nat, j % 4 = q := ⟨_, rfl⟩
        have hqi : (j : Int).tmod 4 = (q : Int) := by rw [Int.tmod_eq_emod_of_nonneg (by omega)]; omega
        have hq4 : q < 4 := by omega
        have hqh : hasD 4 (q : Int) = true := by simp [hasD]; omega
        have hqw : (Lit.int .i64 (q : Int)).wf = true := by
          rw [← wrap_small (q : Int) (by omega) (by omega)]
          exact wf_wrap _ _
        obtain ⟨hf, hf2⟩ := ha.write (s := secB 120) (j := (q : Int)) hlt (secB_length _) hqh hqw
        have HF := Lib.hid hf
        have HF2 := Lib.hid hf2
        clear hd ha ht hf hf2 hq hqw hqh
        go_wp2_with fail
        refine (sector_any 120 _).mono ?_
        rintro e w3 ⟨rfl, hb3⟩
        have HD3 := Lib.hid (HD.out.step hb3)
        have T3 := Lib.hid (HT.out.trans (Touch.of_below (v := v) hb3))
        go_wp2_with fail
        refine (write_any _ g gm _ _ _ _ (q : Int) (secB 120) HD3.out hok).mono ?_
        rw [HF.out]
        rintro e w4 ⟨rfl, v4, hd4, t4⟩
        have HD4 := Lib.hid hd4
        have T4 := Lib.hid (T3.out.trans t4)
        clear hd4 t4
        go_wp2_with fail
        go_roundw
        case rel => exact ⟨j + 1, v4, cap, _, by omega, by go_num, by omega, HD4.out, HF2.out, T4.out⟩
        case measure => simp [intOf]; omega
    · obtain rfl : j = k := by omega
      obtain ⟨a1, a2, a3, a4, a5, a6, a7, a8⟩ := ha
      obtain ⟨dn, dsafe, dw, don, darm, dl, ds⟩ := d
      simp only [] at a1 a2 a3 a4 a5 a7
      subst a1
      subst a2
      subst a3
      have hl0 : dl = 0 := by omega
      subst hl0
      subst a5
      obtain ⟨Da, hDa⟩ : ∃ D, (⟨4, dsafe, dw, false, true, 0, (j : Int)⟩ : Dev) = D := ⟨_, rfl⟩
      obtain ⟨Db, hDb⟩ : ∃ D, (⟨4, dsafe, [], true, false, 0, (j : Int)⟩ : Dev) = D := ⟨_, rfl⟩
      have e1 : flushE ⟨4, dsafe, dw, true, true, 0, (j : Int)⟩ = 14 := rfl
      have e2 : flushR ⟨4, dsafe, dw, true, true, 0, (j : Int)⟩ = Da := by rw [← hDa]; rfl
      have e3 : readS Da 0 = [] ∧ readE Da 0 = 14 := by rw [← hDa]; exact ⟨rfl, rfl⟩
      have e4 : writeE Da 0 (secB 121) = 14 ∧ writeR Da 0 (secB 121) = Da := by rw [← hDa]; exact ⟨rfl, rfl⟩
      have e5 : Da.on = false := by rw [← hDa]
      have e6 : crashD [] 0 (min (max (0 : Int) 0) 64).toNat Da = Db := by rw [crash_none, ← hDa, ← hDb]
      have e7 : flushE Db = 0 := by rw [← hDb]; rfl
      have e8 : (flushR Db).steps = (j : Int) + 1 := by rw [← hDb]; rfl
      have okA : OkD Da := by rw [← hDa]; exact hok
      have okB : OkD Db := by rw [← hDb]; exact ⟨by simp, by simp, by simp, by simp only []; omega, by simp⟩
      have sA : SafeOk Da := by rw [← hDa]; exact HS.out
      have wA : WaitOk Da.n Da.waits := by rw [← hDa]; exact HW.out
      have nA : Da.n ≠ 0 := by rw [← hDa]; simp
      have lA : Da.waits.length ≤ 31 := by rw [← hDa]; simp only []; omega
      have wB : WaitsOk Db.waits := by rw [← hDb]; intro p hp; simp at hp
      have lB : Db.waits.length = 0 := by rw [← hDb]; rfl
      have E1 := Lib.hid e1
      have E2 := Lib.hid e2
      have E3 := Lib.hid e3
      have E4 := Lib.hid e4
      have E5 := Lib.hid e5
      have E6 := Lib.hid e6
      have E7 := Lib.hid e7
      have E8 := Lib.hid e8
      have LB := Lib.hid lB
      clear e1 e2 e3 e4 e5 e6 e7 e8 lB hDa hDb hd ht a4 a6 a8
      go_wp2_with fail
      refine (on_any _ g gm _ _ _ _ HD.out).mono ?_
      rintro e w3 ⟨rfl, rfl⟩
      go_wp2_with fail
      refine (steps_any _ g gm _ _ _ _ HD.out).mono ?_
      rintro e w3 ⟨rfl, rfl⟩
      go_wp2_with fail
      refine (flush_any _ g gm _ _ _ _ HD.out hok HW.out.weak (by simp only []; omega)).mono ?_
      rw [E1.out, E2.out]
      rintro e w3 ⟨rfl, v3, cap3, hc3, hd3, t3⟩
      have HD3 := Lib.hid hd3
      have T3 := Lib.hid (HT.out.trans t3)
      simp only [] at hc3
      clear hd3 t3
      go_wp2_with fail
      refine (read_any _ g gm _ _ _ _ 0 HD3.out rfl (by omega)).mono ?_
      rw [E3.out.1, E3.out.2]
      rintro e w4 ⟨rfl, hb4⟩
      have HD4 := Lib.hid (HD3.out.step hb4)
      have T4 := Lib.hid (T3.out.trans (Touch.of_below (v := v3) hb4))
      go_wp2_with fail
      refine (sector_any 121 _).mono ?_
      rintro e w5 ⟨rfl, hb5⟩
      have HD5 := Lib.hid (HD4.out.step hb5)
      have T5 := Lib.hid (T4.out.trans (Touch.of_below (v := v3) hb5))
      go_wp2_with fail
      refine (write_any _ g gm _ _ _ _ 0 (secB 121) HD5.out okA).mono ?_
      rw [E4.out.1, E4.out.2]
      rintro e w6 ⟨rfl, v6, hd6, t6⟩
      have HD6 := Lib.hid hd6
      have T6 := Lib.hid (T5.out.trans t6)
      clear hd6 t6
      go_wp2_with fail
      refine (on_any _ g gm _ _ _ _ HD6.out).mono ?_
      rw [E5.out]
      rintro e w7 ⟨rfl, rfl⟩
      go_wp2_with fail
      refine (crash_any _ g gm _ _ _ _ _ [] 0 0 HD6.out (KeepIs.none _ _ _ _) sA wA nA (by omega)).mono ?_
      rw [E6.out]
      rintro e w8 ⟨rfl, cap8, hc8, hd8, t8⟩
      have HD8 := Lib.hid hd8
      have T8 := Lib.hid (T6.out.trans t8)
      clear hd8 t8
      go_wp2_with fail
      refine (flush_any _ g gm _ _ _ _ HD8.out okB wB (by rw [LB.out]; omega)).mono ?_
      rw [E7.out]
      rintro e w9 ⟨rfl, v9, cap9, hc9, hd9, t9⟩
      have HD9 := Lib.hid hd9
      have T9 := Lib.hid (T8.out.trans t9)
      clear hd9 t9
      go_wp2_with fail
      refine (steps_any _ g gm _ _ _ _ HD9.out).mono ?_
      rw [E8.out]
      rintro e w10 ⟨rfl, rfl⟩
      go_wp2_with fail
      go_ret
      exact ⟨rfl, (hb0.trans (B1.out.mono (by have := HGM.out; omega))).trans (HD1.out.below T9.out z0 (by omega))⟩
end Go.Proofs.Ytiighehibiijcaa

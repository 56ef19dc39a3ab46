/-
  The walk of DeviceEdges: it returns true for every two numbers and text. No conditions beside those in each theorem.
-/
import Derived.Test.YtiighehibiijcaaAwake06
import Derived.Test.YtiighehibiijcaaMasks
namespace Go.Proofs.Ytiighehibiijcaa
open Go.RowKit
set_option linter.unusedSimpArgs false
set_option linter.unnecessarySimpa false
set_option linter.unusedVariables false

set_option maxRecDepth 100000 in
set_option maxHeartbeats 8000000 in
theorem deviceEdges_walk (sectors at_ : Int) (hk : (Lit.int .i64 at_).wf = true) (s : List UInt8) (w : World) :
    Calls Try.prog 4 #[.int .i64 sectors, .int .i64 at_, str s] w fun e w' => e = .returned (.bool true) ∧ Below w.heap.size w w' := by
  obtain ⟨m, hm⟩ : ∃ m : Nat, sectors % 16 = m := ⟨(sectors % 16).toNat, by omega⟩
  have ek := i64_and4 sectors
  rw [hm] at ek
  obtain ⟨n, hn⟩ : ∃ n : Int, 1 + (m : Int) = n := ⟨_, rfl⟩
  have hw : IntKind.i64.wrap (1 + (m : Int)) = n := by rw [hn]; exact wrap_small _ (by omega) (by omega)
  have hn0 : 1 ≤ n := by omega
  have hn1 : n ≤ 4096 := by omega
  clear hm hn
  by_cases h70 : 70 < s.length
  · have hql : (s.take 70).length = 70 := by rw [List.length_take]; omega
    have hq : ¬ (s.take 70).length = 64 := by omega
    have h70i : (70 : Int) < (s.length : Int) := by omega
    obtain ⟨S, hS⟩ : ∃ S, s.take 70 = S := ⟨_, rfl⟩
    rw [hS] at hq hql
    have hq' : ¬ (S.length : Int) = 64 := by omega
    by_cases h0 : 0 ≤ at_
    · by_cases h1 : at_ < n
      · have hU : hasD n at_ = true := by simp [hasD, h0, h1]
        have hr : readE (newD n) at_ = 0 := by simp [readE, newD, hU]
        have hf : writeE (newD n) at_ S = 1 := by simp [writeE, newD, hU, goesD, hq]
        have hd1e : writeR (newD n) at_ S = (⟨n, fun _ => none, [], true, false, 0, 0⟩ : Dev) := by simp [writeR, newD, hU, goesD, hq, writeD, stepD]
        have hg : writeE (⟨n, fun _ => none, [], true, false, 0, 0⟩ : Dev) at_ (secB 120) = 0 := by simp [writeE, hU, goesD, secB_length]
        have hd2e : writeR (⟨n, fun _ => none, [], true, false, 0, 0⟩ : Dev) at_ (secB 120) = (⟨n, fun _ => none, [(at_, secB 120)], true, false, 0, 1⟩ : Dev) := by simp [writeR, hU, goesD, secB_length, writeD, stepD]
        obtain ⟨D1, hD1⟩ : ∃ D, (⟨n, fun _ => none, [], true, false, 0, 0⟩ : Dev) = D := ⟨_, rfl⟩
        obtain ⟨D2, hD2⟩ : ∃ D, (⟨n, fun _ => none, [(at_, secB 120)], true, false, 0, 1⟩ : Dev) = D := ⟨_, rfl⟩
        have ok1 : OkD D1 := by rw [← hD1]; exact ok_small rfl (by simp) (by simp) (by simp)
        have hst : D2.steps = 1 := by rw [← hD2]
        have hwl : D2.waits.length = 1 := by rw [← hD2]; rfl
        have hn2 : D2.n = n := by rw [← hD2]
        have hsf : safeD D2 at_ = zero64 := by rw [← hD2]; rfl
        rw [hD1] at hd1e hg hd2e
        rw [hD2] at hd2e
        have HR := Lib.hid hr
        have HF := Lib.hid hf
        have H1 := Lib.hid hd1e
        have HG := Lib.hid hg
        have H2 := Lib.hid hd2e
        have HST := Lib.hid hst
        have HWL := Lib.hid hwl
        have HSF := Lib.hid hsf
        have HN2 := Lib.hid hn2
        have HUU := Lib.hid hU
        clear hr hf hd1e hg hd2e hst hwl hsf hn2 hU hD1 hD2
        go_enter Try.func4, Try.ntmps4
        go_wp2_with fail
        refine (awake06_any _).mono ?_
        rintro e w0 ⟨rfl, hb0⟩
        have z0 := hb0.size
        go_wp2_with fail
        refine (new_any _ n hn0 hn1).mono ?_
        rintro e w1 ⟨rfl, hd1, hb1⟩
        obtain ⟨g, hg⟩ : ∃ g, w0.heap.size + 1 = g := ⟨_, rfl⟩
        obtain ⟨gm, hgm⟩ : ∃ gm, w0.heap.size = gm := ⟨_, rfl⟩
        rw [hg, hgm] at hd1
        rw [hg]
        have z1 := hb1.size
        rw [hgm] at z0 z1
        have HD1 := Lib.hid hd1
        have B1 := Lib.hid hb1
        have T1 := Lib.hid (Touch.refl g gm w1 (.slice none 0 0))
        have HGM := Lib.hid hgm
        clear hd1 hg hgm hb1
        go_wp2_with fail
        refine (sectors_any _ g gm _ _ _ _ HD1.out).mono ?_
        rw [show (newD n).n = n from rfl]
        rintro e w2 ⟨rfl, rfl⟩
        go_wp2_with fail
        refine (read_any _ g gm _ _ _ _ at_ HD1.out hk (show (0 : Nat) < 4611686018427 by decide)).mono ?_
        rw [HR.out]
        rintro e w3 ⟨rfl, hb3⟩
        have HD3 := Lib.hid (HD1.out.step hb3)
        have T3 := Lib.hid (T1.out.trans (Touch.of_below (v := .slice none 0 0) hb3))
        generalize readS (newD n) at_ = rs at *
        go_wp2_with fail
        refine (write_any _ g gm _ _ _ _ at_ S HD3.out (ok_small rfl (show (0 : Int) ≤ 0 by decide) (show (0 : Int) ≤ 1000000 by decide) (show (0 : Nat) ≤ 1000000 by decide))).mono ?_
        rw [H1.out, HF.out]
        rintro e w4 ⟨rfl, v4, hd4, t4⟩
        have HD4 := Lib.hid hd4
        have T4 := Lib.hid (T3.out.trans t4)
        clear hd4 t4
        go_wp2_with fail
        refine (sector_any 120 _).mono ?_
        rintro e w5 ⟨rfl, hb5⟩
        have HD5 := Lib.hid (HD4.out.step hb5)
        have T5 := Lib.hid (T4.out.trans (Touch.of_below (v := v4) hb5))
        go_wp2_with fail
        refine (write_any _ g gm _ _ _ _ at_ (secB 120) HD5.out ok1).mono ?_
        rw [H2.out, HG.out]
        rintro e w6 ⟨rfl, v6, hd6, t6⟩
        have HD6 := Lib.hid hd6
        have T6 := Lib.hid (T5.out.trans t6)
        clear hd6 t6
        go_wp2_with fail
        refine (steps_any _ g gm _ _ _ _ HD6.out).mono ?_
        rw [HST.out]
        rintro e w7 ⟨rfl, rfl⟩
        go_wp2_with fail
        refine (waiting_any _ g gm _ _ _ _ HD6.out (by rw [HWL.out]; decide)).mono ?_
        rintro e w8 ⟨v8, rfl, ho8, hb8⟩
        obtain ⟨p8, c8, rfl⟩ := ho8.form
        rw [HWL.out]
        have HD8 := Lib.hid (HD6.out.step hb8)
        have T8 := Lib.hid (T6.out.trans (Touch.of_below (v := v6) hb8))
        clear ho8
        go_wp2_with fail
        refine (safe_any _ g gm _ _ _ _ at_ HD8.out hk).mono ?_
        rw [HN2.out, HUU.out, HSF.out]
        rintro e w9 ⟨rfl, hb9⟩
        have T9 := Lib.hid (T8.out.trans (Touch.of_below (v := v6) hb9))
        go_wp2_with fail
        go_ret
        exact ⟨rfl, (hb0.trans (B1.out.mono (by have := HGM.out; omega))).trans (HD1.out.below T9.out z0 (by omega))⟩
      · have hU : hasD n at_ = false := by simp [hasD, h0, h1]
        have hr : readE (newD n) at_ = 1 := by simp [readE, newD, hU]
        have hf : writeE (newD n) at_ S = 1 := by simp [writeE, newD, hU, goesD, hq]
        have hd1e : writeR (newD n) at_ S = (⟨n, fun _ => none, [], true, false, 0, 0⟩ : Dev) := by simp [writeR, newD, hU, goesD, hq, writeD, stepD]
        have hg : writeE (⟨n, fun _ => none, [], true, false, 0, 0⟩ : Dev) at_ (secB 120) = 1 := by simp [writeE, hU, goesD, secB_length]
        have hd2e : writeR (⟨n, fun _ => none, [], true, false, 0, 0⟩ : Dev) at_ (secB 120) = (⟨n, fun _ => none, [], true, false, 0, 0⟩ : Dev) := by simp [writeR, hU, goesD, secB_length, writeD, stepD]
        obtain ⟨D1, hD1⟩ : ∃ D, (⟨n, fun _ => none, [], true, false, 0, 0⟩ : Dev) = D := ⟨_, rfl⟩
        have ok1 : OkD D1 := by rw [← hD1]; exact ok_small rfl (by simp) (by simp) (by simp)
        have hst : D1.steps = 0 := by rw [← hD1]
        have hwl : D1.waits.length = 0 := by rw [← hD1]; rfl
        have hn2 : D1.n = n := by rw [← hD1]
        have hsf : safeD D1 at_ = zero64 := by rw [← hD1]; rfl
        rw [hD1] at hd1e hg hd2e
        have HR := Lib.hid hr
        have HF := Lib.hid hf
        have H1 := Lib.hid hd1e
        have HG := Lib.hid hg
        have H2 := Lib.hid hd2e
        have HST := Lib.hid hst
        have HWL := Lib.hid hwl
        have HSF := Lib.hid hsf
        have HN2 := Lib.hid hn2
        have HUU := Lib.hid hU
        clear hr hf hd1e hg hd2e hst hwl hsf hn2 hU hD1
        go_enter Try.func4, Try.ntmps4
        go_wp2_with fail
        refine (awake06_any _).mono ?_
        rintro e w0 ⟨rfl, hb0⟩
        have z0 := hb0.size
        go_wp2_with fail
        refine (new_any _ n hn0 hn1).mono ?_
        rintro e w1 ⟨rfl, hd1, hb1⟩
        obtain ⟨g, hg⟩ : ∃ g, w0.heap.size + 1 = g := ⟨_, rfl⟩
        obtain ⟨gm, hgm⟩ : ∃ gm, w0.heap.size = gm := ⟨_, rfl⟩
        rw [hg, hgm] at hd1
        rw [hg]
        have z1 := hb1.size
        rw [hgm] at z0 z1
        have HD1 := Lib.hid hd1
        have B1 := Lib.hid hb1
        have T1 := Lib.hid (Touch.refl g gm w1 (.slice none 0 0))
        have HGM := Lib.hid hgm
        clear hd1 hg hgm hb1
        go_wp2_with fail
        refine (sectors_any _ g gm _ _ _ _ HD1.out).mono ?_
        rw [show (newD n).n = n from rfl]
        rintro e w2 ⟨rfl, rfl⟩
        go_wp2_with fail
        refine (read_any _ g gm _ _ _ _ at_ HD1.out hk (show (0 : Nat) < 4611686018427 by decide)).mono ?_
        rw [HR.out]
        rintro e w3 ⟨rfl, hb3⟩
        have HD3 := Lib.hid (HD1.out.step hb3)
        have T3 := Lib.hid (T1.out.trans (Touch.of_below (v := .slice none 0 0) hb3))
        generalize readS (newD n) at_ = rs at *
        go_wp2_with fail
        refine (write_any _ g gm _ _ _ _ at_ S HD3.out (ok_small rfl (show (0 : Int) ≤ 0 by decide) (show (0 : Int) ≤ 1000000 by decide) (show (0 : Nat) ≤ 1000000 by decide))).mono ?_
        rw [H1.out, HF.out]
        rintro e w4 ⟨rfl, v4, hd4, t4⟩
        have HD4 := Lib.hid hd4
        have T4 := Lib.hid (T3.out.trans t4)
        clear hd4 t4
        go_wp2_with fail
        refine (sector_any 120 _).mono ?_
        rintro e w5 ⟨rfl, hb5⟩
        have HD5 := Lib.hid (HD4.out.step hb5)
        have T5 := Lib.hid (T4.out.trans (Touch.of_below (v := v4) hb5))
        go_wp2_with fail
        refine (write_any _ g gm _ _ _ _ at_ (secB 120) HD5.out ok1).mono ?_
        rw [H2.out, HG.out]
        rintro e w6 ⟨rfl, v6, hd6, t6⟩
        have HD6 := Lib.hid hd6
        have T6 := Lib.hid (T5.out.trans t6)
        clear hd6 t6
        go_wp2_with fail
        refine (steps_any _ g gm _ _ _ _ HD6.out).mono ?_
        rw [HST.out]
        rintro e w7 ⟨rfl, rfl⟩
        go_wp2_with fail
        refine (waiting_any _ g gm _ _ _ _ HD6.out (by rw [HWL.out]; decide)).mono ?_
        rintro e w8 ⟨v8, rfl, ho8, hb8⟩
        obtain ⟨p8, c8, rfl⟩ := ho8.form
        rw [HWL.out]
        have HD8 := Lib.hid (HD6.out.step hb8)
        have T8 := Lib.hid (T6.out.trans (Touch.of_below (v := v6) hb8))
        clear ho8
        go_wp2_with fail
        refine (safe_any _ g gm _ _ _ _ at_ HD8.out hk).mono ?_
        rw [HN2.out, HUU.out, HSF.out]
        rintro e w9 ⟨rfl, hb9⟩
        have T9 := Lib.hid (T8.out.trans (Touch.of_below (v := v6) hb9))
        go_wp2_with fail
        go_ret
        exact ⟨rfl, (hb0.trans (B1.out.mono (by have := HGM.out; omega))).trans (HD1.out.below T9.out z0 (by omega))⟩
    · have hU : hasD n at_ = false := by simp [hasD, h0]
      have hr : readE (newD n) at_ = 1 := by simp [readE, newD, hU]
      have hf : writeE (newD n) at_ S = 1 := by simp [writeE, newD, hU, goesD, hq]
      have hd1e : writeR (newD n) at_ S = (⟨n, fun _ => none, [], true, false, 0, 0⟩ : Dev) := by simp [writeR, newD, hU, goesD, hq, writeD, stepD]
      have hg : writeE (⟨n, fun _ => none, [], true, false, 0, 0⟩ : Dev) at_ (secB 120) = 1 := by simp [writeE, hU, goesD, secB_length]
      have hd2e : writeR (⟨n, fun _ => none, [], true, false, 0, 0⟩ : Dev) at_ (secB 120) = (⟨n, fun _ => none, [], true, false, 0, 0⟩ : Dev) := by simp [writeR, hU, goesD, secB_length, writeD, stepD]
      obtain ⟨D1, hD1⟩ : ∃ D, (⟨n, fun _ => none, [], true, false, 0, 0⟩ : Dev) = D := ⟨_, rfl⟩
      have ok1 : OkD D1 := by rw [← hD1]; exact ok_small rfl (by simp) (by simp) (by simp)
      have hst : D1.steps = 0 := by rw [← hD1]
      have hwl : D1.waits.length = 0 := by rw [← hD1]; rfl
      have hn2 : D1.n = n := by rw [← hD1]
      have hsf : safeD D1 at_ = zero64 := by rw [← hD1]; rfl
      rw [hD1] at hd1e hg hd2e
      have HR := Lib.hid hr
      have HF := Lib.hid hf
      have H1 := Lib.hid hd1e
      have HG := Lib.hid hg
      have H2 := Lib.hid hd2e
      have HST := Lib.hid hst
      have HWL := Lib.hid hwl
      have HSF := Lib.hid hsf
      have HN2 := Lib.hid hn2
      have HUU := Lib.hid hU
      clear hr hf hd1e hg hd2e hst hwl hsf hn2 hU hD1
      go_enter Try.func4, Try.ntmps4
      go_wp2_with fail
      refine (awake06_any _).mono ?_
      rintro e w0 ⟨rfl, hb0⟩
      have z0 := hb0.size
      go_wp2_with fail
      refine (new_any _ n hn0 hn1).mono ?_
      rintro e w1 ⟨rfl, hd1, hb1⟩
      obtain ⟨g, hg⟩ : ∃ g, w0.heap.size + 1 = g := ⟨_, rfl⟩
      obtain ⟨gm, hgm⟩ : ∃ gm, w0.heap.size = gm := ⟨_, rfl⟩
      rw [hg, hgm] at hd1
      rw [hg]
      have z1 := hb1.size
      rw [hgm] at z0 z1
      have HD1 := Lib.hid hd1
      have B1 := Lib.hid hb1
      have T1 := Lib.hid (Touch.refl g gm w1 (.slice none 0 0))
      have HGM := Lib.hid hgm
      clear hd1 hg hgm hb1
      go_wp2_with fail
      refine (sectors_any _ g gm _ _ _ _ HD1.out).mono ?_
      rw [show (newD n).n = n from rfl]
      rintro e w2 ⟨rfl, rfl⟩
      go_wp2_with fail
      refine (read_any _ g gm _ _ _ _ at_ HD1.out hk (show (0 : Nat) < 4611686018427 by decide)).mono ?_
      rw [HR.out]
      rintro e w3 ⟨rfl, hb3⟩
      have HD3 := Lib.hid (HD1.out.step hb3)
      have T3 := Lib.hid (T1.out.trans (Touch.of_below (v := .slice none 0 0) hb3))
      generalize readS (newD n) at_ = rs at *
      go_wp2_with fail
      refine (write_any _ g gm _ _ _ _ at_ S HD3.out (ok_small rfl (show (0 : Int) ≤ 0 by decide) (show (0 : Int) ≤ 1000000 by decide) (show (0 : Nat) ≤ 1000000 by decide))).mono ?_
      rw [H1.out, HF.out]
      rintro e w4 ⟨rfl, v4, hd4, t4⟩
      have HD4 := Lib.hid hd4
      have T4 := Lib.hid (T3.out.trans t4)
      clear hd4 t4
      go_wp2_with fail
      refine (sector_any 120 _).mono ?_
      rintro e w5 ⟨rfl, hb5⟩
      have HD5 := Lib.hid (HD4.out.step hb5)
      have T5 := Lib.hid (T4.out.trans (Touch.of_below (v := v4) hb5))
      go_wp2_with fail
      refine (write_any _ g gm _ _ _ _ at_ (secB 120) HD5.out ok1).mono ?_
      rw [H2.out, HG.out]
      rintro e w6 ⟨rfl, v6, hd6, t6⟩
      have HD6 := Lib.hid hd6
      have T6 := Lib.hid (T5.out.trans t6)
      clear hd6 t6
      go_wp2_with fail
      refine (steps_any _ g gm _ _ _ _ HD6.out).mono ?_
      rw [HST.out]
      rintro e w7 ⟨rfl, rfl⟩
      go_wp2_with fail
      refine (waiting_any _ g gm _ _ _ _ HD6.out (by rw [HWL.out]; decide)).mono ?_
      rintro e w8 ⟨v8, rfl, ho8, hb8⟩
      obtain ⟨p8, c8, rfl⟩ := ho8.form
      rw [HWL.out]
      have HD8 := Lib.hid (HD6.out.step hb8)
      have T8 := Lib.hid (T6.out.trans (Touch.of_below (v := v6) hb8))
      clear ho8
      go_wp2_with fail
      refine (safe_any _ g gm _ _ _ _ at_ HD8.out hk).mono ?_
      rw [HN2.out, HUU.out, HSF.out]
      rintro e w9 ⟨rfl, hb9⟩
      have T9 := Lib.hid (T8.out.trans (Touch.of_below (v := v6) hb9))
      go_wp2_with fail
      go_ret
      exact ⟨rfl, (hb0.trans (B1.out.mono (by have := HGM.out; omega))).trans (HD1.out.below T9.out z0 (by omega))⟩
  · have h70i : ¬ (70 : Int) < (s.length : Int) := by omega
    by_cases hq : s.length = 64
    · have hq' : (s.length : Int) = 64 := by omega
      by_cases h0 : 0 ≤ at_
      · by_cases h1 : at_ < n
        · have hU : hasD n at_ = true := by simp [hasD, h0, h1]
          have hr : readE (newD n) at_ = 0 := by simp [readE, newD, hU]
          have hf : writeE (newD n) at_ s = 0 := by simp [writeE, newD, hU, goesD, hq]
          have hd1e : writeR (newD n) at_ s = (⟨n, fun _ => none, [(at_, s)], true, false, 0, 1⟩ : Dev) := by simp [writeR, newD, hU, goesD, hq, writeD, stepD]
          have hg : writeE (⟨n, fun _ => none, [(at_, s)], true, false, 0, 1⟩ : Dev) at_ (secB 120) = 0 := by simp [writeE, hU, goesD, secB_length]
          have hd2e : writeR (⟨n, fun _ => none, [(at_, s)], true, false, 0, 1⟩ : Dev) at_ (secB 120) = (⟨n, fun _ => none, [(at_, s), (at_, secB 120)], true, false, 0, 2⟩ : Dev) := by simp [writeR, hU, goesD, secB_length, writeD, stepD]
          obtain ⟨D1, hD1⟩ : ∃ D, (⟨n, fun _ => none, [(at_, s)], true, false, 0, 1⟩ : Dev) = D := ⟨_, rfl⟩
          obtain ⟨D2, hD2⟩ : ∃ D, (⟨n, fun _ => none, [(at_, s), (at_, secB 120)], true, false, 0, 2⟩ : Dev) = D := ⟨_, rfl⟩
          have ok1 : OkD D1 := by rw [← hD1]; exact ok_small rfl (by simp) (by simp) (by simp)
          have hst : D2.steps = 2 := by rw [← hD2]
          have hwl : D2.waits.length = 2 := by rw [← hD2]; rfl
          have hn2 : D2.n = n := by rw [← hD2]
          have hsf : safeD D2 at_ = zero64 := by rw [← hD2]; rfl
          rw [hD1] at hd1e hg hd2e
          rw [hD2] at hd2e
          have HR := Lib.hid hr
          have HF := Lib.hid hf
          have H1 := Lib.hid hd1e
          have HG := Lib.hid hg
          have H2 := Lib.hid hd2e
          have HST := Lib.hid hst
          have HWL := Lib.hid hwl
          have HSF := Lib.hid hsf
          have HN2 := Lib.hid hn2
          have HUU := Lib.hid hU
          clear hr hf hd1e hg hd2e hst hwl hsf hn2 hU hD1 hD2
          go_enter Try.func4, Try.ntmps4
          go_wp2_with fail
          refine (awake06_any _).mono ?_
          rintro e w0 ⟨rfl, hb0⟩
          have z0 := hb0.size
          go_wp2_with fail
          refine (new_any _ n hn0 hn1).mono ?_
          rintro e w1 ⟨rfl, hd1, hb1⟩
          obtain ⟨g, hg⟩ : ∃ g, w0.heap.size + 1 = g := ⟨_, rfl⟩
          obtain ⟨gm, hgm⟩ : ∃ gm, w0.heap.size = gm := ⟨_, rfl⟩
          rw [hg, hgm] at hd1
          rw [hg]
          have z1 := hb1.size
          rw [hgm] at z0 z1
          have HD1 := Lib.hid hd1
          have B1 := Lib.hid hb1
          have T1 := Lib.hid (Touch.refl g gm w1 (.slice none 0 0))
          have HGM := Lib.hid hgm
          clear hd1 hg hgm hb1
          go_wp2_with fail
          refine (sectors_any _ g gm _ _ _ _ HD1.out).mono ?_
          rw [show (newD n).n = n from rfl]
          rintro e w2 ⟨rfl, rfl⟩
          go_wp2_with fail
          refine (read_any _ g gm _ _ _ _ at_ HD1.out hk (show (0 : Nat) < 4611686018427 by decide)).mono ?_
          rw [HR.out]
          rintro e w3 ⟨rfl, hb3⟩
          have HD3 := Lib.hid (HD1.out.step hb3)
          have T3 := Lib.hid (T1.out.trans (Touch.of_below (v := .slice none 0 0) hb3))
          generalize readS (newD n) at_ = rs at *
          go_wp2_with fail
          refine (write_any _ g gm _ _ _ _ at_ s HD3.out (ok_small rfl (show (0 : Int) ≤ 0 by decide) (show (0 : Int) ≤ 1000000 by decide) (show (0 : Nat) ≤ 1000000 by decide))).mono ?_
          rw [H1.out, HF.out]
          rintro e w4 ⟨rfl, v4, hd4, t4⟩
          have HD4 := Lib.hid hd4
          have T4 := Lib.hid (T3.out.trans t4)
          clear hd4 t4
          go_wp2_with fail
          refine (sector_any 120 _).mono ?_
          rintro e w5 ⟨rfl, hb5⟩
          have HD5 := Lib.hid (HD4.out.step hb5)
          have T5 := Lib.hid (T4.out.trans (Touch.of_below (v := v4) hb5))
          go_wp2_with fail
          refine (write_any _ g gm _ _ _ _ at_ (secB 120) HD5.out ok1).mono ?_
          rw [H2.out, HG.out]
          rintro e w6 ⟨rfl, v6, hd6, t6⟩
          have HD6 := Lib.hid hd6
          have T6 := Lib.hid (T5.out.trans t6)
          clear hd6 t6
          go_wp2_with fail
          refine (steps_any _ g gm _ _ _ _ HD6.out).mono ?_
          rw [HST.out]
          rintro e w7 ⟨rfl, rfl⟩
          go_wp2_with fail
          refine (waiting_any _ g gm _ _ _ _ HD6.out (by rw [HWL.out]; decide)).mono ?_
          rintro e w8 ⟨v8, rfl, ho8, hb8⟩
          obtain ⟨p8, c8, rfl⟩ := ho8.form
          rw [HWL.out]
          have HD8 := Lib.hid (HD6.out.step hb8)
          have T8 := Lib.hid (T6.out.trans (Touch.of_below (v := v6) hb8))
          clear ho8
          go_wp2_with fail
          refine (safe_any _ g gm _ _ _ _ at_ HD8.out hk).mono ?_
          rw [HN2.out, HUU.out, HSF.out]
          rintro e w9 ⟨rfl, hb9⟩
          have T9 := Lib.hid (T8.out.trans (Touch.of_below (v := v6) hb9))
          go_wp2_with fail
          go_ret
          exact ⟨rfl, (hb0.trans (B1.out.mono (by have := HGM.out; omega))).trans (HD1.out.below T9.out z0 (by omega))⟩
        · have hU : hasD n at_ = false := by simp [hasD, h0, h1]
          have hr : readE (newD n) at_ = 1 := by simp [readE, newD, hU]
          have hf : writeE (newD n) at_ s = 1 := by simp [writeE, newD, hU, goesD, hq]
          have hd1e : writeR (newD n) at_ s = (⟨n, fun _ => none, [], true, false, 0, 0⟩ : Dev) := by simp [writeR, newD, hU, goesD, hq, writeD, stepD]
          have hg : writeE (⟨n, fun _ => none, [], true, false, 0, 0⟩ : Dev) at_ (secB 120) = 1 := by simp [writeE, hU, goesD, secB_length]
          have hd2e : writeR (⟨n, fun _ => none, [], true, false, 0, 0⟩ : Dev) at_ (secB 120) = (⟨n, fun _ => none, [], true, false, 0, 0⟩ : Dev) := by simp [writeR, hU, goesD, secB_length, writeD, stepD]
          obtain ⟨D1, hD1⟩ : ∃ D, (⟨n, fun _ => none, [], true, false, 0, 0⟩ : Dev) = D := ⟨_, rfl⟩
          have ok1 : OkD D1 := by rw [← hD1]; exact ok_small rfl (by simp) (by simp) (by simp)
          have hst : D1.steps = 0 := by rw [← hD1]
          have hwl : D1.waits.length = 0 := by rw [← hD1]; rfl
          have hn2 : D1.n = n := by rw [← hD1]
          have hsf : safeD D1 at_ = zero64 := by rw [← hD1]; rfl
          rw [hD1] at hd1e hg hd2e
          have HR := Lib.hid hr
          have HF := Lib.hid hf
          have H1 := Lib.hid hd1e
          have HG := Lib.hid hg
          have H2 := Lib.hid hd2e
          have HST := Lib.hid hst
          have HWL := Lib.hid hwl
          have HSF := Lib.hid hsf
          have HN2 := Lib.hid hn2
          have HUU := Lib.hid hU
          clear hr hf hd1e hg hd2e hst hwl hsf hn2 hU hD1
          go_enter Try.func4, Try.ntmps4
          go_wp2_with fail
          refine (awake06_any _).mono ?_
          rintro e w0 ⟨rfl, hb0⟩
          have z0 := hb0.size
          go_wp2_with fail
          refine (new_any _ n hn0 hn1).mono ?_
          rintro e w1 ⟨rfl, hd1, hb1⟩
          obtain ⟨g, hg⟩ : ∃ g, w0.heap.size + 1 = g := ⟨_, rfl⟩
          obtain ⟨gm, hgm⟩ : ∃ gm, w0.heap.size = gm := ⟨_, rfl⟩
          rw [hg, hgm] at hd1
          rw [hg]
          have z1 := hb1.size
          rw [hgm] at z0 z1
          have HD1 := Lib.hid hd1
          have B1 := Lib.hid hb1
          have T1 := Lib.hid (Touch.refl g gm w1 (.slice none 0 0))
          have HGM := Lib.hid hgm
          clear hd1 hg hgm hb1
          go_wp2_with fail
          refine (sectors_any _ g gm _ _ _ _ HD1.out).mono ?_
          rw [show (newD n).n = n from rfl]
          rintro e w2 ⟨rfl, rfl⟩
          go_wp2_with fail
          refine (read_any _ g gm _ _ _ _ at_ HD1.out hk (show (0 : Nat) < 4611686018427 by decide)).mono ?_
          rw [HR.out]
          rintro e w3 ⟨rfl, hb3⟩
          have HD3 := Lib.hid (HD1.out.step hb3)
          have T3 := Lib.hid (T1.out.trans (Touch.of_below (v := .slice none 0 0) hb3))
          generalize readS (newD n) at_ = rs at *
          go_wp2_with fail
          refine (write_any _ g gm _ _ _ _ at_ s HD3.out (ok_small rfl (show (0 : Int) ≤ 0 by decide) (show (0 : Int) ≤ 1000000 by decide) (show (0 : Nat) ≤ 1000000 by decide))).mono ?_
          rw [H1.out, HF.out]
          rintro e w4 ⟨rfl, v4, hd4, t4⟩
          have HD4 := Lib.hid hd4
          have T4 := Lib.hid (T3.out.trans t4)
          clear hd4 t4
          go_wp2_with fail
          refine (sector_any 120 _).mono ?_
          rintro e w5 ⟨rfl, hb5⟩
          have HD5 := Lib.hid (HD4.out.step hb5)
          have T5 := Lib.hid (T4.out.trans (Touch.of_below (v := v4) hb5))
          go_wp2_with fail
          refine (write_any _ g gm _ _ _ _ at_ (secB 120) HD5.out ok1).mono ?_
          rw [H2.out, HG.out]
          rintro e w6 ⟨rfl, v6, hd6, t6⟩
          have HD6 := Lib.hid hd6
          have T6 := Lib.hid (T5.out.trans t6)
          clear hd6 t6
          go_wp2_with fail
          refine (steps_any _ g gm _ _ _ _ HD6.out).mono ?_
          rw [HST.out]
          rintro e w7 ⟨rfl, rfl⟩
          go_wp2_with fail
          refine (waiting_any _ g gm _ _ _ _ HD6.out (by rw [HWL.out]; decide)).mono ?_
          rintro e w8 ⟨v8, rfl, ho8, hb8⟩
          obtain ⟨p8, c8, rfl⟩ := ho8.form
          rw [HWL.out]
          have HD8 := Lib.hid (HD6.out.step hb8)
          have T8 := Lib.hid (T6.out.trans (Touch.of_below (v := v6) hb8))
          clear ho8
          go_wp2_with fail
          refine (safe_any _ g gm _ _ _ _ at_ HD8.out hk).mono ?_
          rw [HN2.out, HUU.out, HSF.out]
          rintro e w9 ⟨rfl, hb9⟩
          have T9 := Lib.hid (T8.out.trans (Touch.of_below (v := v6) hb9))
          go_wp2_with fail
          go_ret
          exact ⟨rfl, (hb0.trans (B1.out.mono (by have := HGM.out; omega))).trans (HD1.out.below T9.out z0 (by omega))⟩
      · have hU : hasD n at_ = false := by simp [hasD, h0]
        have hr : readE (newD n) at_ = 1 := by simp [readE, newD, hU]
        have hf : writeE (newD n) at_ s = 1 := by simp [writeE, newD, hU, goesD, hq]
        have hd1e : writeR (newD n) at_ s = (⟨n, fun _ => none, [], true, false, 0, 0⟩ : Dev) := by simp [writeR, newD, hU, goesD, hq, writeD, stepD]
        have hg : writeE (⟨n, fun _ => none, [], true, false, 0, 0⟩ : Dev) at_ (secB 120) = 1 := by simp [writeE, hU, goesD, secB_length]
        have hd2e : writeR (⟨n, fun _ => none, [], true, false, 0, 0⟩ : Dev) at_ (secB 120) = (⟨n, fun _ => none, [], true, false, 0, 0⟩ : Dev) := by simp [writeR, hU, goesD, secB_length, writeD, stepD]
        obtain ⟨D1, hD1⟩ : ∃ D, (⟨n, fun _ => none, [], true, false, 0, 0⟩ : Dev) = D := ⟨_, rfl⟩
        have ok1 : OkD D1 := by rw [← hD1]; exact ok_small rfl (by simp) (by simp) (by simp)
        have hst : D1.steps = 0 := by rw [← hD1]
        have hwl : D1.waits.length = 0 := by rw [← hD1]; rfl
        have hn2 : D1.n = n := by rw [← hD1]
        have hsf : safeD D1 at_ = zero64 := by rw [← hD1]; rfl
        rw [hD1] at hd1e hg hd2e
        have HR := Lib.hid hr
        have HF := Lib.hid hf
        have H1 := Lib.hid hd1e
        have HG := Lib.hid hg
        have H2 := Lib.hid hd2e
        have HST := Lib.hid hst
        have HWL := Lib.hid hwl
        have HSF := Lib.hid hsf
        have HN2 := Lib.hid hn2
        have HUU := Lib.hid hU
        clear hr hf hd1e hg hd2e hst hwl hsf hn2 hU hD1
        go_enter Try.func4, Try.ntmps4
        go_wp2_with fail
        refine (awake06_any _).mono ?_
        rintro e w0 ⟨rfl, hb0⟩
        have z0 := hb0.size
        go_wp2_with fail
        refine (new_any _ n hn0 hn1).mono ?_
        rintro e w1 ⟨rfl, hd1, hb1⟩
        obtain ⟨g, hg⟩ : ∃ g, w0.heap.size + 1 = g := ⟨_, rfl⟩
        obtain ⟨gm, hgm⟩ : ∃ gm, w0.heap.size = gm := ⟨_, rfl⟩
        rw [hg, hgm] at hd1
        rw [hg]
        have z1 := hb1.size
        rw [hgm] at z0 z1
        have HD1 := Lib.hid hd1
        have B1 := Lib.hid hb1
        have T1 := Lib.hid (Touch.refl g gm w1 (.slice none 0 0))
        have HGM := Lib.hid hgm
        clear hd1 hg hgm hb1
        go_wp2_with fail
        refine (sectors_any _ g gm _ _ _ _ HD1.out).mono ?_
        rw [show (newD n).n = n from rfl]
        rintro e w2 ⟨rfl, rfl⟩
        go_wp2_with fail
        refine (read_any _ g gm _ _ _ _ at_ HD1.out hk (show (0 : Nat) < 4611686018427 by decide)).mono ?_
        rw [HR.out]
        rintro e w3 ⟨rfl, hb3⟩
        have HD3 := Lib.hid (HD1.out.step hb3)
        have T3 := Lib.hid (T1.out.trans (Touch.of_below (v := .slice none 0 0) hb3))
        generalize readS (newD n) at_ = rs at *
        go_wp2_with fail
        refine (write_any _ g gm _ _ _ _ at_ s HD3.out (ok_small rfl (show (0 : Int) ≤ 0 by decide) (show (0 : Int) ≤ 1000000 by decide) (show (0 : Nat) ≤ 1000000 by decide))).mono ?_
        rw [H1.out, HF.out]
        rintro e w4 ⟨rfl, v4, hd4, t4⟩
        have HD4 := Lib.hid hd4
        have T4 := Lib.hid (T3.out.trans t4)
        clear hd4 t4
        go_wp2_with fail
        refine (sector_any 120 _).mono ?_
        rintro e w5 ⟨rfl, hb5⟩
        have HD5 := Lib.hid (HD4.out.step hb5)
        have T5 := Lib.hid (T4.out.trans (Touch.of_below (v := v4) hb5))
        go_wp2_with fail
        refine (write_any _ g gm _ _ _ _ at_ (secB 120) HD5.out ok1).mono ?_
        rw [H2.out, HG.out]
        rintro e w6 ⟨rfl, v6, hd6, t6⟩
        have HD6 := Lib.hid hd6
        have T6 := Lib.hid (T5.out.trans t6)
        clear hd6 t6
        go_wp2_with fail
        refine (steps_any _ g gm _ _ _ _ HD6.out).mono ?_
        rw [HST.out]
        rintro e w7 ⟨rfl, rfl⟩
        go_wp2_with fail
        refine (waiting_any _ g gm _ _ _ _ HD6.out (by rw [HWL.out]; decide)).mono ?_
        rintro e w8 ⟨v8, rfl, ho8, hb8⟩
        obtain ⟨p8, c8, rfl⟩ := ho8.form
        rw [HWL.out]
        have HD8 := Lib.hid (HD6.out.step hb8)
        have T8 := Lib.hid (T6.out.trans (Touch.of_below (v := v6) hb8))
        clear ho8
        go_wp2_with fail
        refine (safe_any _ g gm _ _ _ _ at_ HD8.out hk).mono ?_
        rw [HN2.out, HUU.out, HSF.out]
        rintro e w9 ⟨rfl, hb9⟩
        have T9 := Lib.hid (T8.out.trans (Touch.of_below (v := v6) hb9))
        go_wp2_with fail
        go_ret
        exact ⟨rfl, (hb0.trans (B1.out.mono (by have := HGM.out; omega))).trans (HD1.out.below T9.out z0 (by omega))⟩
    · have hq' : ¬ (s.length : Int) = 64 := by omega
      by_cases h0 : 0 ≤ at_
      · by_cases h1 : at_ < n
        · have hU : hasD n at_ = true := by simp [hasD, h0, h1]
          have hr : readE (newD n) at_ = 0 := by simp [readE, newD, hU]
          have hf : writeE (newD n) at_ s = 1 := by simp [writeE, newD, hU, goesD, hq]
          have hd1e : writeR (newD n) at_ s = (⟨n, fun _ => none, [], true, false, 0, 0⟩ : Dev) := by simp [writeR, newD, hU, goesD, hq, writeD, stepD]
          have hg : writeE (⟨n, fun _ => none, [], true, false, 0, 0⟩ : Dev) at_ (secB 120) = 0 := by simp [writeE, hU, goesD, secB_length]
          have hd2e : writeR (⟨n, fun _ => none, [], true, false, 0, 0⟩ : Dev) at_ (secB 120) = (⟨n, fun _ => none, [(at_, secB 120)], true, false, 0, 1⟩ : Dev) := by simp [writeR, hU, goesD, secB_length, writeD, stepD]
          obtain ⟨D1, hD1⟩ : ∃ D, (⟨n, fun _ => none, [], true, false, 0, 0⟩ : Dev) = D := ⟨_, rfl⟩
          obtain ⟨D2, hD2⟩ : ∃ D, (⟨n, fun _ => none, [(at_, secB 120)], true, false, 0, 1⟩ : Dev) = D := ⟨_, rfl⟩
          have ok1 : OkD D1 := by rw [← hD1]; exact ok_small rfl (by simp) (by simp) (by simp)
          have hst : D2.steps = 1 := by rw [← hD2]
          have hwl : D2.waits.length = 1 := by rw [← hD2]; rfl
          have hn2 : D2.n = n := by rw [← hD2]
          have hsf : safeD D2 at_ = zero64 := by rw [← hD2]; rfl
          rw [hD1] at hd1e hg hd2e
          rw [hD2] at hd2e
          have HR := Lib.hid hr
          have HF := Lib.hid hf
          have H1 := Lib.hid hd1e
          have HG := Lib.hid hg
          have H2 := Lib.hid hd2e
          have HST := Lib.hid hst
          have HWL := Lib.hid hwl
          have HSF := Lib.hid hsf
          have HN2 := Lib.hid hn2
          have HUU := Lib.hid hU
          clear hr hf hd1e hg hd2e hst hwl hsf hn2 hU hD1 hD2
          go_enter Try.func4, Try.ntmps4
          go_wp2_with fail
          refine (awake06_any _).mono ?_
          rintro e w0 ⟨rfl, hb0⟩
          have z0 := hb0.size
          go_wp2_with fail
          refine (new_any _ n hn0 hn1).mono ?_
          rintro e w1 ⟨rfl, hd1, hb1⟩
          obtain ⟨g, hg⟩ : ∃ g, w0.heap.size + 1 = g := ⟨_, rfl⟩
          obtain ⟨gm, hgm⟩ : ∃ gm, w0.heap.size = gm := ⟨_, rfl⟩
          rw [hg, hgm] at hd1
          rw [hg]
          have z1 := hb1.size
          rw [hgm] at z0 z1
          have HD1 := Lib.hid hd1
          have B1 := Lib.hid hb1
          have T1 := Lib.hid (Touch.refl g gm w1 (.slice none 0 0))
          have HGM := Lib.hid hgm
          clear hd1 hg hgm hb1
          go_wp2_with fail
          refine (sectors_any _ g gm _ _ _ _ HD1.out).mono ?_
          rw [show (newD n).n = n from rfl]
          rintro e w2 ⟨rfl, rfl⟩
          go_wp2_with fail
          refine (read_any _ g gm _ _ _ _ at_ HD1.out hk (show (0 : Nat) < 4611686018427 by decide)).mono ?_
          rw [HR.out]
          rintro e w3 ⟨rfl, hb3⟩
          have HD3 := Lib.hid (HD1.out.step hb3)
          have T3 := Lib.hid (T1.out.trans (Touch.of_below (v := .slice none 0 0) hb3))
          generalize readS (newD n) at_ = rs at *
          go_wp2_with fail
          refine (write_any _ g gm _ _ _ _ at_ s HD3.out (ok_small rfl (show (0 : Int) ≤ 0 by decide) (show (0 : Int) ≤ 1000000 by decide) (show (0 : Nat) ≤ 1000000 by decide))).mono ?_
          rw [H1.out, HF.out]
          rintro e w4 ⟨rfl, v4, hd4, t4⟩
          have HD4 := Lib.hid hd4
          have T4 := Lib.hid (T3.out.trans t4)
          clear hd4 t4
          go_wp2_with fail
          refine (sector_any 120 _).mono ?_
          rintro e w5 ⟨rfl, hb5⟩
          have HD5 := Lib.hid (HD4.out.step hb5)
          have T5 := Lib.hid (T4.out.trans (Touch.of_below (v := v4) hb5))
          go_wp2_with fail
          refine (write_any _ g gm _ _ _ _ at_ (secB 120) HD5.out ok1).mono ?_
          rw [H2.out, HG.out]
          rintro e w6 ⟨rfl, v6, hd6, t6⟩
          have HD6 := Lib.hid hd6
          have T6 := Lib.hid (T5.out.trans t6)
          clear hd6 t6
          go_wp2_with fail
          refine (steps_any _ g gm _ _ _ _ HD6.out).mono ?_
          rw [HST.out]
          rintro e w7 ⟨rfl, rfl⟩
          go_wp2_with fail
          refine (waiting_any _ g gm _ _ _ _ HD6.out (by rw [HWL.out]; decide)).mono ?_
          rintro e w8 ⟨v8, rfl, ho8, hb8⟩
          obtain ⟨p8, c8, rfl⟩ := ho8.form
          rw [HWL.out]
          have HD8 := Lib.hid (HD6.out.step hb8)
          have T8 := Lib.hid (T6.out.trans (Touch.of_below (v := v6) hb8))
          clear ho8
          go_wp2_with fail
          refine (safe_any _ g gm _ _ _ _ at_ HD8.out hk).mono ?_
          rw [HN2.out, HUU.out, HSF.out]
          rintro e w9 ⟨rfl, hb9⟩
          have T9 := Lib.hid (T8.out.trans (Touch.of_below (v := v6) hb9))
          go_wp2_with fail
          go_ret
          exact ⟨rfl, (hb0.trans (B1.out.mono (by have := HGM.out; omega))).trans (HD1.out.below T9.out z0 (by omega))⟩
        · have hU : hasD n at_ = false := by simp [hasD, h0, h1]
          have hr : readE (newD n) at_ = 1 := by simp [readE, newD, hU]
          have hf : writeE (newD n) at_ s = 1 := by simp [writeE, newD, hU, goesD, hq]
          have hd1e : writeR (newD n) at_ s = (⟨n, fun _ => none, [], true, false, 0, 0⟩ : Dev) := by simp [writeR, newD, hU, goesD, hq, writeD, stepD]
          have hg : writeE (⟨n, fun _ => none, [], true, false, 0, 0⟩ : Dev) at_ (secB 120) = 1 := by simp [writeE, hU, goesD, secB_length]
          have hd2e : writeR (⟨n, fun _ => none, [], true, false, 0, 0⟩ : Dev) at_ (secB 120) = (⟨n, fun _ => none, [], true, false, 0, 0⟩ : Dev) := by simp [writeR, hU, goesD, secB_length, writeD, stepD]
          obtain ⟨D1, hD1⟩ : ∃ D, (⟨n, fun _ => none, [], true, false, 0, 0⟩ : Dev) = D := ⟨_, rfl⟩
          have ok1 : OkD D1 := by rw [← hD1]; exact ok_small rfl (by simp) (by simp) (by simp)
          have hst : D1.steps = 0 := by rw [← hD1]
          have hwl : D1.waits.length = 0 := by rw [← hD1]; rfl
          have hn2 : D1.n = n := by rw [← hD1]
          have hsf : safeD D1 at_ = zero64 := by rw [← hD1]; rfl
          rw [hD1] at hd1e hg hd2e
          have HR := Lib.hid hr
          have HF := Lib.hid hf
          have H1 := Lib.hid hd1e
          have HG := Lib.hid hg
          have H2 := Lib.hid hd2e
          have HST := Lib.hid hst
          have HWL := Lib.hid hwl
          have HSF := Lib.hid hsf
          have HN2 := Lib.hid hn2
          have HUU := Lib.hid hU
          clear hr hf hd1e hg hd2e hst hwl hsf hn2 hU hD1
          go_enter Try.func4, Try.ntmps4
          go_wp2_with fail
          refine (awake06_any _).mono ?_
          rintro e w0 ⟨rfl, hb0⟩
          have z0 := hb0.size
          go_wp2_with fail
          refine (new_any _ n hn0 hn1).mono ?_
          rintro e w1 ⟨rfl, hd1, hb1⟩
          obtain ⟨g, hg⟩ : ∃ g, w0.heap.size + 1 = g := ⟨_, rfl⟩
          obtain ⟨gm, hgm⟩ : ∃ gm, w0.heap.size = gm := ⟨_, rfl⟩
          rw [hg, hgm] at hd1
          rw [hg]
          have z1 := hb1.size
          rw [hgm] at z0 z1
          have HD1 := Lib.hid hd1
          have B1 := Lib.hid hb1
          have T1 := Lib.hid (Touch.refl g gm w1 (.slice none 0 0))
          have HGM := Lib.hid hgm
          clear hd1 hg hgm hb1
          go_wp2_with fail
          refine (sectors_any _ g gm _ _ _ _ HD1.out).mono ?_
          rw [show (newD n).n = n from rfl]
          rintro e w2 ⟨rfl, rfl⟩
          go_wp2_with fail
          refine (read_any _ g gm _ _ _ _ at_ HD1.out hk (show (0 : Nat) < 4611686018427 by decide)).mono ?_
          rw [HR.out]
          rintro e w3 ⟨rfl, hb3⟩
          have HD3 := Lib.hid (HD1.out.step hb3)
          have T3 := Lib.hid (T1.out.trans (Touch.of_below (v := .slice none 0 0) hb3))
          generalize readS (newD n) at_ = rs at *
          go_wp2_with fail
          refine (write_any _ g gm _ _ _ _ at_ s HD3.out (ok_small rfl (show (0 : Int) ≤ 0 by decide) (show (0 : Int) ≤ 1000000 by decide) (show (0 : Nat) ≤ 1000000 by decide))).mono ?_
          rw [H1.out, HF.out]
          rintro e w4 ⟨rfl, v4, hd4, t4⟩
          have HD4 := Lib.hid hd4
          have T4 := Lib.hid (T3.out.trans t4)
          clear hd4 t4
          go_wp2_with fail
          refine (sector_any 120 _).mono ?_
          rintro e w5 ⟨rfl, hb5⟩
          have HD5 := Lib.hid (HD4.out.step hb5)
          have T5 := Lib.hid (T4.out.trans (Touch.of_below (v := v4) hb5))
          go_wp2_with fail
          refine (write_any _ g gm _ _ _ _ at_ (secB 120) HD5.out ok1).mono ?_
          rw [H2.out, HG.out]
          rintro e w6 ⟨rfl, v6, hd6, t6⟩
          have HD6 := Lib.hid hd6
          have T6 := Lib.hid (T5.out.trans t6)
          clear hd6 t6
          go_wp2_with fail
          refine (steps_any _ g gm _ _ _ _ HD6.out).mono ?_
          rw [HST.out]
          rintro e w7 ⟨rfl, rfl⟩
          go_wp2_with fail
          refine (waiting_any _ g gm _ _ _ _ HD6.out (by rw [HWL.out]; decide)).mono ?_
          rintro e w8 ⟨v8, rfl, ho8, hb8⟩
          obtain ⟨p8, c8, rfl⟩ := ho8.form
          rw [HWL.out]
          have HD8 := Lib.hid (HD6.out.step hb8)
          have T8 := Lib.hid (T6.out.trans (Touch.of_below (v := v6) hb8))
          clear ho8
          go_wp2_with fail
          refine (safe_any _ g gm _ _ _ _ at_ HD8.out hk).mono ?_
          rw [HN2.out, HUU.out, HSF.out]
          rintro e w9 ⟨rfl, hb9⟩
          have T9 := Lib.hid (T8.out.trans (Touch.of_below (v := v6) hb9))
          go_wp2_with fail
          go_ret
          exact ⟨rfl, (hb0.trans (B1.out.mono (by have := HGM.out; omega))).trans (HD1.out.below T9.out z0 (by omega))⟩
      · have hU : hasD n at_ = false := by simp [hasD, h0]
        have hr : readE (newD n) at_ = 1 := by simp [readE, newD, hU]
        have hf : writeE (newD n) at_ s = 1 := by simp [writeE, newD, hU, goesD, hq]
        have hd1e : writeR (newD n) at_ s = (⟨n, fun _ => none, [], true, false, 0, 0⟩ : Dev) := by simp [writeR, newD, hU, goesD, hq, writeD, stepD]
        have hg : writeE (⟨n, fun _ => none, [], true, false, 0, 0⟩ : Dev) at_ (secB 120) = 1 := by simp [writeE, hU, goesD, secB_length]
        have hd2e : writeR (⟨n, fun _ => none, [], true, false, 0, 0⟩ : Dev) at_ (secB 120) = (⟨n, fun _ => none, [], true, false, 0, 0⟩ : Dev) := by simp [writeR, hU, goesD, secB_length, writeD, stepD]
        obtain ⟨D1, hD1⟩ : ∃ D, (⟨n, fun _ => none, [], true, false, 0, 0⟩ : Dev) = D := ⟨_, rfl⟩
        have ok1 : OkD D1 := by rw [← hD1]; exact ok_small rfl (by simp) (by simp) (by simp)
        have hst : D1.steps = 0 := by rw [← hD1]
        have hwl : D1.waits.length = 0 := by rw [← hD1]; rfl
        have hn2 : D1.n = n := by rw [← hD1]
        have hsf : safeD D1 at_ = zero64 := by rw [← hD1]; rfl
        rw [hD1] at hd1e hg hd2e
        have HR := Lib.hid hr
        have HF := Lib.hid hf
        have H1 := Lib.hid hd1e
        have HG := Lib.hid hg
        have H2 := Lib.hid hd2e
        have HST := Lib.hid hst
        have HWL := Lib.hid hwl
        have HSF := Lib.hid hsf
        have HN2 := Lib.hid hn2
        have HUU := Lib.hid hU
        clear hr hf hd1e hg hd2e hst hwl hsf hn2 hU hD1
        go_enter Try.func4, Try.ntmps4
        go_wp2_with fail
        refine (awake06_any _).mono ?_
        rintro e w0 ⟨rfl, hb0⟩
        have z0 := hb0.size
        go_wp2_with fail
        refine (new_any _ n hn0 hn1).mono ?_
        rintro e w1 ⟨rfl, hd1, hb1⟩
        obtain ⟨g, hg⟩ : ∃ g, w0.heap.size + 1 = g := ⟨_, rfl⟩
        obtain ⟨gm, hgm⟩ : ∃ gm, w0.heap.size = gm := ⟨_, rfl⟩
        rw [hg, hgm] at hd1
        rw [hg]
        have z1 := hb1.size
        rw [hgm] at z0 z1
        have HD1 := Lib.hid hd1
        have B1 := Lib.hid hb1
        have T1 := Lib.hid (Touch.refl g gm w1 (.slice none 0 0))
        have HGM := Lib.hid hgm
        clear hd1 hg hgm hb1
        go_wp2_with fail
        refine (sectors_any _ g gm _ _ _ _ HD1.out).mono ?_
        rw [show (newD n).n = n from rfl]
        rintro e w2 ⟨rfl, rfl⟩
        go_wp2_with fail
        refine (read_any _ g gm _ _ _ _ at_ HD1.out hk (show (0 : Nat) < 4611686018427 by decide)).mono ?_
        rw [HR.out]
        rintro e w3 ⟨rfl, hb3⟩
        have HD3 := Lib.hid (HD1.out.step hb3)
        have T3 := Lib.hid (T1.out.trans (Touch.of_below (v := .slice none 0 0) hb3))
        generalize readS (newD n) at_ = rs at *
        go_wp2_with fail
        refine (write_any _ g gm _ _ _ _ at_ s HD3.out (ok_small rfl (show (0 : Int) ≤ 0 by decide) (show (0 : Int) ≤ 1000000 by decide) (show (0 : Nat) ≤ 1000000 by decide))).mono ?_
        rw [H1.out, HF.out]
        rintro e w4 ⟨rfl, v4, hd4, t4⟩
        have HD4 := Lib.hid hd4
        have T4 := Lib.hid (T3.out.trans t4)
        clear hd4 t4
        go_wp2_with fail
        refine (sector_any 120 _).mono ?_
        rintro e w5 ⟨rfl, hb5⟩
        have HD5 := Lib.hid (HD4.out.step hb5)
        have T5 := Lib.hid (T4.out.trans (Touch.of_below (v := v4) hb5))
        go_wp2_with fail
        refine (write_any _ g gm _ _ _ _ at_ (secB 120) HD5.out ok1).mono ?_
        rw [H2.out, HG.out]
        rintro e w6 ⟨rfl, v6, hd6, t6⟩
        have HD6 := Lib.hid hd6
        have T6 := Lib.hid (T5.out.trans t6)
        clear hd6 t6
        go_wp2_with fail
        refine (steps_any _ g gm _ _ _ _ HD6.out).mono ?_
        rw [HST.out]
        rintro e w7 ⟨rfl, rfl⟩
        go_wp2_with fail
        refine (waiting_any _ g gm _ _ _ _ HD6.out (by rw [HWL.out]; decide)).mono ?_
        rintro e w8 ⟨v8, rfl, ho8, hb8⟩
        obtain ⟨p8, c8, rfl⟩ := ho8.form
        rw [HWL.out]
        have HD8 := Lib.hid (HD6.out.step hb8)
        have T8 := Lib.hid (T6.out.trans (Touch.of_below (v := v6) hb8))
        clear ho8
        go_wp2_with fail
        refine (safe_any _ g gm _ _ _ _ at_ HD8.out hk).mono ?_
        rw [HN2.out, HUU.out, HSF.out]
        rintro e w9 ⟨rfl, hb9⟩
        have T9 := Lib.hid (T8.out.trans (Touch.of_below (v := v6) hb9))
        go_wp2_with fail
        go_ret
        exact ⟨rfl, (hb0.trans (B1.out.mono (by have := HGM.out; omega))).trans (HD1.out.below T9.out z0 (by omega))⟩
end Go.Proofs.Ytiighehibiijcaa

/-
  What Flush of the document's device does. No conditions beside those in each theorem.
-/
import Derived.Test.YtiighehibiijcaaRefDevB
import Derived.Test.YtiighehibiijcaaOpenBytes
import Derived.Deep.DeepCutAuto
namespace Go.Proofs.Ytiighehibiijcaa
open Go.RowKit
set_option linter.unusedSimpArgs false
set_option linter.unnecessarySimpa false
set_option linter.unusedVariables false

theorem IsRef.setSafe {w : World} {h gs N cS : Nat} {rv : Value} {B : Nat} {d : Dev} {k : Nat} {t : List UInt8} (hd : IsRef w h (.slice (some ⟨gs, 0, none⟩) N cS) rv B d) (hk : k < (safeL d).length) :
    IsRef (w.setCell ⟨gs, k, none⟩ (str t)) h (.slice (some ⟨gs, 0, none⟩) N cS) rv B (keepD d (k : Int) t) ∧ RTouch h (.slice (some ⟨gs, 0, none⟩) N cS) w rv (w.setCell ⟨gs, k, none⟩ (str t)) rv := by
  have hN : N = (safeL d).length := by
    obtain ⟨p, c, e⟩ := hd.2.1.len
    injection e
  have hown : w.ownsRow B 9 1 (.slice (some ⟨gs, 0, none⟩) N cS) N ((safeL d).map str) := by have := hd.2.1; unfold OwnS at this; rw [← hN] at this; exact this
  obtain ⟨h1, h2⟩ := hown.stored k (str t)
  have ho : (Value.slice (some ⟨gs, 0, none⟩) N cS).ownBlock = some gs := rfl
  refine ⟨⟨hd.1.far (fun e => hd.2.1.ne hd.1 (by decide) (by rw [ho]; exact congrArg some e.symm)) _, ?_, hd.2.2.1.grown h2 (.inr (OwnS.apart hd.2.1 hd.2.2.1 ho)), hd.2.2.2⟩, RTouch.of_grown h2 (.inr (.inl rfl))⟩
  unfold OwnS
  rw [safeL_keep hk, List.length_set, List.map_set, ← hN]
  exact h1
theorem IsRef.rowcell {w : World} {h gs N cS : Nat} {rv : Value} {B : Nat} {d : Dev} {k : Nat} (hd : IsRef w h (.slice (some ⟨gs, 0, none⟩) N cS) rv B d) (hk : k < (safeL d).length) :
    w.cell? ⟨gs, k, none⟩ = some (str (safeD d (k : Int))) ∧ w.frozen? ⟨gs, k, none⟩ = false := by
  have hN : N = (safeL d).length := by
    obtain ⟨p, c, e⟩ := hd.2.1.len
    injection e
  have hown : w.ownsRow B 9 1 (.slice (some ⟨gs, 0, none⟩) N cS) N ((safeL d).map str) := by have := hd.2.1; unfold OwnS at this; rw [← hN] at this; exact this
  refine ⟨?_, hown.frozenAt k⟩
  rw [hown.cellAt k (by omega), List.getElem?_map, List.getElem?_eq_getElem hk, safeL_at hk]
  rfl
theorem OwnS.some_of {w : World} {B : Nat} {v : Value} {L : List (List UInt8)} (h : OwnS w B v L) (hl : 0 < L.length) : ∃ g c, v = .slice (some ⟨g, 0, Option.none⟩) L.length c := by
  rcases h.read with ⟨-, h2⟩ | ⟨g, c, h2, -⟩
  · rw [h2] at hl; simp at hl
  · exact ⟨g, c, h2⟩
theorem OwnW.some_of {w : World} {B : Nat} {v : Value} {L : List (Int × List UInt8)} (h : OwnW w B v L) (hl : 0 < L.length) : ∃ g c, v = .slice (some ⟨g, 0, Option.none⟩) L.length c ∧ g < w.heap.size ∧ ∀ i (hi : i < L.length), w.cell? ⟨g, i * 2, Option.none⟩ = some (.int .i64 L[i].1) ∧ w.cell? ⟨g, i * 2 + 1, Option.none⟩ = some (str L[i].2) := by
  rcases h.read with ⟨-, h2⟩ | ⟨g, c, h2, -, h3, -, -, h4⟩
  · rw [h2] at hl; simp at hl
  · exact ⟨g, c, h2, h3, fun i hi => by have := h4 i hi; rw [Nat.mul_comm] at this; exact this⟩
theorem keepAll_n (d : Dev) (l : List (Int × List UInt8)) : (keepAll d l).n = d.n := (keepAll_fields l d).1

set_option maxRecDepth 100000 in
set_option maxHeartbeats 3200000 in
theorem refFlush_any (w : World) (rh : Nat) (sv rv : Value) (B : Nat) (d : Dev) (hd : IsRef w rh sv rv B d) (hok : OkD d) (hw : WaitOk d.n d.waits) (hn0 : 0 < d.n) (hn1 : d.n ≤ 4096) :
    Calls Try.prog 29 #[.pointer (some ⟨rh, 0, none⟩)] w
      fun e w' => e = .returned (.int .i64 (flushE d)) ∧ ∃ rv', IsRef w' rh sv rv' B (flushR d) ∧ RTouch rh sv w rv w' rv' := by
  have HD := Lib.hid hd
  have OK := Lib.hid hok
  obtain ⟨c0, c1, c2, -⟩ := ref_cells hd
  have hwl := hok.2.2.2.2
  obtain ⟨gs, cS, hsv⟩ := hd.2.1.some_of (by rw [safeL_length]; omega)
  obtain ⟨N, hN⟩ : ∃ N, (safeL d).length = N := ⟨_, rfl⟩
  rw [hN] at hsv
  rw [safeL_length] at hN
  have HN := Lib.hid hN
  unfold flushE flushR
  obtain ⟨on, hon⟩ : ∃ u, d.on = u := ⟨_, rfl⟩
  rw [hon] at c2 ⊢
  have HWK := Lib.hid hw
  clear hd hok hon hN hw
  subst hsv
  cases on
  · go_enter Try.func29, Try.ntmps29
    go_wp2_with fail
    go_ret
    exact ⟨rfl, rv, HD.out, RTouch.refl _ _ _ _⟩
  · simp only [if_true]
    by_cases hg : goesD d = true
    · have hfl : fluD d = flushD (stepD d) := by simp [fluD, hg]
      have hst : stepR d = stepD d := by simp [stepR, hg]
      rw [if_pos hg, hfl]
      have HG := Lib.hid hg
      have HST := Lib.hid hst
      clear hg hfl hst
      go_enter Try.func29, Try.ntmps29
      go_wp2_with fail
      refine (refStep_any _ rh _ rv B d HD.out OK.out).mono ?_
      rw [if_pos HG.out, if_pos HG.out]
      rintro e w1 ⟨rfl, hd1, t1⟩
      obtain ⟨l, hl⟩ : ∃ l, d.waits = l := ⟨_, rfl⟩
      obtain ⟨D, hD⟩ : ∃ D, stepD d = D := ⟨_, rfl⟩
      have hDw : D.waits = l := by rw [← hD, stepD_waits, hl]
      have hDn : D.n = d.n := by rw [← hD, stepD_n]
      rw [hD] at hd1
      have HDE := Lib.hid hD
      rw [hl] at hwl HWK
      have HD1 := Lib.hid hd1
      have T1 := Lib.hid t1
      have HDW := Lib.hid hDw
      have HDN := Lib.hid hDn
      clear hd1 t1 c0 c1 c2 hl hD hDw hDn
      go_wp2_with fail
      go_loopw [4] (fun i wr => ∃ j : Nat, j ≤ l.length ∧ i = .int .i64 j ∧ IsRef wr rh (.slice (some ⟨gs, 0, none⟩) N cS) rv B (keepAll D (l.take j)) ∧ RTouch rh (.slice (some ⟨gs, 0, none⟩) N cS) w1 rv wr rv) (fun i _ => l.length - (intOf i).toNat)
      case atStart => exact ⟨0, Nat.zero_le _, rfl, HD1.out, RTouch.refl _ _ _ _⟩
      case round =>
        obtain ⟨j, hj, rfl, hd2, ht2⟩ := hrel
        have hwt : (keepAll D (l.take j)).waits = l := by rw [keepAll_waits, HDW.out]
        have hdn2 : (keepAll D (l.take j)).n = d.n := by rw [keepAll_n, HDN.out]
        by_cases hlt : j < l.length
        · have hji : (j : Int) < (l.length : Int) := by omega
          have how := hd2.2.2.1
          rw [hwt] at how
          obtain ⟨gv, c, hrv, hgv, hcell⟩ := how.some_of (by omega)
          subst hrv
          obtain ⟨e1, e2⟩ := hcell j hlt
          have hwk := HWK.out _ (List.getElem_mem hlt)
          have hkt := keepAll_take D hlt
          obtain ⟨⟨x, t⟩, hx⟩ : ∃ q, l[j] = q := ⟨_, rfl⟩
          rw [hx] at e1 e2 hwk hkt
          simp only [] at e1 e2 hkt
          obtain ⟨-, htl, hxh⟩ := hwk
          simp only [] at htl hxh
          have hx0 : 0 ≤ x ∧ x < d.n := by simpa [hasD] using hxh
          obtain ⟨k, rfl⟩ := Int.eq_ofNat_of_zero_le hx0.1
          have hkN : k < N := by have := HN.out; omega
          have hkNi : ((k : Nat) : Int) < (N : Int) := by omega
          have hkl : k < (safeL (keepAll D (l.take j))).length := by rw [safeL_length, hdn2]; have := HN.out; omega
          obtain ⟨HY0, HY1⟩ := (hd2.drew).rowcell hkl
          obtain ⟨d0, d1, -⟩ := ref_cells hd2
          have HDD := Lib.hid hd2
          have HT2 := Lib.hid ht2
          have HKT := Lib.hid hkt
          have HSet := Lib.hid (IsRef.setSafe (t := t) hd2.drew hkl)
          have h63 : (k : Int) < 9223372036854775808 := by omega
          clear hd2 ht2 hkt hx hcell how hxh htl hx0 hwt hdn2 hkl
          go_wp2_with fail
          refine until_begin 21 (fun w' => w'.cell? ⟨rh, 0, none⟩ = some (.slice (some ⟨gs, 0, none⟩) N cS) ∧ w'.cell? ⟨rh, 1, none⟩ = some (.slice (some ⟨gv, 0, none⟩) l.length c) ∧ w'.cell? ⟨gv, j * 2, none⟩ = some (.int .i64 (k : Int)) ∧ w'.cell? ⟨gv, j * 2 + 1, none⟩ = some (str t)) (by kernel_rfl) ⟨d0, d1, e1, e2⟩ (fun hS => ?_)
          refine until_take 0 (some 24) (u := ?_) rfl rfl (by kernel_rfl) (by kernel_rfl) (by kernel_rfl) (by kernel_rfl) (fun _ _ _ h => h) (by rfl) (fun wS hv => ?_) hS ?_
          rotate_left
          · clear hv
            go_simp
            all_goals with_reducible rfl
          try simp only [Act.put, List.setIfInBounds_toArray, List.set]
          refine until_take 1 (some 25) (u := ?_) rfl rfl (by kernel_rfl) (by kernel_rfl) (by kernel_rfl) (by kernel_rfl) (fun _ _ _ h => h) (by rfl) (fun wS hv => ?_) hS ?_
          rotate_left
          · clear hv
            go_simp
            all_goals with_reducible rfl
          try simp only [Act.put, List.setIfInBounds_toArray, List.set]
          refine until_take 2 (some 26) (u := ?_) rfl rfl (by kernel_rfl) (by kernel_rfl) (by kernel_rfl) (by kernel_rfl) (fun _ _ _ h => h) (by rfl) (fun wS hv => ?_) hS ?_
          rotate_left
          · clear hv
            go_simp
            all_goals with_reducible rfl
          try simp only [Act.put, List.setIfInBounds_toArray, List.set]
          refine until_take 3 (some 27) (u := ?_) rfl rfl (by kernel_rfl) (by kernel_rfl) (by kernel_rfl) (by kernel_rfl) (fun _ _ _ h => h) (by rfl) (fun wS hv => ?_) hS ?_
          rotate_left
          · obtain ⟨k1, k2, k3, k4⟩ := hv
            go_simp
            all_goals with_reducible rfl
          try simp only [Act.put, List.setIfInBounds_toArray, List.set]
          refine until_take 4 (some 28) (u := ?_) rfl rfl (by kernel_rfl) (by kernel_rfl) (by kernel_rfl) (by kernel_rfl) (fun _ _ _ h => h) (by rfl) (fun wS hv => ?_) hS ?_
          rotate_left
          · clear hv
            go_simp
            all_goals with_reducible rfl
          try simp only [Act.put, List.setIfInBounds_toArray, List.set]
          refine until_take 5 (some 29) (u := ?_) rfl rfl (by kernel_rfl) (by kernel_rfl) (by kernel_rfl) (by kernel_rfl) (fun _ _ _ h => h) (by rfl) (fun wS hv => ?_) hS ?_
          rotate_left
          · clear hv
            go_simp
            all_goals with_reducible rfl
          try simp only [Act.put, List.setIfInBounds_toArray, List.set]
          refine until_take 6 (some 30) (u := ?_) rfl rfl (by kernel_rfl) (by kernel_rfl) (by kernel_rfl) (by kernel_rfl) (fun _ _ _ h => h) (by rfl) (fun wS hv => ?_) hS ?_
          rotate_left
          · clear hv
            go_simp
            all_goals with_reducible rfl
          try simp only [Act.put, List.setIfInBounds_toArray, List.set]
          refine until_take 7 (some 31) (u := ?_) rfl rfl (by kernel_rfl) (by kernel_rfl) (by kernel_rfl) (by kernel_rfl) (fun _ _ _ h => h) (by rfl) (fun wS hv => ?_) hS ?_
          rotate_left
          · obtain ⟨k1, k2, k3, k4⟩ := hv
            go_simp
            all_goals with_reducible rfl
          try simp only [Act.put, List.setIfInBounds_toArray, List.set]
          refine until_take 8 (some 32) (u := ?_) rfl rfl (by kernel_rfl) (by kernel_rfl) (by kernel_rfl) (by kernel_rfl) (fun _ _ _ h => h) (by rfl) (fun wS hv => ?_) hS ?_
          rotate_left
          · clear hv
            go_simp
            all_goals with_reducible rfl
          try simp only [Act.put, List.setIfInBounds_toArray, List.set]
          refine until_take 9 (some 33) (u := ?_) rfl rfl (by kernel_rfl) (by kernel_rfl) (by kernel_rfl) (by kernel_rfl) (fun _ _ _ h => h) (by rfl) (fun wS hv => ?_) hS ?_
          rotate_left
          · clear hv
            go_simp
            all_goals with_reducible rfl
          try simp only [Act.put, List.setIfInBounds_toArray, List.set]
          refine until_take 10 (some 34) (u := ?_) rfl rfl (by kernel_rfl) (by kernel_rfl) (by kernel_rfl) (by kernel_rfl) (fun _ _ _ h => h) (by rfl) (fun wS hv => ?_) hS ?_
          rotate_left
          · clear hv
            go_simp
            all_goals with_reducible rfl
          try simp only [Act.put, List.setIfInBounds_toArray, List.set]
          refine until_take 11 (some 35) (u := ?_) rfl rfl (by kernel_rfl) (by kernel_rfl) (by kernel_rfl) (by kernel_rfl) (fun _ _ _ h => h) (by rfl) (fun wS hv => ?_) hS ?_
          rotate_left
          · obtain ⟨k1, k2, k3, k4⟩ := hv
            go_simp
            all_goals with_reducible rfl
          try simp only [Act.put, List.setIfInBounds_toArray, List.set]
          refine until_take 12 (some 36) (u := ?_) rfl rfl (by kernel_rfl) (by kernel_rfl) (by kernel_rfl) (by kernel_rfl) (fun _ _ _ h => h) (by rfl) (fun wS hv => ?_) hS ?_
          rotate_left
          · clear hv
            go_simp
            all_goals with_reducible rfl
          try simp only [Act.put, List.setIfInBounds_toArray, List.set]
          refine until_take 13 (some 37) (u := ?_) rfl rfl (by kernel_rfl) (by kernel_rfl) (by kernel_rfl) (by kernel_rfl) (fun _ _ _ h => h) (by rfl) (fun wS hv => ?_) hS ?_
          rotate_left
          · clear hv
            go_simp
            all_goals with_reducible rfl
          try simp only [Act.put, List.setIfInBounds_toArray, List.set]
          refine until_take 14 (some 38) (u := ?_) rfl rfl (by kernel_rfl) (by kernel_rfl) (by kernel_rfl) (by kernel_rfl) (fun _ _ _ h => h) (by rfl) (fun wS hv => ?_) hS ?_
          rotate_left
          · clear hv
            go_simp
            all_goals with_reducible rfl
          try simp only [Act.put, List.setIfInBounds_toArray, List.set]
          refine until_take 15 (some 39) (u := ?_) rfl rfl (by kernel_rfl) (by kernel_rfl) (by kernel_rfl) (by kernel_rfl) (fun _ _ _ h => h) (by rfl) (fun wS hv => ?_) hS ?_
          rotate_left
          · obtain ⟨k1, k2, k3, k4⟩ := hv
            go_simp
            all_goals with_reducible rfl
          try simp only [Act.put, List.setIfInBounds_toArray, List.set]
          refine until_take 16 (some 40) (u := ?_) rfl rfl (by kernel_rfl) (by kernel_rfl) (by kernel_rfl) (by kernel_rfl) (fun _ _ _ h => h) (by rfl) (fun wS hv => ?_) hS ?_
          rotate_left
          · clear hv
            go_simp
            all_goals with_reducible rfl
          try simp only [Act.put, List.setIfInBounds_toArray, List.set]
          refine until_take 17 (some 41) (u := ?_) rfl rfl (by kernel_rfl) (by kernel_rfl) (by kernel_rfl) (by kernel_rfl) (fun _ _ _ h => h) (by rfl) (fun wS hv => ?_) hS ?_
          rotate_left
          · clear hv
            go_simp
            all_goals with_reducible rfl
          try simp only [Act.put, List.setIfInBounds_toArray, List.set]
          refine until_take 18 (some 42) (u := ?_) rfl rfl (by kernel_rfl) (by kernel_rfl) (by kernel_rfl) (by kernel_rfl) (fun _ _ _ h => h) (by rfl) (fun wS hv => ?_) hS ?_
          rotate_left
          · clear hv
            go_simp
            all_goals with_reducible rfl
          try simp only [Act.put, List.setIfInBounds_toArray, List.set]
          refine until_take 19 (some 43) (u := ?_) rfl rfl (by kernel_rfl) (by kernel_rfl) (by kernel_rfl) (by kernel_rfl) (fun _ _ _ h => h) (by rfl) (fun wS hv => ?_) hS ?_
          rotate_left
          · obtain ⟨k1, k2, k3, k4⟩ := hv
            go_simp
            all_goals with_reducible rfl
          try simp only [Act.put, List.setIfInBounds_toArray, List.set]
          refine until_take 20 (some 44) (u := ?_) rfl rfl (by kernel_rfl) (by kernel_rfl) (by kernel_rfl) (by kernel_rfl) (fun _ _ _ h => h) (by rfl) (fun wS hv => ?_) hS ?_
          rotate_left
          · clear hv
            go_simp
            all_goals with_reducible rfl
          try simp only [Act.put, List.setIfInBounds_toArray, List.set]
          refine until_last (by kernel_rfl) rfl (by kernel_rfl) (fun K hK => ?_)
          have y0 := HY0
          have y1 := HY1
          go_simp
          refine hK.out _ _ ?_
          clear hK K y0 y1
          have hd3 := HSet.out.1
          have t3 := HT2.out.drew.trans HSet.out.2
          rw [← HKT.out] at hd3
          have HD3 := Lib.hid hd3
          have T3 := Lib.hid t3
          clear hd3 t3 d0 d1 e1 e2 HY0 HY1 hS
          go_wp2
          go_roundw
          case rel => exact ⟨j + 1, by omega, by go_num, HD3.out, T3.out⟩
          case measure => simp [intOf]; omega
        · obtain rfl : j = l.length := by omega
          rw [List.take_length] at hd2 hwt
          obtain ⟨d0, d1, -⟩ := ref_cells hd2
          have f1 := hd2.1.frozen 1
          have HD2 := Lib.hid hd2
          have HT2 := Lib.hid ht2
          have HDW2 := Lib.hid hwt
          have how := hd2.2.2.1
          rw [hwt] at how
          obtain ⟨p3, c3, hrv⟩ := how.form
          subst hrv
          clear hd2 ht2 how hwt hdn2
          go_wp2_with fail
          go_ret
          have hd3 := IsRef.setWaits (rv2 := .slice none 0 0) (L := []) HD2.out.1 HD2.out.2.1 (OwnW.none _ _) HD2.out.2.2.2
          have hfd : { keepAll D l with waits := [] } = flushD D := by unfold flushD; rw [HDW.out]
          rw [hfd] at hd3
          rw [HDE.out]
          exact ⟨rfl, _, hd3, ((T1.out.trans HT2.out).trans (RTouch.of_grown (upd_set wr rh 1 _) (.inl rfl))).to_nil⟩
    · have hg2 : goesD d = false := by simpa using hg
      have hfl : fluD d = stepR d := by simp [fluD, stepR, hg2]
      rw [if_neg hg, hfl]
      have HG := Lib.hid hg
      clear hg hg2 hfl
      go_enter Try.func29, Try.ntmps29
      go_wp2_with fail
      refine (refStep_any _ rh _ rv B d HD.out OK.out).mono ?_
      rw [if_neg HG.out, if_neg HG.out]
      rintro e w1 ⟨rfl, hd1, t1⟩
      have HD1 := Lib.hid (show IsRef w1 rh _ rv B { d with on := false } from hd1)
      have T1 := Lib.hid t1
      clear hd1 t1 c0 c1 c2
      go_wp2_with fail
      go_ret
      refine ⟨rfl, rv, ?_, T1.out⟩
      unfold stepR
      rw [if_neg HG.out]
      exact HD1.out
end Go.Proofs.Ytiighehibiijcaa

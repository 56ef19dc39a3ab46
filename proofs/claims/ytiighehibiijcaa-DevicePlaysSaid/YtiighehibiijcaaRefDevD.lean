/-
  What Crash of the document's device does. No conditions beside those in each theorem.
-/
import Derived.Test.YtiighehibiijcaaRefDevC
import Derived.Test.YtiighehibiijcaaOpenBytes
import Derived.Deep.DeepCutAuto
namespace Go.Proofs.Ytiighehibiijcaa
open Go.RowKit
set_option linter.unusedSimpArgs false
set_option linter.unnecessarySimpa false
set_option linter.unusedVariables false

theorem crashN_waits (ks : List Bool) (torn : Int) (cc : Nat) (d : Dev) (l : List (Int × List UInt8)) (i : Nat) : (crashN ks torn cc d l i).waits = d.waits ∧ (crashN ks torn cc d l i).n = d.n := ⟨(crashN_n ks torn cc d l i).2.1, (crashN_n ks torn cc d l i).1⟩
set_option maxRecDepth 100000 in
set_option maxHeartbeats 6400000 in
theorem refCrash_any (W w : World) (rh : Nat) (sv rv kv : Value) (B : Nat) (d : Dev) (ks : List Bool) (torn cut : Int) (hd : IsRef w rh sv rv B d) (hkv : ReadBl W kv ks) (hWB : W.heap.size ≤ B) (hWw : Below W.heap.size W w) (hs : SafeOk d) (hw : WaitOk d.n d.waits) (hn0 : 0 < d.n) (hn1 : d.n ≤ 4096) (hwl : d.waits.length < 4611686018427) :
    Calls Try.prog 32 #[.pointer (some ⟨rh, 0, none⟩), kv, .int .i64 torn, .int .i64 cut] w
      fun e w' => e = .returned (.tuple #[]) ∧ ∃ rv', IsRef w' rh sv rv' B (crashD ks torn (min (max cut 0) 64).toNat d) ∧ RTouch rh sv w rv w' rv' := by
  have HD := Lib.hid hd
  have HWK := Lib.hid hw
  have HSO := Lib.hid hs
  have HWW := Lib.hid hWw
  obtain ⟨c0, c1, c2, -⟩ := ref_cells hd
  obtain ⟨gs, cS, hsv⟩ := hd.2.1.some_of (by rw [safeL_length]; omega)
  obtain ⟨N, hN⟩ : ∃ N, (safeL d).length = N := ⟨_, rfl⟩
  rw [hN] at hsv
  rw [safeL_length] at hN
  have HN := Lib.hid hN
  obtain ⟨l, hl⟩ : ∃ l, d.waits = l := ⟨_, rfl⟩
  rw [hl] at hwl
  have HL := Lib.hid hl
  obtain ⟨hkl, p, c, rfl, hkc⟩ := hkv
  have HKC := Lib.hid hkc
  unfold maxLen at hkl
  subst hsv
  clear hd hw hs hWw hN hl hkc
  obtain ⟨cc, hcc⟩ : ∃ cc, (min (max cut 0) 64).toNat = cc := ⟨_, rfl⟩
  have hcc64 : cc ≤ 64 := by omega
  have HCC := Lib.hid hcc
  rw [hcc]
  go_enter Try.func32, Try.ntmps32
  go_upto_if 12 with fail
  go_cut [3] (fun c w' => ∃ m : Int, 0 ≤ m ∧ Hid (max cut 0 = m) ∧ c = .int .i64 m ∧ w' = w)
  case first =>
    by_cases h0 : cut < 0
    · have hm : max cut 0 = 0 := by omega
      have HM := Lib.hid hm
      clear hm hcc
      go_wp2_with fail
      go_meet
      case rel => exact ⟨_, by omega, HM, rfl, rfl⟩
    · have hm : max cut 0 = cut := by omega
      have h0' : ¬ cut < 0 := h0
      have HM := Lib.hid hm
      clear hm hcc
      go_wp2_with fail
      go_meet
      case rel => exact ⟨_, by omega, HM, rfl, rfl⟩
  case rest =>
    obtain ⟨m, hm0, HM, rfl, rfl⟩ := hcut
    have hcc : (min m 64).toNat = cc := by rw [← HM.out]; exact HCC.out
    go_upto_if 14 with fail
    go_cut [3] (fun c w' => c = .int .i64 (cc : Int) ∧ w' = wc)
    case first =>
      by_cases h0 : 64 < m
      · have hm2 : (cc : Int) = 64 := by omega
        have HM2 := Lib.hid hm2
        clear hcc hm2
        go_wp2_with fail
        go_meet
        case rel => exact ⟨by rw [HM2.out], rfl⟩
      · have hm2 : (cc : Int) = m := by omega
        have h0' : ¬ 64 < m := h0
        have HM2 := Lib.hid hm2
        clear hcc hm2
        go_wp2_with fail
        go_meet
        case rel => exact ⟨by rw [HM2.out], rfl⟩
    case rest =>
      obtain ⟨rfl, rfl⟩ := hcut
      clear hcc
      go_wp2_with fail
      go_loopw [8] (fun i wr => ∃ j : Nat, j ≤ l.length ∧ i = .int .i64 j ∧ IsRef wr rh (.slice (some ⟨gs, 0, none⟩) N cS) rv B (crashN ks torn cc d l j) ∧ RTouch rh (.slice (some ⟨gs, 0, none⟩) N cS) wc rv wr rv) (fun i _ => l.length - (intOf i).toNat)
      case atStart => exact ⟨0, Nat.zero_le _, rfl, HD.out, RTouch.refl _ _ _ _⟩
      case round =>
        obtain ⟨j, hj, rfl, hd2, ht2⟩ := hrel
        obtain ⟨hwt, hdn⟩ := crashN_waits ks torn cc d l j
        rw [HL.out] at hwt
        have hso := crashN_safe (ks := ks) (torn := torn) (l := l) HSO.out hcc64 (HL.out ▸ HWK.out) j
        have hB2 := HWW.out.trans (HD.out.below ht2 hWB HWW.out.size)
        by_cases hlt : j < l.length
        · have hji : (j : Int) < (l.length : Int) := by omega
          have how := hd2.2.2.1
          rw [hwt] at how
          obtain ⟨gv, c', hrv, hgv, hcell⟩ := how.some_of (by omega)
          subst hrv
          obtain ⟨e1, e2⟩ := hcell j hlt
          have hwk := HWK.out l[j] (by rw [HL.out]; exact List.getElem_mem hlt)
          have hst := crashN_succ (ks := ks) (torn := torn) (cc := cc) (d := d) (List.getElem?_eq_getElem hlt)
          obtain ⟨⟨x', t⟩, hx⟩ : ∃ q, l[j] = q := ⟨_, rfl⟩
          rw [hx] at e1 e2 hwk hst
          simp only [] at e1 e2
          obtain ⟨-, htl, hxh⟩ := hwk
          simp only [] at htl hxh
          have hx0 : 0 ≤ x' ∧ x' < d.n := by simpa [hasD] using hxh
          obtain ⟨k, rfl⟩ := Int.eq_ofNat_of_zero_le hx0.1
          have hkN : k < N := by have := HN.out; omega
          have hkNi : ((k : Nat) : Int) < (N : Int) := by omega
          have h63 : (k : Int) < 9223372036854775808 := by omega
          obtain ⟨d0, d1, -⟩ := ref_cells hd2
          by_cases hjk : j < ks.length
          · obtain ⟨b, o, rfl, hbw, hk⟩ := HKC.out (by omega)
            have kcell := (hB2.cell (p := ⟨b, o + j, none⟩) hbw).trans (hk j hjk)
            have hjki : ¬ (ks.length : Int) ≤ (j : Int) := by omega
            obtain ⟨u, hu⟩ : ∃ u, ks[j] = u := ⟨_, rfl⟩
            rw [hu] at kcell
            unfold crash1 at hst
            rw [List.getElem?_eq_getElem hjk, hu] at hst
            cases u
            · rw [if_neg (by simp)] at hst
              rw [← hst] at hd2
              have HD2 := Lib.hid hd2
              have HT2 := Lib.hid ht2
              clear hst hd2 ht2 hu hk hx hcell how hxh htl hx0 hwt hdn hso hB2 e1 e2
              go_wp2_with fail
              go_roundw
              case rel => exact ⟨j + 1, by omega, by go_num, HD2.out, HT2.out⟩
              case measure => simp [intOf]; omega
            · rw [if_pos rfl] at hst
              obtain ⟨D, hD⟩ : ∃ D, crashN ks torn cc d l j = D := ⟨_, rfl⟩
              rw [hD] at hst hd2 hdn hso hwt
              have hkl0 : k < (safeL D).length := by rw [safeL_length, hdn]; have := HN.out; omega
              have hzc := (hd2.rowcell hkl0).1
              have hzl := hso.safeD (k : Int)
              obtain ⟨z, hz⟩ : ∃ z, safeD D (k : Int) = z := ⟨_, rfl⟩
              have hbel := (Below.refl wr.heap.size wr).alloc (Nat.le_refl _) (.cells #[.int .i64 (k : Int), str t] 91)
              have HD1 := Lib.hid (hd2.step hbel)
              have HT1 := Lib.hid (ht2.trans (RTouch.of_below hbel))
              have X1 := Lib.hid (Blk.new wr 91 #[.int .i64 (k : Int), str t])
              have lh := hd2.1.lt
              have lgs : gs < wr.heap.size := World.block_lt_of_cell? wr _ hzc
              have HDN := Lib.hid hdn
              simp only [] at hst
              rw [hz] at hzl hzc
              by_cases htorn : (j : Int) = torn
              · subst htorn
                rw [if_pos rfl] at hst
                unfold tornS at hst
                simp only [] at hst
                rw [hz] at hst
                obtain ⟨X, hX⟩ : ∃ X, List.take cc t = X := ⟨_, rfl⟩
                obtain ⟨Y, hY⟩ : ∃ Y, List.take (64 - cc) (List.drop cc z) = Y := ⟨_, rfl⟩
                have hci : (cc : Int) ≤ 64 := by omega
                have hzY : z.drop cc = Y := by rw [← hY, List.take_of_length_le]; rw [List.length_drop, hzl]; omega
                have hXY : ¬ 9223372036854775807 < X.length + Y.length := by rw [← hX, ← hzY, List.length_take, List.length_drop]; omega
                rw [hX, hzY] at hst
                have HST := Lib.hid hst
                have HZ := Lib.hid hz
                clear hst hd2 ht2 hu hk hx hcell how hxh hx0 hwt hdn hso hB2 hbel hD hz hzY hkl0
                go_wp2_with fail
                generalize wr.alloc (.cells #[.int .i64 (k : Int), str t] 91) = w1 at HD1 HT1 X1 ⊢
                obtain ⟨x, hxx⟩ : ∃ x, wr.heap.size = x := ⟨_, rfl⟩
                rw [hxx] at X1 ⊢
                have x0 : w1.cell? ⟨x, 0, none⟩ = some (.int .i64 (k : Int)) := X1.out.cell 0
                have x1 : w1.cell? ⟨x, 1, none⟩ = some (str t) := X1.out.cell 1
                obtain ⟨d0', -⟩ := ref_cells HD1.out
                have hkl1 : k < (safeL D).length := by rw [safeL_length]; have := HDN.out; have := HN.out; omega
                have hz1 : w1.cell? ⟨gs, k, none⟩ = some (str (safeD D (k : Int))) := (HD1.out.rowcell hkl1).1
                rw [HZ.out] at hz1
                clear hkl1 c0 c1 c2 d0 d1 e1 e2 kcell hzc hxx lh lgs hcc
                go_quiet (fail)
                go_wp2
                have HD2 := Lib.hid (HD1.out.step (w' := w1.drewN nq) ⟨rfl, rfl, rfl, Nat.le_refl _, fun _ _ => rfl⟩)
                have HT2 := Lib.hid (HT1.out.trans (RTouch.of_below (w' := w1.drewN nq) ⟨rfl, rfl, rfl, Nat.le_refl _, fun _ _ => rfl⟩))
                have x0 : (w1.drewN nq).cell? ⟨x, 0, none⟩ = some (.int .i64 (k : Int)) := x0
                generalize w1.drewN nq = w2 at HD2 HT2 x0 ⊢
                clear d0' x1 hz1 X1 HD1 HT1
                have hkl : k < (safeL D).length := by rw [safeL_length]; have := HDN.out; have := HN.out; omega
                obtain ⟨HY0, HY1⟩ := (HD2.out.drew).rowcell hkl
                obtain ⟨d0, d1, -⟩ := ref_cells HD2.out
                have HSet := Lib.hid (IsRef.setSafe (t := X ++ Y) HD2.out.drew hkl)
                clear hkl
                refine until_begin 8 (fun w' => w'.cell? ⟨rh, 0, none⟩ = some (.slice (some ⟨gs, 0, none⟩) N cS) ∧ w'.cell? ⟨x, 0, none⟩ = some (.int .i64 (k : Int))) (by kernel_rfl) ⟨d0, x0⟩ (fun hS => ?_)
                refine until_take 0 (some 62) (u := ?_) rfl rfl (by kernel_rfl) (by kernel_rfl) (by kernel_rfl) (by kernel_rfl) (fun _ _ _ h => h) (by rfl) (fun wS hv => ?_) hS ?_
                rotate_left
                · clear hv
                  go_simp
                  all_goals with_reducible rfl
                try simp only [Act.put, List.setIfInBounds_toArray, List.set]
                refine until_take 1 (some 63) (u := ?_) rfl rfl (by kernel_rfl) (by kernel_rfl) (by kernel_rfl) (by kernel_rfl) (fun _ _ _ h => h) (by rfl) (fun wS hv => ?_) hS ?_
                rotate_left
                · clear hv
                  go_simp
                  all_goals with_reducible rfl
                try simp only [Act.put, List.setIfInBounds_toArray, List.set]
                refine until_take 2 (some 64) (u := ?_) rfl rfl (by kernel_rfl) (by kernel_rfl) (by kernel_rfl) (by kernel_rfl) (fun _ _ _ h => h) (by rfl) (fun wS hv => ?_) hS ?_
                rotate_left
                · clear hv
                  go_simp
                  all_goals with_reducible rfl
                try simp only [Act.put, List.setIfInBounds_toArray, List.set]
                refine until_take 3 (some 65) (u := ?_) rfl rfl (by kernel_rfl) (by kernel_rfl) (by kernel_rfl) (by kernel_rfl) (fun _ _ _ h => h) (by rfl) (fun wS hv => ?_) hS ?_
                rotate_left
                · obtain ⟨k1, k2⟩ := hv
                  go_simp
                  all_goals with_reducible rfl
                try simp only [Act.put, List.setIfInBounds_toArray, List.set]
                refine until_take 4 (some 66) (u := ?_) rfl rfl (by kernel_rfl) (by kernel_rfl) (by kernel_rfl) (by kernel_rfl) (fun _ _ _ h => h) (by rfl) (fun wS hv => ?_) hS ?_
                rotate_left
                · clear hv
                  go_simp
                  all_goals with_reducible rfl
                try simp only [Act.put, List.setIfInBounds_toArray, List.set]
                refine until_take 5 (some 67) (u := ?_) rfl rfl (by kernel_rfl) (by kernel_rfl) (by kernel_rfl) (by kernel_rfl) (fun _ _ _ h => h) (by rfl) (fun wS hv => ?_) hS ?_
                rotate_left
                · obtain ⟨k1, k2⟩ := hv
                  go_simp
                  all_goals with_reducible rfl
                try simp only [Act.put, List.setIfInBounds_toArray, List.set]
                refine until_take 6 (some 68) (u := ?_) rfl rfl (by kernel_rfl) (by kernel_rfl) (by kernel_rfl) (by kernel_rfl) (fun _ _ _ h => h) (by rfl) (fun wS hv => ?_) hS ?_
                rotate_left
                · clear hv
                  go_simp
                  all_goals with_reducible rfl
                try simp only [Act.put, List.setIfInBounds_toArray, List.set]
                refine until_take 7 (some 69) (u := ?_) rfl rfl (by kernel_rfl) (by kernel_rfl) (by kernel_rfl) (by kernel_rfl) (fun _ _ _ h => h) (by rfl) (fun wS hv => ?_) hS ?_
                rotate_left
                · clear hv
                  go_simp
                  all_goals with_reducible rfl
                try simp only [Act.put, List.setIfInBounds_toArray, List.set]
                refine until_last (by kernel_rfl) rfl (by kernel_rfl) (fun K hK => ?_)
                have y0 := HY0
                have y1 := HY1
                go_simp
                refine hK.out _ _ ?_
                clear hK K y0 y1
                have hd3 := HSet.out.1
                have t3 := HT2.out.drew.trans HSet.out.2
                rw [← HST.out] at hd3
                have HD3 := Lib.hid hd3
                have T3 := Lib.hid t3
                clear hd3 t3 d0 d1 x0 HY0 HY1 hS
                go_wp2
                go_roundw
                case rel => exact ⟨j + 1, by omega, by go_num, HD3.out, T3.out⟩
                case measure => simp [intOf]; omega
              · rw [if_neg htorn] at hst
                have HST := Lib.hid hst
                have htb : ((j : Int) == torn) = false := by simpa using htorn
                clear hst hd2 ht2 hu hk hx hcell how hxh hx0 hwt hdn hso hB2 hbel hD hz hkl0 htorn
                go_wp2_with fail
                have HD2 := HD1
                have HT2 := HT1
                generalize wr.alloc (.cells #[.int .i64 (k : Int), str t] 91) = w1 at HD1 HD2 HT1 HT2 X1 ⊢
                obtain ⟨x, hxx⟩ : ∃ x, wr.heap.size = x := ⟨_, rfl⟩
                rw [hxx] at X1 ⊢
                have x0 : w1.cell? ⟨x, 0, none⟩ = some (.int .i64 (k : Int)) := X1.out.cell 0
                clear d0 d1 HD1 HT1 hxx hzc e1 e2 kcell lh lgs
                have hkl : k < (safeL D).length := by rw [safeL_length]; have := HDN.out; have := HN.out; omega
                obtain ⟨HY0, HY1⟩ := (HD2.out.drew).rowcell hkl
                obtain ⟨d0, d1, -⟩ := ref_cells HD2.out
                have HSet := Lib.hid (IsRef.setSafe (t := t) HD2.out.drew hkl)
                clear hkl
                refine until_begin 8 (fun w' => w'.cell? ⟨rh, 0, none⟩ = some (.slice (some ⟨gs, 0, none⟩) N cS) ∧ w'.cell? ⟨x, 0, none⟩ = some (.int .i64 (k : Int))) (by kernel_rfl) ⟨d0, x0⟩ (fun hS => ?_)
                refine until_take 0 (some 62) (u := ?_) rfl rfl (by kernel_rfl) (by kernel_rfl) (by kernel_rfl) (by kernel_rfl) (fun _ _ _ h => h) (by rfl) (fun wS hv => ?_) hS ?_
                rotate_left
                · clear hv
                  go_simp
                  all_goals with_reducible rfl
                try simp only [Act.put, List.setIfInBounds_toArray, List.set]
                refine until_take 1 (some 63) (u := ?_) rfl rfl (by kernel_rfl) (by kernel_rfl) (by kernel_rfl) (by kernel_rfl) (fun _ _ _ h => h) (by rfl) (fun wS hv => ?_) hS ?_
                rotate_left
                · clear hv
                  go_simp
                  all_goals with_reducible rfl
                try simp only [Act.put, List.setIfInBounds_toArray, List.set]
                refine until_take 2 (some 64) (u := ?_) rfl rfl (by kernel_rfl) (by kernel_rfl) (by kernel_rfl) (by kernel_rfl) (fun _ _ _ h => h) (by rfl) (fun wS hv => ?_) hS ?_
                rotate_left
                · clear hv
                  go_simp
                  all_goals with_reducible rfl
                try simp only [Act.put, List.setIfInBounds_toArray, List.set]
                refine until_take 3 (some 65) (u := ?_) rfl rfl (by kernel_rfl) (by kernel_rfl) (by kernel_rfl) (by kernel_rfl) (fun _ _ _ h => h) (by rfl) (fun wS hv => ?_) hS ?_
                rotate_left
                · obtain ⟨k1, k2⟩ := hv
                  go_simp
                  all_goals with_reducible rfl
                try simp only [Act.put, List.setIfInBounds_toArray, List.set]
                refine until_take 4 (some 66) (u := ?_) rfl rfl (by kernel_rfl) (by kernel_rfl) (by kernel_rfl) (by kernel_rfl) (fun _ _ _ h => h) (by rfl) (fun wS hv => ?_) hS ?_
                rotate_left
                · clear hv
                  go_simp
                  all_goals with_reducible rfl
                try simp only [Act.put, List.setIfInBounds_toArray, List.set]
                refine until_take 5 (some 67) (u := ?_) rfl rfl (by kernel_rfl) (by kernel_rfl) (by kernel_rfl) (by kernel_rfl) (fun _ _ _ h => h) (by rfl) (fun wS hv => ?_) hS ?_
                rotate_left
                · obtain ⟨k1, k2⟩ := hv
                  go_simp
                  all_goals with_reducible rfl
                try simp only [Act.put, List.setIfInBounds_toArray, List.set]
                refine until_take 6 (some 68) (u := ?_) rfl rfl (by kernel_rfl) (by kernel_rfl) (by kernel_rfl) (by kernel_rfl) (fun _ _ _ h => h) (by rfl) (fun wS hv => ?_) hS ?_
                rotate_left
                · clear hv
                  go_simp
                  all_goals with_reducible rfl
                try simp only [Act.put, List.setIfInBounds_toArray, List.set]
                refine until_take 7 (some 69) (u := ?_) rfl rfl (by kernel_rfl) (by kernel_rfl) (by kernel_rfl) (by kernel_rfl) (fun _ _ _ h => h) (by rfl) (fun wS hv => ?_) hS ?_
                rotate_left
                · clear hv
                  go_simp
                  all_goals with_reducible rfl
                try simp only [Act.put, List.setIfInBounds_toArray, List.set]
                refine until_last (by kernel_rfl) rfl (by kernel_rfl) (fun K hK => ?_)
                have y0 := HY0
                have y1 := HY1
                go_simp
                refine hK.out _ _ ?_
                clear hK K y0 y1
                have hd3 := HSet.out.1
                have t3 := HT2.out.drew.trans HSet.out.2
                rw [← HST.out] at hd3
                have HD3 := Lib.hid hd3
                have T3 := Lib.hid t3
                clear hd3 t3 d0 d1 x0 HY0 HY1 hS
                go_wp2
                go_roundw
                case rel => exact ⟨j + 1, by omega, by go_num, HD3.out, T3.out⟩
                case measure => simp [intOf]; omega
          · have hjki : (ks.length : Int) ≤ (j : Int) := by omega
            unfold crash1 at hst
            rw [List.getElem?_eq_none (by omega), if_neg (by simp)] at hst
            rw [← hst] at hd2
            have HD2 := Lib.hid hd2
            have HT2 := Lib.hid ht2
            clear hst hd2 ht2 hx hcell how hxh htl hx0 hwt hdn hso hB2 e1 e2
            go_wp2_with fail
            go_roundw
            case rel => exact ⟨j + 1, by omega, by go_num, HD2.out, HT2.out⟩
            case measure => simp [intOf]; omega
        · obtain rfl : j = l.length := by omega
          obtain ⟨d0, d1, -⟩ := ref_cells hd2
          have f1 := hd2.1.frozen 1
          have f2 := hd2.1.frozen 2
          have f3 := hd2.1.frozen 3
          obtain ⟨-, -, d2, d3, -⟩ := ref_cells hd2
          have HD2 := Lib.hid hd2
          have HT2 := Lib.hid ht2
          have how := hd2.2.2.1
          rw [hwt] at how
          obtain ⟨p3, c3, hrv⟩ := how.form
          subst hrv
          clear hd2 ht2 how hwt hdn hso hB2
          go_wp2_with fail
          go_end0
          have hd3 := IsRef.setWaits (rv2 := .slice none 0 0) (L := []) HD2.out.1 HD2.out.2.1 (OwnW.none _ _) HD2.out.2.2.2
          obtain ⟨hd4, t4⟩ := IsRef.set (i := 2) (u := .bool true) (d' := { crashN ks torn cc d l l.length with waits := [], on := true }) hd3 rfl rfl rfl rfl
          obtain ⟨hd5, t5⟩ := IsRef.set (i := 3) (u := .bool false) (d' := { crashN ks torn cc d l l.length with waits := [], on := true, armed := false }) hd4 rfl rfl rfl rfl
          have hfd : ({ crashN ks torn cc d l l.length with waits := [], on := true, armed := false } : Dev) = crashD ks torn cc d := by unfold crashD; rw [HL.out]
          rw [hfd] at hd5
          exact ⟨rfl, _, hd5, (((HT2.out.trans (RTouch.of_grown (upd_set wr rh 1 _) (.inl rfl))).to_nil).trans t4).trans t5⟩
end Go.Proofs.Ytiighehibiijcaa

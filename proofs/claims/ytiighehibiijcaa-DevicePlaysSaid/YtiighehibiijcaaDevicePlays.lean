/-
  The walk of DevicePlays: it returns true for any number of sectors and any calls. No conditions beside those in each theorem.
-/
import Derived.Test.YtiighehibiijcaaTwoDev
import Derived.Test.YtiighehibiijcaaOpenOps
import Derived.Test.YtiighehibiijcaaMeet
import Derived.Test.YtiighehibiijcaaMasks
namespace Go.Proofs.Ytiighehibiijcaa
open Go.RowKit
set_option linter.unusedSimpArgs false
set_option linter.unnecessarySimpa false
set_option linter.unusedVariables false

/-- The frame: what the variables hold; us: all else. -/
def FrP (v0 v1 v5 v6 v7 v8 v9 v10 : Value) (us : Nat → Value) : Act := ⟨#[v0, v1, us 2, us 3, us 4, v5, v6, v7, v8, v9, v10, us 11, us 12, us 13, us 14, us 15, us 16, us 17, us 18, us 19, us 20, us 21, us 22, us 23, us 24, us 25, us 26, us 27, us 28, us 29, us 30, us 31, us 32, us 33, us 34, us 35, us 36, us 37, us 38, us 39, us 40, us 41, us 42, us 43, us 44, us 45, us 46, us 47, us 48, us 49, us 50, us 51, us 52, us 53, us 54, us 55, us 56, us 57, us 58, us 59, us 60, us 61, us 62, us 63, us 64, us 65, us 66, us 67, us 68, us 69, us 70, us 71, us 72, us 73, us 74, us 75, us 76, us 77, us 78, us 79, us 80, us 81, us 82, us 83, us 84, us 85, us 86, us 87, us 88, us 89, us 90, us 91, us 92, us 93, us 94, us 95, us 96, us 97, us 98, us 99, us 100, us 101, us 102, us 103, us 104, us 105, us 106, us 107, us 108, us 109, us 110, us 111, us 112, us 113, us 114, us 115, us 116, us 117, us 118, us 119, us 120, us 121, us 122, us 123, us 124, us 125, us 126, us 127, us 128, us 129, us 130, us 131, us 132, us 133, us 134, us 135, us 136, us 137, us 138, us 139, us 140, us 141, us 142, us 143, us 144, us 145, us 146, us 147, us 148, us 149, us 150, us 151, us 152, us 153, us 154, us 155, us 156, us 157, us 158, us 159, us 160, us 161, us 162, us 163, us 164, us 165, us 166, us 167, us 168, us 169, us 170, us 171, us 172, us 173, us 174, us 175, us 176, us 177, us 178, us 179, us 180, us 181, us 182, us 183, us 184, us 185, us 186, us 187, us 188, us 189, us 190, us 191, us 192, us 193, us 194, us 195], []⟩

theorem KeepIs.ofRead2 {W w : World} {g gm : Nat} {v kv : Value} {cap B : Nat} {d : Dev} {ks : List Bool} (hR : ReadBl W kv ks) (hd : IsDev w g gm v cap B d) (hB : Below W.heap.size W w) (hBB : W.heap.size ≤ B) : KeepIs w g gm v kv ks := by
  obtain ⟨h1, p, c, rfl, h2⟩ := hR
  refine ⟨h1, p, c, rfl, fun h => ?_⟩
  obtain ⟨b, o, rfl, hb, hc⟩ := h2 h
  refine ⟨b, o, rfl, Nat.lt_of_lt_of_le hb hB.size, fun w' v' ht i hi => ?_⟩
  have hb2 := hd.below ht hBB hB.size
  exact ((hb2.cell (p := ⟨b, o + i, Option.none⟩) hb).trans (hB.cell (p := ⟨b, o + i, Option.none⟩) hb)).trans (hc i hi)
/-- The two devices as the law holds them, behind j calls. -/
def Plays (W w : World) (g gm rh : Nat) (sv : Value) (B2 : Nat) (n : Int) (j : Nat) (v rv : Value) (cap : Nat) (D : Dev) : Prop :=
  IsDev w g gm v cap gm D ∧ IsRef w rh sv rv B2 D ∧ Apart rv v ∧ OkP n j D ∧ cap ≤ j * 60 ∧ Below W.heap.size W w
section
variable {W w w' : World} {g gm rh B2 j cap : Nat} {sv v rv : Value} {n : Int} {D : Dev}
theorem Plays.step (h : Plays W w g gm rh sv B2 n j v rv cap D) (hb : Below w.heap.size w w') : Plays W w' g gm rh sv B2 n j v rv cap D := ⟨h.1.step hb, h.2.1.step hb, h.2.2.1, h.2.2.2.1, h.2.2.2.2.1, bel_step h.2.2.2.2.2 hb⟩
theorem Plays.drew (h : Plays W w g gm rh sv B2 n j v rv cap D) : Plays W w.drew g gm rh sv B2 n j v rv cap D := ⟨h.1.drew 1, h.2.1.drew, h.2.2.1, h.2.2.2.1, h.2.2.2.2.1, h.2.2.2.2.2.drew⟩
end

set_option maxRecDepth 100000 in
set_option maxHeartbeats 16000000 in
theorem devicePlays_walk (n : Int) (v0 : Value) (w : World) (m : Nat) (O : Nat → Op6) (hL : ReadOps w v0 m O) :
    Calls Try.prog 7 #[.int .i64 n, v0] w fun e w' => e = .returned (.bool true) ∧ Below w.heap.size w w' := by
  obtain ⟨p, c, rfl, hmax, hcell⟩ := hL
  have HCELL := Lib.hid hcell
  clear hcell hmax
  by_cases hn : 1 ≤ n ∧ n ≤ 4096
  · obtain ⟨hn01, hn1⟩ := hn
    have hn0 : 0 ≤ n := by omega
    have hnp : 0 < n := by omega
    go_enter Try.func7, Try.ntmps7
    go_wp2_with fail
    refine (awake06_any _).mono ?_
    rintro e w0 ⟨rfl, hb0⟩
    go_wp2_with fail
    refine (new_any _ n hn01 hn1).mono ?_
    rintro e w1 ⟨rfl, hd1, hb1⟩
    obtain ⟨g, hg⟩ : ∃ g, w0.heap.size + 1 = g := ⟨_, rfl⟩
    obtain ⟨gm, hgm⟩ : ∃ gm, w0.heap.size = gm := ⟨_, rfl⟩
    have hWg : w.heap.size ≤ gm := by have := hb0.size; omega
    rw [hg, hgm] at hd1
    rw [hg]
    have HD1 := Lib.hid hd1
    have B1 := Lib.hid (bel_step hb0 hb1)
    clear hd1 hg hgm hb0 hb1
    go_wp2_with fail
    refine (refNew_any _ n hn01 hn1).mono ?_
    rintro e w2 ⟨sv, rfl, hr2, hb2⟩
    obtain ⟨rh, hrh⟩ : ∃ rh, w1.heap.size = rh := ⟨_, rfl⟩
    obtain ⟨B2, hB2⟩ : ∃ B, rh = B := ⟨_, rfl⟩
    have hWB : w.heap.size ≤ B2 := by have := B1.out.size; omega
    have hp0 : Plays w w2 g gm rh sv B2 n 0 (.slice none 0 0) (.slice none 0 0) 0 (newD n) := ⟨HD1.out.step hb2, by rw [hrh, hB2] at hr2; rw [← hB2] at hr2 ⊢; exact hr2, fun i hi => by simp [Value.ownBlock] at hi, OkP.new n, Nat.zero_le _, bel_step B1.out hb2⟩
    rw [hrh]
    have HP0 := Lib.hid hp0
    clear hp0 hr2 hb2 hrh hB2 HD1 B1
    go_upto_block 0 with fail
    refine wp_cut (fun a' w' => Below w.heap.size w w' ∧ ∃ us, a' = FrP (.int .i64 n) (.slice p m c) (.bool true) (.pointer (some ⟨g, 0, none⟩)) (.pointer (some ⟨rh, 0, none⟩)) (us 8) (us 9) (us 10) us) ?_ ?_
    rotate_left
    · intro J1 K1 hJ1 hK1
      go_wp2_with fail
      refine wp_loop_ghost_k (fun k' a' w' => ∃ (j : Nat) (v rv : Value) (cap : Nat) (D : Dev), j + k' = m ∧ j ≤ 50 ∧ Plays w w' g gm rh sv B2 n (j) v rv cap D ∧ ∃ us, a' = FrP (.int .i64 n) (.slice p m c) (.bool true) (.pointer (some ⟨g, 0, none⟩)) (.pointer (some ⟨rh, 0, none⟩)) (.int .i64 j) (us 9) (us 10) us) m ?_ ?_
      · exact ⟨0, _, _, _, _, by omega, by omega, HP0.out, meet_us (by kernel_rfl)⟩
      · intro gk a0 wr hinv
        obtain ⟨j, v, rv, cap, D, hj, hj50, hp, us, rfl⟩ := hinv
        intro J2 K2 hJ2 hK2
        unfold FrP
        have HP := Lib.hid hp
        clear hp HP0
        by_cases h1 : j < m
        · have i1 : (j : Int) < (m : Int) := by omega
          by_cases h2 : j < 50
          · have i2 : (j : Int) < 50 := by omega
            obtain ⟨b, of, rfl, hbw, hcl⟩ := HCELL.out (by omega)
            obtain ⟨hc7, hks, hwf⟩ := hcl j h1
            obtain ⟨⟨k, at_, torn, cut, byte, short, kv, ks⟩, hO⟩ : ∃ x, O j = x := ⟨_, rfl⟩
            rw [hO] at hc7 hks hwf
            simp only [] at hks hwf
            obtain ⟨-, pk, ck, rfl, -⟩ := id hks
            have hB := HP.out.2.2.2.2.2
            have k0 := (hB.cell (p := ⟨b, of + j * 7, none⟩) hbw).trans (hc7 0 (by omega))
            have k1 := (hB.cell (p := ⟨b, of + j * 7 + 1, none⟩) hbw).trans (hc7 1 (by omega))
            have k2 := (hB.cell (p := ⟨b, of + j * 7 + 2, none⟩) hbw).trans (hc7 2 (by omega))
            have k3 := (hB.cell (p := ⟨b, of + j * 7 + 3, none⟩) hbw).trans (hc7 3 (by omega))
            have k4 := (hB.cell (p := ⟨b, of + j * 7 + 4, none⟩) hbw).trans (hc7 4 (by omega))
            have k5 := (hB.cell (p := ⟨b, of + j * 7 + 5, none⟩) hbw).trans (hc7 5 (by omega))
            have k6 := (hB.cell (p := ⟨b, of + j * 7 + 6, none⟩) hbw).trans (hc7 6 (by omega))
            simp only [op6C, List.getElem?_cons_zero, List.getElem?_cons_succ] at k0 k1 k2 k3 k4 k5 k6
            have HKS := Lib.hid hks
            obtain ⟨kk, hkk⟩ : ∃ kk : Nat, k % 8 = kk := ⟨(k % 8).toNat, by omega⟩
            have q0 := i64_and3 k
            rw [hkk] at q0
            have hk8 : kk < 8 := by omega
            clear hcl hc7 hks hO hB hkk
            go_upto_block 2 with fail
            have HP2 := Lib.hid (HP.out.step ((Below.refl wr.heap.size wr).alloc (Nat.le_refl _) (.cells #[.int .i64 k, .int .i64 at_, .int .i64 torn, .int .i64 cut, .int .u8 byte.toNat, .bool short, .slice pk ks.length ck] 52)))
            have SB2 := Lib.hid (Blk.new wr 52 #[.int .i64 k, .int .i64 at_, .int .i64 torn, .int .i64 cut, .int .u8 byte.toNat, .bool short, .slice pk ks.length ck])
            generalize wr.alloc (.cells #[.int .i64 k, .int .i64 at_, .int .i64 torn, .int .i64 cut, .int .u8 byte.toNat, .bool short, .slice pk ks.length ck] 52) = w2' at HP2 SB2 ⊢
            obtain ⟨gS, hgS⟩ : ∃ gS, wr.heap.size = gS := ⟨_, rfl⟩
            rw [hgS] at SB2 ⊢
            clear k0 k1 k2 k3 k4 k5 k6 hgS HP
            refine wp_cut (fun a' w' => ∃ (v rv : Value) (cap : Nat) (D : Dev), Plays w w' g gm rh sv B2 n (j + 1) v rv cap D ∧ Blk w' gS 52 #[.int .i64 k, .int .i64 at_, .int .i64 torn, .int .i64 cut, .int .u8 byte.toNat, .bool short, .slice pk ks.length ck] ∧ ∃ us, a' = FrP (.int .i64 n) (.slice (some ⟨b, of, none⟩) m c) (.bool true) (.pointer (some ⟨g, 0, none⟩)) (.pointer (some ⟨rh, 0, none⟩)) (.int .i64 j) (.pointer (some ⟨gS, 0, none⟩)) (.bool true) us) ?_ ?_
            rotate_left
            · intro J3 K3 hJ3 hK3
              have hok := HP2.out.2.2.2.1.ok (by omega)
              have hDn : D.n = n := HP2.out.2.2.2.1.1
              have hwl : D.waits.length ≤ 50 := by have := HP2.out.2.2.2.1.2.2.2.2.2.1; omega
              have hcap := HP2.out.2.2.2.2.1
              have x1 : w2'.cell? ⟨gS, 1, none⟩ = some (.int .i64 at_) := SB2.out.cell 1
              have HDN := Lib.hid hDn
              clear hDn
              by_cases e3 : kk = 3
              · subst e3
                have HFE := Lib.hid (show flushE D = flushE D from rfl)
                obtain ⟨er, her⟩ : ∃ er, flushE D = er := ⟨_, rfl⟩
                have HER := Lib.hid her
                clear her
                go_wp2_with fail
                refine (flush_any _ g gm _ _ _ _ HP2.out.1 hok HP2.out.2.2.2.1.2.2.2.2.2.2.1.weak (by omega)).mono ?_
                rw [HER.out]
                rintro e5 w5 ⟨rfl, v5, cap5, hc5, hd5, t5⟩
                have HD5 := Lib.hid hd5
                have SB5 := Lib.hid (HP2.out.1.keep t5 SB2.out (by decide) (by decide))
                have HR5 := Lib.hid (IsRef.beside HP2.out.2.1 HP2.out.1 t5 HP2.out.2.2.1)
                have BL5 := Lib.hid (HP2.out.2.2.2.2.2.trans (HP2.out.1.below t5 hWg HP2.out.2.2.2.2.2.size))
                clear hd5 t5
                go_wp2_with fail
                refine (refFlush_any _ rh sv _ B2 _ HR5.out.1 hok (by rw [HDN.out]; exact HP2.out.2.2.2.1.2.2.2.2.2.2.1) (by rw [HDN.out]; exact hnp) (by rw [HDN.out]; exact hn1)).mono ?_
                rw [HER.out]
                rintro e6 w6 ⟨rfl, rv6, hr6, t6⟩
                have SB6 := Lib.hid (HR5.out.1.keep t6 SB5.out (by decide) (by decide) (by decide))
                have HD6 := Lib.hid (IsDev.beside HD5.out HR5.out.1 t6 HR5.out.2)
                have BL6 := Lib.hid (BL5.out.trans (HR5.out.1.below t6 hWB BL5.out.size))
                have HR6 := Lib.hid hr6
                clear hr6 t6
                go_wp2_with fail
                exact meet_at hJ3 ⟨_, _, _, _, ⟨HD6.out.1, HR6.out, HD6.out.2, HP2.out.2.2.2.1.flush, by omega, BL6.out⟩, SB6.out, meet_us (by kernel_rfl)⟩
              · by_cases e4 : kk = 4
                · subst e4
                  obtain ⟨er, her⟩ : ∃ er, readE D at_ = er := ⟨_, rfl⟩
                  obtain ⟨rs, hrs⟩ : ∃ rs, readS D at_ = rs := ⟨_, rfl⟩
                  have HER := Lib.hid her
                  have HRS := Lib.hid hrs
                  clear her hrs
                  go_wp2_with fail
                  refine (read_any _ g gm _ _ _ _ at_ HP2.out.1 hwf (by omega)).mono ?_
                  rw [HER.out, HRS.out]
                  rintro e5 w5 ⟨rfl, hb5⟩
                  have HP5 := Lib.hid (HP2.out.step hb5)
                  have SB5 := Lib.hid (SB2.out.step hb5)
                  have x5 : w5.cell? ⟨gS, 1, none⟩ = some (.int .i64 at_) := SB5.out.cell 1
                  clear hb5 x1
                  go_wp2_with fail
                  refine (refRead_any _ rh sv _ B2 _ at_ HP5.out.2.1 (by rw [HDN.out]; exact hn0) (by rw [HDN.out]; exact hn1) (by omega)).mono ?_
                  rw [HER.out, HRS.out]
                  rintro e6 w6 ⟨rfl, rfl⟩
                  go_wp2_with fail
                  exact meet_at hJ3 ⟨_, _, _, _, ⟨HP5.out.1, HP5.out.2.1, HP5.out.2.2.1, HP5.out.2.2.2.1.more, by omega, HP5.out.2.2.2.2.2⟩, SB5.out, meet_us (by kernel_rfl)⟩
                · by_cases e5 : kk = 5
                  · subst e5
                    obtain ⟨aa, haa⟩ : ∃ aa, at_ % 16 = aa := ⟨_, rfl⟩
                    have q1 := i64_and4 at_
                    rw [haa] at q1
                    have ha100 : aa ≤ 100 := by omega
                    clear haa
                    go_wp2_with fail
                    refine (arm_any _ g gm _ _ _ _ aa HP2.out.1).mono ?_
                    rintro e5 w5 ⟨rfl, hd5, t5⟩
                    have HD5 := Lib.hid hd5
                    have SB5 := Lib.hid (HP2.out.1.keep t5 SB2.out (by decide) (by decide))
                    have HR5 := Lib.hid (IsRef.beside HP2.out.2.1 HP2.out.1 t5 HP2.out.2.2.1)
                    have BL5 := Lib.hid (HP2.out.2.2.2.2.2.trans (HP2.out.1.below t5 hWg HP2.out.2.2.2.2.2.size))
                    have x5 : w5.cell? ⟨gS, 1, none⟩ = some (.int .i64 at_) := SB5.out.cell 1
                    clear hd5 t5 x1
                    go_wp2_with fail
                    refine (refArm_any _ rh sv _ B2 _ aa HR5.out.1).mono ?_
                    rintro e6 w6 ⟨rfl, hr6, t6⟩
                    have SB6 := Lib.hid (HR5.out.1.keep t6 SB5.out (by decide) (by decide) (by decide))
                    have HD6 := Lib.hid (IsDev.beside HD5.out HR5.out.1 t6 HR5.out.2)
                    have BL6 := Lib.hid (BL5.out.trans (HR5.out.1.below t6 hWB BL5.out.size))
                    have HR6 := Lib.hid hr6
                    clear hr6 t6
                    go_wp2_with fail
                    exact meet_at hJ3 ⟨_, _, _, _, ⟨HD6.out.1, HR6.out, HD6.out.2, HP2.out.2.2.2.1.arm ha100, by omega, BL6.out⟩, SB6.out, meet_us (by kernel_rfl)⟩
                  · by_cases e6 : kk = 6
                    · subst e6
                      have x2 : w2'.cell? ⟨gS, 2, none⟩ = some (.int .i64 torn) := SB2.out.cell 2
                      have x3 : w2'.cell? ⟨gS, 3, none⟩ = some (.int .i64 cut) := SB2.out.cell 3
                      have x6 : w2'.cell? ⟨gS, 6, none⟩ = some (.slice pk ks.length ck) := SB2.out.cell 6
                      have hcc64 : (min (max cut 0) 64).toNat ≤ 64 := by omega
                      have HWT := Lib.hid (show WaitOk D.n D.waits by rw [HDN.out]; exact HP2.out.2.2.2.1.2.2.2.2.2.2.1)
                      have HSO := Lib.hid HP2.out.2.2.2.1.2.2.2.2.2.2.2
                      have HKP := Lib.hid (KeepIs.ofRead2 HKS.out HP2.out.1 HP2.out.2.2.2.2.2 hWg)
                      go_wp2_with fail
                      refine (crash_any _ g gm _ _ _ _ _ ks torn cut HP2.out.1 HKP.out HSO.out HWT.out (by rw [HDN.out]; omega) (by omega)).mono ?_
                      rintro e5 w5 ⟨rfl, cap5, hc5, hd5, t5⟩
                      have HD5 := Lib.hid hd5
                      have SB5 := Lib.hid (HP2.out.1.keep t5 SB2.out (by decide) (by decide))
                      have HR5 := Lib.hid (IsRef.beside HP2.out.2.1 HP2.out.1 t5 HP2.out.2.2.1)
                      have BL5 := Lib.hid (HP2.out.2.2.2.2.2.trans (HP2.out.1.below t5 hWg HP2.out.2.2.2.2.2.size))
                      have x52 : w5.cell? ⟨gS, 2, none⟩ = some (.int .i64 torn) := SB5.out.cell 2
                      have x53 : w5.cell? ⟨gS, 3, none⟩ = some (.int .i64 cut) := SB5.out.cell 3
                      have x56 : w5.cell? ⟨gS, 6, none⟩ = some (.slice pk ks.length ck) := SB5.out.cell 6
                      clear hd5 t5 x1 x2 x3 x6
                      go_wp2_with fail
                      refine (refCrash_any w _ rh sv _ (.slice pk ks.length ck) B2 _ ks torn cut HR5.out.1 HKS.out hWB BL5.out HSO.out HWT.out (by rw [HDN.out]; exact hnp) (by rw [HDN.out]; exact hn1) (by omega)).mono ?_
                      rintro e6 w6 ⟨rfl, rv6, hr6, t6⟩
                      have SB6 := Lib.hid (HR5.out.1.keep t6 SB5.out (by decide) (by decide) (by decide))
                      have HD6 := Lib.hid (IsDev.beside HD5.out HR5.out.1 t6 HR5.out.2)
                      have BL6 := Lib.hid (BL5.out.trans (HR5.out.1.below t6 hWB BL5.out.size))
                      have HR6 := Lib.hid hr6
                      clear hr6 t6
                      go_wp2_with fail
                      exact meet_at hJ3 ⟨_, _, _, _, ⟨HD6.out.1, HR6.out, HD6.out.2, HP2.out.2.2.2.1.crash ks torn hcc64, by omega, BL6.out⟩, SB6.out, meet_us (by kernel_rfl)⟩
                    · have b3 : ((kk : Int) == 3) = false := beq_eq_false_iff_ne.2 (by omega)
                      have b4 : ((kk : Int) == 4) = false := beq_eq_false_iff_ne.2 (by omega)
                      have b5 : ((kk : Int) == 5) = false := beq_eq_false_iff_ne.2 (by omega)
                      have b6 : ((kk : Int) == 6) = false := beq_eq_false_iff_ne.2 (by omega)
                      have x4 : w2'.cell? ⟨gS, 4, none⟩ = some (.int .u8 byte.toNat) := SB2.out.cell 4
                      clear e3 e4 e5 e6 x1
                      rw [← HDN.out] at hn0 hn1
                      go_wp2_with fail
                      refine (sector_any byte _).mono ?_
                      rintro e w3 ⟨rfl, hb3⟩
                      have HP3 := Lib.hid (HP2.out.step hb3)
                      have SB3 := Lib.hid (SB2.out.step hb3)
                      have x5 : w3.cell? ⟨gS, 5, none⟩ = some (.bool short) := SB3.out.cell 5
                      have hsl := secB_length byte
                      clear hb3 x4
                      cases short
                      · go_wp2_with fail
                        obtain ⟨S, hS0⟩ : ∃ S, secB byte = S := ⟨_, rfl⟩
                        rw [hS0] at hsl ⊢
                        have hS63 : S.length ≤ 1000000 := by omega
                        obtain ⟨er, her⟩ : ∃ er, writeE D at_ S = er := ⟨_, rfl⟩
                        have HWE := Lib.hid her
                        clear her hS0 x5
                        refine until_begin 12 (fun w' => w'.cell? ⟨gS, 1, none⟩ = some (.int .i64 at_)) (by kernel_rfl) (SB3.out.cell 1) (fun hS => ?_)
                        refine until_take 0 (some 54) (u := ?_) rfl rfl (by kernel_rfl) (by kernel_rfl) (by kernel_rfl) (by kernel_rfl) (fun _ _ _ h => h) (by rfl) (fun wS hv => ?_) hS ?_
                        rotate_left
                        · clear hv
                          go_simp
                          all_goals with_reducible rfl
                        try simp only [Act.put, List.setIfInBounds_toArray, List.set]
                        refine until_take 1 (some 55) (u := ?_) rfl rfl (by kernel_rfl) (by kernel_rfl) (by kernel_rfl) (by kernel_rfl) (fun _ _ _ h => h) (by rfl) (fun wS hv => ?_) hS ?_
                        rotate_left
                        · clear hv
                          go_simp
                          all_goals with_reducible rfl
                        try simp only [Act.put, List.setIfInBounds_toArray, List.set]
                        refine until_take 2 (some 56) (u := ?_) rfl rfl (by kernel_rfl) (by kernel_rfl) (by kernel_rfl) (by kernel_rfl) (fun _ _ _ h => h) (by rfl) (fun wS hv => ?_) hS ?_
                        rotate_left
                        · obtain k1 := hv
                          go_simp
                          all_goals with_reducible rfl
                        try simp only [Act.put, List.setIfInBounds_toArray, List.set]
                        refine until_take 3 (some 57) (u := ?_) rfl rfl (by kernel_rfl) (by kernel_rfl) (by kernel_rfl) (by kernel_rfl) (fun _ _ _ h => h) (by rfl) (fun wS hv => ?_) hS ?_
                        rotate_left
                        · clear hv
                          go_simp
                          all_goals with_reducible rfl
                        try simp only [Act.put, List.setIfInBounds_toArray, List.set]
                        refine until_take 5 (some 59) (u := ?_) rfl rfl (by kernel_rfl) (by kernel_rfl) (by kernel_rfl) (by kernel_rfl) (fun _ _ _ h => h) (by rfl) (fun wS hv => ?_) hS ?_
                        rotate_left
                        · clear hv
                          go_simp
                          all_goals with_reducible rfl
                        try simp only [Act.put, List.setIfInBounds_toArray, List.set]
                        refine until_take 6 (some 60) (u := ?_) rfl rfl (by kernel_rfl) (by kernel_rfl) (by kernel_rfl) (by kernel_rfl) (fun _ _ _ h => h) (by rfl) (fun wS hv => ?_) hS ?_
                        rotate_left
                        · clear hv
                          go_simp
                          all_goals with_reducible rfl
                        try simp only [Act.put, List.setIfInBounds_toArray, List.set]
                        refine until_take 7 (some 61) (u := ?_) rfl rfl (by kernel_rfl) (by kernel_rfl) (by kernel_rfl) (by kernel_rfl) (fun _ _ _ h => h) (by rfl) (fun wS hv => ?_) hS ?_
                        rotate_left
                        · obtain k1 := hv
                          go_simp
                          all_goals with_reducible rfl
                        try simp only [Act.put, List.setIfInBounds_toArray, List.set]
                        refine until_take 8 (some 62) (u := ?_) rfl rfl (by kernel_rfl) (by kernel_rfl) (by kernel_rfl) (by kernel_rfl) (fun _ _ _ h => h) (by rfl) (fun wS hv => ?_) hS ?_
                        rotate_left
                        · clear hv
                          go_simp
                          all_goals with_reducible rfl
                        try simp only [Act.put, List.setIfInBounds_toArray, List.set]
                        refine until_one 4 (by kernel_rfl) rfl (fun K hK => ?_)
                        go_simp
                        refine (write_any _ g gm _ _ _ _ at_ S (HP3.out.1.drew 1) hok).mono ?_
                        rw [HWE.out]
                        rintro e5 w5 ⟨rfl, v5, hd5, t5⟩
                        have HD5 := Lib.hid hd5
                        have SB5 := Lib.hid ((HP3.out.1.drew 1).keep t5 (Blk.drew SB3.out) (by decide) (by decide))
                        have HR5 := Lib.hid (IsRef.beside HP3.out.2.1.drew (HP3.out.1.drew 1) t5 HP3.out.2.2.1)
                        have BL5 := Lib.hid (HP3.out.2.2.2.2.2.drew.trans ((HP3.out.1.drew 1).below t5 hWg (show w.heap.size ≤ w3.heap.size from HP3.out.2.2.2.2.2.size)))
                        clear hd5 t5
                        refine hK.out _ _ (SB5.out.cell 1) (fun hS => ?_)
                        clear hK K
                        try simp only [Act.put, List.setIfInBounds_toArray, List.set]
                        refine until_one 9 (by kernel_rfl) rfl (fun K hK => ?_)
                        go_simp
                        refine (refWrite_any _ rh sv _ B2 _ at_ S HR5.out.1 hok hn0 hn1 hS63).mono ?_
                        rw [HWE.out]
                        rintro e6 w6 ⟨rfl, rv6, hr6, t6⟩
                        have SB6 := Lib.hid (HR5.out.1.keep t6 SB5.out (by decide) (by decide) (by decide))
                        have HD6 := Lib.hid (IsDev.beside HD5.out HR5.out.1 t6 HR5.out.2)
                        have BL6 := Lib.hid (BL5.out.trans (HR5.out.1.below t6 hWB BL5.out.size))
                        have HR6 := Lib.hid hr6
                        clear hr6 t6
                        refine hK.out _ _ (SB6.out.cell 1) (fun hS => ?_)
                        clear hK K
                        try simp only [Act.put, List.setIfInBounds_toArray, List.set]
                        refine until_take 10 (some 64) (u := ?_) rfl rfl (by kernel_rfl) (by kernel_rfl) (by kernel_rfl) (by kernel_rfl) (fun _ _ _ h => h) (by rfl) (fun wS hv => ?_) hS ?_
                        rotate_left
                        · clear hv
                          go_simp
                          all_goals with_reducible rfl
                        try simp only [Act.put, List.setIfInBounds_toArray, List.set]
                        refine until_take 11 (some 10) (u := ?_) rfl rfl (by kernel_rfl) (by kernel_rfl) (by kernel_rfl) (by kernel_rfl) (fun _ _ _ h => h) (by rfl) (fun wS hv => ?_) hS ?_
                        rotate_left
                        · clear hv
                          go_simp
                          all_goals with_reducible rfl
                        try simp only [Act.put, List.setIfInBounds_toArray, List.set]
                        refine until_done (by kernel_rfl) ?_
                        go_wp2_with fail
                        exact meet_at hJ3 ⟨_, _, _, _, ⟨HD6.out.1, HR6.out, HD6.out.2, HP2.out.2.2.2.1.write hwf, by omega, BL6.out⟩, SB6.out, meet_us (by kernel_rfl)⟩
                      · go_wp2_with fail
                        obtain ⟨S, hS0⟩ : ∃ S, List.take 63 (secB byte) = S := ⟨_, rfl⟩
                        have hS63 : S.length ≤ 1000000 := by rw [← hS0, List.length_take]; omega
                        rw [hS0]
                        obtain ⟨er, her⟩ : ∃ er, writeE D at_ S = er := ⟨_, rfl⟩
                        have HWE := Lib.hid her
                        clear her hS0 x5
                        refine until_begin 12 (fun w' => w'.cell? ⟨gS, 1, none⟩ = some (.int .i64 at_)) (by kernel_rfl) (SB3.out.cell 1) (fun hS => ?_)
                        refine until_take 0 (some 54) (u := ?_) rfl rfl (by kernel_rfl) (by kernel_rfl) (by kernel_rfl) (by kernel_rfl) (fun _ _ _ h => h) (by rfl) (fun wS hv => ?_) hS ?_
                        rotate_left
                        · clear hv
                          go_simp
                          all_goals with_reducible rfl
                        try simp only [Act.put, List.setIfInBounds_toArray, List.set]
                        refine until_take 1 (some 55) (u := ?_) rfl rfl (by kernel_rfl) (by kernel_rfl) (by kernel_rfl) (by kernel_rfl) (fun _ _ _ h => h) (by rfl) (fun wS hv => ?_) hS ?_
                        rotate_left
                        · clear hv
                          go_simp
                          all_goals with_reducible rfl
                        try simp only [Act.put, List.setIfInBounds_toArray, List.set]
                        refine until_take 2 (some 56) (u := ?_) rfl rfl (by kernel_rfl) (by kernel_rfl) (by kernel_rfl) (by kernel_rfl) (fun _ _ _ h => h) (by rfl) (fun wS hv => ?_) hS ?_
                        rotate_left
                        · obtain k1 := hv
                          go_simp
                          all_goals with_reducible rfl
                        try simp only [Act.put, List.setIfInBounds_toArray, List.set]
                        refine until_take 3 (some 57) (u := ?_) rfl rfl (by kernel_rfl) (by kernel_rfl) (by kernel_rfl) (by kernel_rfl) (fun _ _ _ h => h) (by rfl) (fun wS hv => ?_) hS ?_
                        rotate_left
                        · clear hv
                          go_simp
                          all_goals with_reducible rfl
                        try simp only [Act.put, List.setIfInBounds_toArray, List.set]
                        refine until_take 5 (some 59) (u := ?_) rfl rfl (by kernel_rfl) (by kernel_rfl) (by kernel_rfl) (by kernel_rfl) (fun _ _ _ h => h) (by rfl) (fun wS hv => ?_) hS ?_
                        rotate_left
                        · clear hv
                          go_simp
                          all_goals with_reducible rfl
                        try simp only [Act.put, List.setIfInBounds_toArray, List.set]
                        refine until_take 6 (some 60) (u := ?_) rfl rfl (by kernel_rfl) (by kernel_rfl) (by kernel_rfl) (by kernel_rfl) (fun _ _ _ h => h) (by rfl) (fun wS hv => ?_) hS ?_
                        rotate_left
                        · clear hv
                          go_simp
                          all_goals with_reducible rfl
                        try simp only [Act.put, List.setIfInBounds_toArray, List.set]
                        refine until_take 7 (some 61) (u := ?_) rfl rfl (by kernel_rfl) (by kernel_rfl) (by kernel_rfl) (by kernel_rfl) (fun _ _ _ h => h) (by rfl) (fun wS hv => ?_) hS ?_
                        rotate_left
                        · obtain k1 := hv
                          go_simp
                          all_goals with_reducible rfl
                        try simp only [Act.put, List.setIfInBounds_toArray, List.set]
                        refine until_take 8 (some 62) (u := ?_) rfl rfl (by kernel_rfl) (by kernel_rfl) (by kernel_rfl) (by kernel_rfl) (fun _ _ _ h => h) (by rfl) (fun wS hv => ?_) hS ?_
                        rotate_left
                        · clear hv
                          go_simp
                          all_goals with_reducible rfl
                        try simp only [Act.put, List.setIfInBounds_toArray, List.set]
                        refine until_one 4 (by kernel_rfl) rfl (fun K hK => ?_)
                        go_simp
                        refine (write_any _ g gm _ _ _ _ at_ S (HP3.out.1.drew 1) hok).mono ?_
                        rw [HWE.out]
                        rintro e5 w5 ⟨rfl, v5, hd5, t5⟩
                        have HD5 := Lib.hid hd5
                        have SB5 := Lib.hid ((HP3.out.1.drew 1).keep t5 (Blk.drew SB3.out) (by decide) (by decide))
                        have HR5 := Lib.hid (IsRef.beside HP3.out.2.1.drew (HP3.out.1.drew 1) t5 HP3.out.2.2.1)
                        have BL5 := Lib.hid (HP3.out.2.2.2.2.2.drew.trans ((HP3.out.1.drew 1).below t5 hWg (show w.heap.size ≤ w3.heap.size from HP3.out.2.2.2.2.2.size)))
                        clear hd5 t5
                        refine hK.out _ _ (SB5.out.cell 1) (fun hS => ?_)
                        clear hK K
                        try simp only [Act.put, List.setIfInBounds_toArray, List.set]
                        refine until_one 9 (by kernel_rfl) rfl (fun K hK => ?_)
                        go_simp
                        refine (refWrite_any _ rh sv _ B2 _ at_ S HR5.out.1 hok hn0 hn1 hS63).mono ?_
                        rw [HWE.out]
                        rintro e6 w6 ⟨rfl, rv6, hr6, t6⟩
                        have SB6 := Lib.hid (HR5.out.1.keep t6 SB5.out (by decide) (by decide) (by decide))
                        have HD6 := Lib.hid (IsDev.beside HD5.out HR5.out.1 t6 HR5.out.2)
                        have BL6 := Lib.hid (BL5.out.trans (HR5.out.1.below t6 hWB BL5.out.size))
                        have HR6 := Lib.hid hr6
                        clear hr6 t6
                        refine hK.out _ _ (SB6.out.cell 1) (fun hS => ?_)
                        clear hK K
                        try simp only [Act.put, List.setIfInBounds_toArray, List.set]
                        refine until_take 10 (some 64) (u := ?_) rfl rfl (by kernel_rfl) (by kernel_rfl) (by kernel_rfl) (by kernel_rfl) (fun _ _ _ h => h) (by rfl) (fun wS hv => ?_) hS ?_
                        rotate_left
                        · clear hv
                          go_simp
                          all_goals with_reducible rfl
                        try simp only [Act.put, List.setIfInBounds_toArray, List.set]
                        refine until_take 11 (some 10) (u := ?_) rfl rfl (by kernel_rfl) (by kernel_rfl) (by kernel_rfl) (by kernel_rfl) (fun _ _ _ h => h) (by rfl) (fun wS hv => ?_) hS ?_
                        rotate_left
                        · clear hv
                          go_simp
                          all_goals with_reducible rfl
                        try simp only [Act.put, List.setIfInBounds_toArray, List.set]
                        refine until_done (by kernel_rfl) ?_
                        go_wp2_with fail
                        exact meet_at hJ3 ⟨_, _, _, _, ⟨HD6.out.1, HR6.out, HD6.out.2, HP2.out.2.2.2.1.write hwf, by omega, BL6.out⟩, SB6.out, meet_us (by kernel_rfl)⟩
            · rintro a4 w4 ⟨v4, rv4, cap4, D4, hp4, sb4, us4, rfl⟩
              unfold FrP
              have HP4 := Lib.hid hp4
              have SB4 := Lib.hid sb4
              have hwl : D4.waits.length < 5000000000000 := by have := hp4.2.2.2.1.2.2.2.2.2.1; omega
              have HNN := Lib.hid hp4.2.2.2.1.1
              clear hp4 sb4 HP2 SB2
              go_wp2_with fail
              refine until_begin 8 (fun w' => w'.cell? ⟨rh, 1, none⟩ = some rv4) (by kernel_rfl) (HP4.out.2.1.1.cell 1) (fun hS => ?_)
              refine until_take 0 (some 126) (u := ?_) rfl rfl (by kernel_rfl) (by kernel_rfl) (by kernel_rfl) (by kernel_rfl) (fun _ _ _ h => h) (by rfl) (fun wS hv => ?_) hS ?_
              rotate_left
              · clear hv
                go_simp
                all_goals with_reducible rfl
              try simp only [Act.put, List.setIfInBounds_toArray, List.set]
              refine until_take 2 (some 128) (u := ?_) rfl rfl (by kernel_rfl) (by kernel_rfl) (by kernel_rfl) (by kernel_rfl) (fun _ _ _ h => h) (by rfl) (fun wS hv => ?_) hS ?_
              rotate_left
              · clear hv
                go_simp
                all_goals with_reducible rfl
              try simp only [Act.put, List.setIfInBounds_toArray, List.set]
              refine until_take 3 (some 129) (u := ?_) rfl rfl (by kernel_rfl) (by kernel_rfl) (by kernel_rfl) (by kernel_rfl) (fun _ _ _ h => h) (by rfl) (fun wS hv => ?_) hS ?_
              rotate_left
              · clear hv
                go_simp
                all_goals with_reducible rfl
              try simp only [Act.put, List.setIfInBounds_toArray, List.set]
              refine until_take 4 (some 130) (u := ?_) rfl rfl (by kernel_rfl) (by kernel_rfl) (by kernel_rfl) (by kernel_rfl) (fun _ _ _ h => h) (by rfl) (fun wS hv => ?_) hS ?_
              rotate_left
              · clear hv
                go_simp
                all_goals with_reducible rfl
              try simp only [Act.put, List.setIfInBounds_toArray, List.set]
              refine until_take 5 (some 131) (u := ?_) rfl rfl (by kernel_rfl) (by kernel_rfl) (by kernel_rfl) (by kernel_rfl) (fun _ _ _ h => h) (by rfl) (fun wS hv => ?_) hS ?_
              rotate_left
              · obtain k1 := hv
                go_simp
                all_goals with_reducible rfl
              try simp only [Act.put, List.setIfInBounds_toArray, List.set]
              refine until_one 1 (by kernel_rfl) rfl (fun K hK => ?_)
              go_simp
              refine (waiting_any _ g gm _ _ _ _ (HP4.out.1.drew 1) hwl).mono ?_
              rintro e5 w5 ⟨vw, rfl, ho5, hb5⟩
              have HP5 := Lib.hid (HP4.out.drew.step hb5)
              have SB5 := Lib.hid (SB4.out.drew.step hb5)
              have HO5 := Lib.hid ho5
              clear ho5 hb5
              refine hK.out _ _ (HP5.out.2.1.1.cell 1) (fun hS => ?_)
              clear hK K
              try simp only [Act.put, List.setIfInBounds_toArray, List.set]
              refine until_one 6 (by kernel_rfl) rfl (fun K hK => ?_)
              go_simp
              refine (refSame_any _ _ _ _ _ _ HO5.out HP5.out.2.1.2.2.1).mono ?_
              rintro e6 w6 ⟨rfl, hb6⟩
              have HP6 := Lib.hid (HP5.out.step hb6)
              have SB6 := Lib.hid (SB5.out.step hb6)
              clear hb6
              refine hK.out _ _ (HP6.out.2.1.1.cell 1) (fun hS => ?_)
              clear hK K
              try simp only [Act.put, List.setIfInBounds_toArray, List.set]
              refine until_take 7 (some 16) (u := ?_) rfl rfl (by kernel_rfl) (by kernel_rfl) (by kernel_rfl) (by kernel_rfl) (fun _ _ _ h => h) (by rfl) (fun wS hv => ?_) hS ?_
              rotate_left
              · clear hv
                go_simp
                all_goals with_reducible rfl
              try simp only [Act.put, List.setIfInBounds_toArray, List.set]
              refine until_done (by kernel_rfl) ?_
              clear hS
              obtain ⟨on, hon⟩ : ∃ u, D4.on = u := ⟨_, rfl⟩
              obtain ⟨steps, hst⟩ : ∃ u, D4.steps = u := ⟨_, rfl⟩
              have HON := Lib.hid hon
              have HST := Lib.hid hst
              obtain ⟨d0, -, d2, -, -, d5⟩ := ref_cells HP6.out.2.1
              rw [hon] at d2
              rw [hst] at d5
              obtain ⟨gs, cs, hsv⟩ := HP6.out.2.1.2.1.some_of (by rw [safeL_length, HNN.out]; omega)
              obtain ⟨Ns, hNs⟩ : ∃ N, (safeL D4).length = N := ⟨_, rfl⟩
              rw [hNs] at hsv
              rw [safeL_length, HNN.out] at hNs
              have hNsi : (Ns : Int) = n := by omega
              obtain ⟨ps, hps⟩ : ∃ ps, some (⟨gs, 0, none⟩ : Addr) = ps := ⟨_, rfl⟩
              rw [hps] at hsv
              subst hsv
              subst hNsi
              clear hon hst hNs
              go_wp2_with fail
              refine until_begin 34 (fun w' => w'.cell? ⟨rh, 0, none⟩ = some (.slice ps Ns cs) ∧ w'.cell? ⟨rh, 2, none⟩ = some (.bool on) ∧ w'.cell? ⟨rh, 5, none⟩ = some (.int .i64 steps)) (by kernel_rfl) ⟨d0, d2, d5⟩ (fun hS => ?_)
              refine until_take 0 (some 133) (u := ?_) rfl rfl (by kernel_rfl) (by kernel_rfl) (by kernel_rfl) (by kernel_rfl) (fun _ _ _ h => h) (by rfl) (fun wS hv => ?_) hS ?_
              rotate_left
              · clear hv
                go_simp
                all_goals with_reducible rfl
              try simp only [Act.put, List.setIfInBounds_toArray, List.set]
              refine until_take 1 (some 134) (u := ?_) rfl rfl (by kernel_rfl) (by kernel_rfl) (by kernel_rfl) (by kernel_rfl) (fun _ _ _ h => h) (by rfl) (fun wS hv => ?_) hS ?_
              rotate_left
              · clear hv
                go_simp
                all_goals with_reducible rfl
              try simp only [Act.put, List.setIfInBounds_toArray, List.set]
              refine until_take 2 (some 135) (u := ?_) rfl rfl (by kernel_rfl) (by kernel_rfl) (by kernel_rfl) (by kernel_rfl) (fun _ _ _ h => h) (by rfl) (fun wS hv => ?_) hS ?_
              rotate_left
              · clear hv
                go_simp
                all_goals with_reducible rfl
              try simp only [Act.put, List.setIfInBounds_toArray, List.set]
              refine until_take 3 (some 136) (u := ?_) rfl rfl (by kernel_rfl) (by kernel_rfl) (by kernel_rfl) (by kernel_rfl) (fun _ _ _ h => h) (by rfl) (fun wS hv => ?_) hS ?_
              rotate_left
              · clear hv
                go_simp
                all_goals with_reducible rfl
              try simp only [Act.put, List.setIfInBounds_toArray, List.set]
              refine until_take 4 (some 137) (u := ?_) rfl rfl (by kernel_rfl) (by kernel_rfl) (by kernel_rfl) (by kernel_rfl) (fun _ _ _ h => h) (by rfl) (fun wS hv => ?_) hS ?_
              rotate_left
              · clear hv
                go_simp
                all_goals with_reducible rfl
              try simp only [Act.put, List.setIfInBounds_toArray, List.set]
              refine until_take 5 (some 138) (u := ?_) rfl rfl (by kernel_rfl) (by kernel_rfl) (by kernel_rfl) (by kernel_rfl) (fun _ _ _ h => h) (by rfl) (fun wS hv => ?_) hS ?_
              rotate_left
              · clear hv
                go_simp
                all_goals with_reducible rfl
              try simp only [Act.put, List.setIfInBounds_toArray, List.set]
              refine until_take 6 (some 139) (u := ?_) rfl rfl (by kernel_rfl) (by kernel_rfl) (by kernel_rfl) (by kernel_rfl) (fun _ _ _ h => h) (by rfl) (fun wS hv => ?_) hS ?_
              rotate_left
              · clear hv
                go_simp
                all_goals with_reducible rfl
              try simp only [Act.put, List.setIfInBounds_toArray, List.set]
              refine until_take 7 (some 140) (u := ?_) rfl rfl (by kernel_rfl) (by kernel_rfl) (by kernel_rfl) (by kernel_rfl) (fun _ _ _ h => h) (by rfl) (fun wS hv => ?_) hS ?_
              rotate_left
              · clear hv
                go_simp
                all_goals with_reducible rfl
              try simp only [Act.put, List.setIfInBounds_toArray, List.set]
              refine until_take 9 (some 142) (u := ?_) rfl rfl (by kernel_rfl) (by kernel_rfl) (by kernel_rfl) (by kernel_rfl) (fun _ _ _ h => h) (by rfl) (fun wS hv => ?_) hS ?_
              rotate_left
              · clear hv
                go_simp
                all_goals with_reducible rfl
              try simp only [Act.put, List.setIfInBounds_toArray, List.set]
              refine until_take 10 (some 143) (u := ?_) rfl rfl (by kernel_rfl) (by kernel_rfl) (by kernel_rfl) (by kernel_rfl) (fun _ _ _ h => h) (by rfl) (fun wS hv => ?_) hS ?_
              rotate_left
              · clear hv
                go_simp
                all_goals with_reducible rfl
              try simp only [Act.put, List.setIfInBounds_toArray, List.set]
              refine until_take 11 (some 144) (u := ?_) rfl rfl (by kernel_rfl) (by kernel_rfl) (by kernel_rfl) (by kernel_rfl) (fun _ _ _ h => h) (by rfl) (fun wS hv => ?_) hS ?_
              rotate_left
              · clear hv
                go_simp
                all_goals with_reducible rfl
              try simp only [Act.put, List.setIfInBounds_toArray, List.set]
              refine until_take 12 (some 145) (u := ?_) rfl rfl (by kernel_rfl) (by kernel_rfl) (by kernel_rfl) (by kernel_rfl) (fun _ _ _ h => h) (by rfl) (fun wS hv => ?_) hS ?_
              rotate_left
              · obtain ⟨k1, k2, k3⟩ := hv
                go_simp
                all_goals with_reducible rfl
              try simp only [Act.put, List.setIfInBounds_toArray, List.set]
              refine until_one 8 (by kernel_rfl) rfl (fun K hK => ?_)
              go_simp
              refine (on_any _ g gm _ _ _ _ (HP6.out.1.drew 1)).mono ?_
              rw [HON.out]
              rintro e7 w7 ⟨rfl, rfl⟩
              refine hK.out _ _ hS (fun hS => ?_)
              clear hK K
              try simp only [Act.put, List.setIfInBounds_toArray, List.set]
              refine until_take 13 (some 146) (u := ?_) rfl rfl (by kernel_rfl) (by kernel_rfl) (by kernel_rfl) (by kernel_rfl) (fun _ _ _ h => h) (by rfl) (fun wS hv => ?_) hS ?_
              rotate_left
              · clear hv
                go_simp
                all_goals with_reducible rfl
              try simp only [Act.put, List.setIfInBounds_toArray, List.set]
              refine until_take 14 (some 147) (u := ?_) rfl rfl (by kernel_rfl) (by kernel_rfl) (by kernel_rfl) (by kernel_rfl) (fun _ _ _ h => h) (by rfl) (fun wS hv => ?_) hS ?_
              rotate_left
              · clear hv
                go_simp
                all_goals with_reducible rfl
              try simp only [Act.put, List.setIfInBounds_toArray, List.set]
              refine until_take 15 (some 148) (u := ?_) rfl rfl (by kernel_rfl) (by kernel_rfl) (by kernel_rfl) (by kernel_rfl) (fun _ _ _ h => h) (by rfl) (fun wS hv => ?_) hS ?_
              rotate_left
              · clear hv
                go_simp
                all_goals with_reducible rfl
              try simp only [Act.put, List.setIfInBounds_toArray, List.set]
              refine until_take 16 (some 149) (u := ?_) rfl rfl (by kernel_rfl) (by kernel_rfl) (by kernel_rfl) (by kernel_rfl) (fun _ _ _ h => h) (by rfl) (fun wS hv => ?_) hS ?_
              rotate_left
              · clear hv
                go_simp
                all_goals with_reducible rfl
              try simp only [Act.put, List.setIfInBounds_toArray, List.set]
              refine until_take 18 (some 151) (u := ?_) rfl rfl (by kernel_rfl) (by kernel_rfl) (by kernel_rfl) (by kernel_rfl) (fun _ _ _ h => h) (by rfl) (fun wS hv => ?_) hS ?_
              rotate_left
              · clear hv
                go_simp
                all_goals with_reducible rfl
              try simp only [Act.put, List.setIfInBounds_toArray, List.set]
              refine until_take 19 (some 152) (u := ?_) rfl rfl (by kernel_rfl) (by kernel_rfl) (by kernel_rfl) (by kernel_rfl) (fun _ _ _ h => h) (by rfl) (fun wS hv => ?_) hS ?_
              rotate_left
              · clear hv
                go_simp
                all_goals with_reducible rfl
              try simp only [Act.put, List.setIfInBounds_toArray, List.set]
              refine until_take 20 (some 153) (u := ?_) rfl rfl (by kernel_rfl) (by kernel_rfl) (by kernel_rfl) (by kernel_rfl) (fun _ _ _ h => h) (by rfl) (fun wS hv => ?_) hS ?_
              rotate_left
              · clear hv
                go_simp
                all_goals with_reducible rfl
              try simp only [Act.put, List.setIfInBounds_toArray, List.set]
              refine until_take 21 (some 154) (u := ?_) rfl rfl (by kernel_rfl) (by kernel_rfl) (by kernel_rfl) (by kernel_rfl) (fun _ _ _ h => h) (by rfl) (fun wS hv => ?_) hS ?_
              rotate_left
              · obtain ⟨k1, k2, k3⟩ := hv
                go_simp
                all_goals with_reducible rfl
              try simp only [Act.put, List.setIfInBounds_toArray, List.set]
              refine until_one 17 (by kernel_rfl) rfl (fun K hK => ?_)
              go_simp
              refine (steps_any _ g gm _ _ _ _ (HP6.out.1.drew 1)).mono ?_
              rw [HST.out]
              rintro e7 w7 ⟨rfl, rfl⟩
              refine hK.out _ _ hS (fun hS => ?_)
              clear hK K
              try simp only [Act.put, List.setIfInBounds_toArray, List.set]
              refine until_take 22 (some 155) (u := ?_) rfl rfl (by kernel_rfl) (by kernel_rfl) (by kernel_rfl) (by kernel_rfl) (fun _ _ _ h => h) (by rfl) (fun wS hv => ?_) hS ?_
              rotate_left
              · clear hv
                go_simp
                all_goals with_reducible rfl
              try simp only [Act.put, List.setIfInBounds_toArray, List.set]
              refine until_take 23 (some 156) (u := ?_) rfl rfl (by kernel_rfl) (by kernel_rfl) (by kernel_rfl) (by kernel_rfl) (fun _ _ _ h => h) (by rfl) (fun wS hv => ?_) hS ?_
              rotate_left
              · clear hv
                go_simp
                all_goals with_reducible rfl
              try simp only [Act.put, List.setIfInBounds_toArray, List.set]
              refine until_take 24 (some 157) (u := ?_) rfl rfl (by kernel_rfl) (by kernel_rfl) (by kernel_rfl) (by kernel_rfl) (fun _ _ _ h => h) (by rfl) (fun wS hv => ?_) hS ?_
              rotate_left
              · clear hv
                go_simp
                all_goals with_reducible rfl
              try simp only [Act.put, List.setIfInBounds_toArray, List.set]
              refine until_take 25 (some 158) (u := ?_) rfl rfl (by kernel_rfl) (by kernel_rfl) (by kernel_rfl) (by kernel_rfl) (fun _ _ _ h => h) (by rfl) (fun wS hv => ?_) hS ?_
              rotate_left
              · clear hv
                go_simp
                all_goals with_reducible rfl
              try simp only [Act.put, List.setIfInBounds_toArray, List.set]
              refine until_take 27 (some 160) (u := ?_) rfl rfl (by kernel_rfl) (by kernel_rfl) (by kernel_rfl) (by kernel_rfl) (fun _ _ _ h => h) (by rfl) (fun wS hv => ?_) hS ?_
              rotate_left
              · clear hv
                go_simp
                all_goals with_reducible rfl
              try simp only [Act.put, List.setIfInBounds_toArray, List.set]
              refine until_take 28 (some 161) (u := ?_) rfl rfl (by kernel_rfl) (by kernel_rfl) (by kernel_rfl) (by kernel_rfl) (fun _ _ _ h => h) (by rfl) (fun wS hv => ?_) hS ?_
              rotate_left
              · clear hv
                go_simp
                all_goals with_reducible rfl
              try simp only [Act.put, List.setIfInBounds_toArray, List.set]
              refine until_take 29 (some 162) (u := ?_) rfl rfl (by kernel_rfl) (by kernel_rfl) (by kernel_rfl) (by kernel_rfl) (fun _ _ _ h => h) (by rfl) (fun wS hv => ?_) hS ?_
              rotate_left
              · clear hv
                go_simp
                all_goals with_reducible rfl
              try simp only [Act.put, List.setIfInBounds_toArray, List.set]
              refine until_take 30 (some 163) (u := ?_) rfl rfl (by kernel_rfl) (by kernel_rfl) (by kernel_rfl) (by kernel_rfl) (fun _ _ _ h => h) (by rfl) (fun wS hv => ?_) hS ?_
              rotate_left
              · obtain ⟨k1, k2, k3⟩ := hv
                go_simp
                all_goals with_reducible rfl
              try simp only [Act.put, List.setIfInBounds_toArray, List.set]
              refine until_take 31 (some 164) (u := ?_) rfl rfl (by kernel_rfl) (by kernel_rfl) (by kernel_rfl) (by kernel_rfl) (fun _ _ _ h => h) (by rfl) (fun wS hv => ?_) hS ?_
              rotate_left
              · clear hv
                go_simp
                all_goals with_reducible rfl
              try simp only [Act.put, List.setIfInBounds_toArray, List.set]
              refine until_one 26 (by kernel_rfl) rfl (fun K hK => ?_)
              go_simp
              refine (sectors_any _ g gm _ _ _ _ (HP6.out.1.drew 1)).mono ?_
              rw [HNN.out]
              rintro e7 w7 ⟨rfl, rfl⟩
              refine hK.out _ _ hS (fun hS => ?_)
              clear hK K
              try simp only [Act.put, List.setIfInBounds_toArray, List.set]
              refine until_take 32 (some 165) (u := ?_) rfl rfl (by kernel_rfl) (by kernel_rfl) (by kernel_rfl) (by kernel_rfl) (fun _ _ _ h => h) (by rfl) (fun wS hv => ?_) hS ?_
              rotate_left
              · clear hv
                go_simp
                all_goals with_reducible rfl
              try simp only [Act.put, List.setIfInBounds_toArray, List.set]
              refine until_take 33 (some 166) (u := ?_) rfl rfl (by kernel_rfl) (by kernel_rfl) (by kernel_rfl) (by kernel_rfl) (fun _ _ _ h => h) (by rfl) (fun wS hv => ?_) hS ?_
              rotate_left
              · clear hv
                go_simp
                all_goals with_reducible rfl
              try simp only [Act.put, List.setIfInBounds_toArray, List.set]
              refine until_done (by kernel_rfl) ?_
              clear hS
              go_wp2_with fail
              have HP7 := Lib.hid (HP6.out.step (w' := w6.drewN 1) (below_drewN w6 1))
              have SB7 := Lib.hid (SB6.out.step (w' := w6.drewN 1) (below_drewN w6 1))
              generalize w6.drewN 1 = w7 at HP7 SB7 ⊢
              clear d0
              obtain ⟨d0, -⟩ := ref_cells HP7.out.2.1
              have x1 : w7.cell? ⟨gS, 1, none⟩ = some (.int .i64 at_) := SB7.out.cell 1
              clear d2 d5 HP6 SB6 HP5 SB5 HO5 HP4 SB4
              by_cases h0 : 0 ≤ at_
              · by_cases hN : at_ < (Ns : Int)
                · obtain ⟨q, rfl⟩ := Int.eq_ofNat_of_zero_le h0
                  subst hps
                  have hqN : q < Ns := by omega
                  have hqNi : (q : Int) < (Ns : Int) := by omega
                  have hkl : q < (safeL D4).length := by rw [safeL_length, HNN.out]; omega
                  obtain ⟨Z, hZ⟩ : ∃ Z, safeD D4 (q : Int) = Z := ⟨_, rfl⟩
                  have y0 := (HP7.out.2.1.rowcell hkl).1
                  rw [hZ] at y0
                  have hqh : hasD D4.n (q : Int) = true := by rw [HNN.out]; simp [hasD]; omega
                  have HSS := Lib.hid (show (if hasD D4.n (q : Int) = true then safeD D4 (q : Int) else []) = Z by rw [hqh]; exact hZ)
                  have lgs : gs < w7.heap.size := World.block_lt_of_cell? w7 _ y0
                  have lgS := SB7.out.lt
                  clear hZ hqh hkl h0
                  go_wp2_with fail
                  refine until_begin 28 (fun w' => w'.cell? ⟨gS, 1, none⟩ = some (.int .i64 (q : Int)) ∧ w'.cell? ⟨rh, 0, none⟩ = some (.slice (some ⟨gs, 0, none⟩) Ns cs) ∧ w'.cell? ⟨gs, q, none⟩ = some (str Z)) (by kernel_rfl) ⟨x1, d0, y0⟩ (fun hS => ?_)
                  refine until_take 0 (some 167) (u := ?_) rfl rfl (by kernel_rfl) (by kernel_rfl) (by kernel_rfl) (by kernel_rfl) (fun _ _ _ h => h) (by rfl) (fun wS hv => ?_) hS ?_
                  rotate_left
                  · clear hv
                    go_simp
                    all_goals with_reducible rfl
                  try simp only [Act.put, List.setIfInBounds_toArray, List.set]
                  refine until_take 1 (some 168) (u := ?_) rfl rfl (by kernel_rfl) (by kernel_rfl) (by kernel_rfl) (by kernel_rfl) (fun _ _ _ h => h) (by rfl) (fun wS hv => ?_) hS ?_
                  rotate_left
                  · obtain ⟨k1, k2, k3⟩ := hv
                    go_simp
                    all_goals with_reducible rfl
                  try simp only [Act.put, List.setIfInBounds_toArray, List.set]
                  refine until_take 2 (some 169) (u := .bool true) rfl rfl (by kernel_rfl) (by kernel_rfl) (by kernel_rfl) (by kernel_rfl) (fun _ _ _ h => h) (by rfl) (fun wS hv => ?_) hS ?_
                  · clear hv
                    go_simp
                  try simp only [Act.put, List.setIfInBounds_toArray, List.set]
                  refine until_take 3 (some 170) (u := .bool true) rfl rfl (by kernel_rfl) (by kernel_rfl) (by kernel_rfl) (by kernel_rfl) (fun _ _ _ h => h) (by rfl) (fun wS hv => ?_) hS ?_
                  · clear hv
                    go_simp
                  try simp only [Act.put, List.setIfInBounds_toArray, List.set]
                  refine until_take 4 (some 171) (u := ?_) rfl rfl (by kernel_rfl) (by kernel_rfl) (by kernel_rfl) (by kernel_rfl) (fun _ _ _ h => h) (by rfl) (fun wS hv => ?_) hS ?_
                  rotate_left
                  · clear hv
                    go_simp
                    all_goals with_reducible rfl
                  try simp only [Act.put, List.setIfInBounds_toArray, List.set]
                  refine until_take 5 (some 172) (u := ?_) rfl rfl (by kernel_rfl) (by kernel_rfl) (by kernel_rfl) (by kernel_rfl) (fun _ _ _ h => h) (by rfl) (fun wS hv => ?_) hS ?_
                  rotate_left
                  · obtain ⟨k1, k2, k3⟩ := hv
                    go_simp
                    all_goals with_reducible rfl
                  try simp only [Act.put, List.setIfInBounds_toArray, List.set]
                  refine until_take 6 (some 173) (u := ?_) rfl rfl (by kernel_rfl) (by kernel_rfl) (by kernel_rfl) (by kernel_rfl) (fun _ _ _ h => h) (by rfl) (fun wS hv => ?_) hS ?_
                  rotate_left
                  · clear hv
                    go_simp
                    all_goals with_reducible rfl
                  try simp only [Act.put, List.setIfInBounds_toArray, List.set]
                  refine until_take 7 (some 174) (u := ?_) rfl rfl (by kernel_rfl) (by kernel_rfl) (by kernel_rfl) (by kernel_rfl) (fun _ _ _ h => h) (by rfl) (fun wS hv => ?_) hS ?_
                  rotate_left
                  · clear hv
                    go_simp
                    all_goals with_reducible rfl
                  try simp only [Act.put, List.setIfInBounds_toArray, List.set]
                  refine until_take 8 (some 175) (u := ?_) rfl rfl (by kernel_rfl) (by kernel_rfl) (by kernel_rfl) (by kernel_rfl) (fun _ _ _ h => h) (by rfl) (fun wS hv => ?_) hS ?_
                  rotate_left
                  · clear hv
                    go_simp
                    all_goals with_reducible rfl
                  try simp only [Act.put, List.setIfInBounds_toArray, List.set]
                  refine until_take 9 (some 176) (u := ?_) rfl rfl (by kernel_rfl) (by kernel_rfl) (by kernel_rfl) (by kernel_rfl) (fun _ _ _ h => h) (by rfl) (fun wS hv => ?_) hS ?_
                  rotate_left
                  · obtain ⟨k1, k2, k3⟩ := hv
                    go_simp
                    all_goals with_reducible rfl
                  try simp only [Act.put, List.setIfInBounds_toArray, List.set]
                  refine until_take 10 (some 177) (u := ?_) rfl rfl (by kernel_rfl) (by kernel_rfl) (by kernel_rfl) (by kernel_rfl) (fun _ _ _ h => h) (by rfl) (fun wS hv => ?_) hS ?_
                  rotate_left
                  · clear hv
                    go_simp
                    all_goals with_reducible rfl
                  try simp only [Act.put, List.setIfInBounds_toArray, List.set]
                  refine until_take 11 (some 178) (u := .bool true) rfl rfl (by kernel_rfl) (by kernel_rfl) (by kernel_rfl) (by kernel_rfl) (fun _ _ _ h => h) (by rfl) (fun wS hv => ?_) hS ?_
                  · clear hv
                    go_simp
                  try simp only [Act.put, List.setIfInBounds_toArray, List.set]
                  refine until_take 12 (some 179) (u := .bool true) rfl rfl (by kernel_rfl) (by kernel_rfl) (by kernel_rfl) (by kernel_rfl) (fun _ _ _ h => h) (by rfl) (fun wS hv => ?_) hS ?_
                  · clear hv
                    go_simp
                  try simp only [Act.put, List.setIfInBounds_toArray, List.set]
                  refine until_take 13 (some 180) (u := .bool true) rfl rfl (by kernel_rfl) (by kernel_rfl) (by kernel_rfl) (by kernel_rfl) (fun _ _ _ h => h) (by rfl) (fun wS hv => ?_) hS ?_
                  · clear hv
                    go_simp
                  try simp only [Act.put, List.setIfInBounds_toArray, List.set]
                  refine until_take 14 (some 181) (u := ?_) rfl rfl (by kernel_rfl) (by kernel_rfl) (by kernel_rfl) (by kernel_rfl) (fun _ _ _ h => h) (by rfl) (fun wS hv => ?_) hS ?_
                  rotate_left
                  · clear hv
                    go_simp
                    all_goals with_reducible rfl
                  try simp only [Act.put, List.setIfInBounds_toArray, List.set]
                  refine until_take 15 (some 182) (u := ?_) rfl rfl (by kernel_rfl) (by kernel_rfl) (by kernel_rfl) (by kernel_rfl) (fun _ _ _ h => h) (by rfl) (fun wS hv => ?_) hS ?_
                  rotate_left
                  · clear hv
                    go_simp
                    all_goals with_reducible rfl
                  try simp only [Act.put, List.setIfInBounds_toArray, List.set]
                  refine until_take 16 (some 183) (u := ?_) rfl rfl (by kernel_rfl) (by kernel_rfl) (by kernel_rfl) (by kernel_rfl) (fun _ _ _ h => h) (by rfl) (fun wS hv => ?_) hS ?_
                  rotate_left
                  · obtain ⟨k1, k2, k3⟩ := hv
                    go_simp
                    all_goals with_reducible rfl
                  try simp only [Act.put, List.setIfInBounds_toArray, List.set]
                  refine until_take 18 (some 185) (u := ?_) rfl rfl (by kernel_rfl) (by kernel_rfl) (by kernel_rfl) (by kernel_rfl) (fun _ _ _ h => h) (by rfl) (fun wS hv => ?_) hS ?_
                  rotate_left
                  · clear hv
                    go_simp
                    all_goals with_reducible rfl
                  try simp only [Act.put, List.setIfInBounds_toArray, List.set]
                  refine until_take 19 (some 186) (u := ?_) rfl rfl (by kernel_rfl) (by kernel_rfl) (by kernel_rfl) (by kernel_rfl) (fun _ _ _ h => h) (by rfl) (fun wS hv => ?_) hS ?_
                  rotate_left
                  · clear hv
                    go_simp
                    all_goals with_reducible rfl
                  try simp only [Act.put, List.setIfInBounds_toArray, List.set]
                  refine until_take 20 (some 187) (u := ?_) rfl rfl (by kernel_rfl) (by kernel_rfl) (by kernel_rfl) (by kernel_rfl) (fun _ _ _ h => h) (by rfl) (fun wS hv => ?_) hS ?_
                  rotate_left
                  · clear hv
                    go_simp
                    all_goals with_reducible rfl
                  try simp only [Act.put, List.setIfInBounds_toArray, List.set]
                  refine until_take 21 (some 188) (u := ?_) rfl rfl (by kernel_rfl) (by kernel_rfl) (by kernel_rfl) (by kernel_rfl) (fun _ _ _ h => h) (by rfl) (fun wS hv => ?_) hS ?_
                  rotate_left
                  · obtain ⟨k1, k2, k3⟩ := hv
                    go_simp
                    all_goals with_reducible rfl
                  try simp only [Act.put, List.setIfInBounds_toArray, List.set]
                  refine until_take 22 (some 189) (u := ?_) rfl rfl (by kernel_rfl) (by kernel_rfl) (by kernel_rfl) (by kernel_rfl) (fun _ _ _ h => h) (by rfl) (fun wS hv => ?_) hS ?_
                  rotate_left
                  · clear hv
                    go_simp
                    all_goals with_reducible rfl
                  try simp only [Act.put, List.setIfInBounds_toArray, List.set]
                  refine until_take 23 (some 190) (u := ?_) rfl rfl (by kernel_rfl) (by kernel_rfl) (by kernel_rfl) (by kernel_rfl) (fun _ _ _ h => h) (by rfl) (fun wS hv => ?_) hS ?_
                  rotate_left
                  · obtain ⟨k1, k2, k3⟩ := hv
                    go_simp
                    all_goals with_reducible rfl
                  try simp only [Act.put, List.setIfInBounds_toArray, List.set]
                  refine until_take 24 (some 191) (u := ?_) rfl rfl (by kernel_rfl) (by kernel_rfl) (by kernel_rfl) (by kernel_rfl) (fun _ _ _ h => h) (by rfl) (fun wS hv => ?_) hS ?_
                  rotate_left
                  · clear hv
                    go_simp
                    all_goals with_reducible rfl
                  try simp only [Act.put, List.setIfInBounds_toArray, List.set]
                  refine until_take 25 (some 192) (u := ?_) rfl rfl (by kernel_rfl) (by kernel_rfl) (by kernel_rfl) (by kernel_rfl) (fun _ _ _ h => h) (by rfl) (fun wS hv => ?_) hS ?_
                  rotate_left
                  · obtain ⟨k1, k2, k3⟩ := hv
                    go_simp
                    all_goals with_reducible rfl
                  try simp only [Act.put, List.setIfInBounds_toArray, List.set]
                  refine until_one 17 (by kernel_rfl) rfl (fun K hK => ?_)
                  go_simp
                  refine (safe_any _ g gm _ _ _ _ (q : Int) (HP7.out.1.drew 1) hwf).mono ?_
                  rw [HSS.out]
                  rintro e8 w8 ⟨rfl, hb8⟩
                  have HP8 := Lib.hid (HP7.out.drew.step hb8)
                  have y8 := (hb8.cell (p := ⟨gs, q, none⟩) (show gs < w7.heap.size from lgs)).trans y0
                  have x8 := (hb8.cell (p := ⟨gS, 1, none⟩) (show gS < w7.heap.size from lgS)).trans x1
                  clear hb8
                  refine hK.out _ _ ⟨x8, HP8.out.2.1.1.cell 0, y8⟩ (fun hS => ?_)
                  clear hK K
                  try simp only [Act.put, List.setIfInBounds_toArray, List.set]
                  refine until_take 26 (some 193) (u := ?_) rfl rfl (by kernel_rfl) (by kernel_rfl) (by kernel_rfl) (by kernel_rfl) (fun _ _ _ h => h) (by rfl) (fun wS hv => ?_) hS ?_
                  rotate_left
                  · clear hv
                    go_simp
                    all_goals with_reducible rfl
                  try simp only [Act.put, List.setIfInBounds_toArray, List.set]
                  refine until_take 27 (some 194) (u := ?_) rfl rfl (by kernel_rfl) (by kernel_rfl) (by kernel_rfl) (by kernel_rfl) (fun _ _ _ h => h) (by rfl) (fun wS hv => ?_) hS ?_
                  rotate_left
                  · clear hv
                    go_simp
                    all_goals with_reducible rfl
                  try simp only [Act.put, List.setIfInBounds_toArray, List.set]
                  refine until_done (by kernel_rfl) ?_
                  clear hS
                  go_wp2_with fail
                  refine Handed.intro (gk - 1) (by omega) (hJ2 _ _ _ ⟨j + 1, _, _, _, _, by omega, by omega, HP8.out, meet_us (by kernel_rfl)⟩)
                · have hN' : ¬ at_ < (Ns : Int) := hN
                  go_wp2_with fail
                  refine until_begin 28 (fun w' => w'.cell? ⟨gS, 1, none⟩ = some (.int .i64 at_) ∧ w'.cell? ⟨rh, 0, none⟩ = some (.slice ps Ns cs)) (by kernel_rfl) ⟨x1, d0⟩ (fun hS => ?_)
                  refine until_take 0 (some 167) (u := ?_) rfl rfl (by kernel_rfl) (by kernel_rfl) (by kernel_rfl) (by kernel_rfl) (fun _ _ _ h => h) (by rfl) (fun wS hv => ?_) hS ?_
                  rotate_left
                  · clear hv
                    go_simp
                    all_goals with_reducible rfl
                  try simp only [Act.put, List.setIfInBounds_toArray, List.set]
                  refine until_take 1 (some 168) (u := ?_) rfl rfl (by kernel_rfl) (by kernel_rfl) (by kernel_rfl) (by kernel_rfl) (fun _ _ _ h => h) (by rfl) (fun wS hv => ?_) hS ?_
                  rotate_left
                  · obtain ⟨k1, k2⟩ := hv
                    go_simp
                    all_goals with_reducible rfl
                  try simp only [Act.put, List.setIfInBounds_toArray, List.set]
                  refine until_take 2 (some 169) (u := .bool true) rfl rfl (by kernel_rfl) (by kernel_rfl) (by kernel_rfl) (by kernel_rfl) (fun _ _ _ h => h) (by rfl) (fun wS hv => ?_) hS ?_
                  · clear hv
                    go_simp
                  try simp only [Act.put, List.setIfInBounds_toArray, List.set]
                  refine until_take 3 (some 170) (u := .bool true) rfl rfl (by kernel_rfl) (by kernel_rfl) (by kernel_rfl) (by kernel_rfl) (fun _ _ _ h => h) (by rfl) (fun wS hv => ?_) hS ?_
                  · clear hv
                    go_simp
                  try simp only [Act.put, List.setIfInBounds_toArray, List.set]
                  refine until_take 4 (some 171) (u := ?_) rfl rfl (by kernel_rfl) (by kernel_rfl) (by kernel_rfl) (by kernel_rfl) (fun _ _ _ h => h) (by rfl) (fun wS hv => ?_) hS ?_
                  rotate_left
                  · clear hv
                    go_simp
                    all_goals with_reducible rfl
                  try simp only [Act.put, List.setIfInBounds_toArray, List.set]
                  refine until_take 5 (some 172) (u := ?_) rfl rfl (by kernel_rfl) (by kernel_rfl) (by kernel_rfl) (by kernel_rfl) (fun _ _ _ h => h) (by rfl) (fun wS hv => ?_) hS ?_
                  rotate_left
                  · obtain ⟨k1, k2⟩ := hv
                    go_simp
                    all_goals with_reducible rfl
                  try simp only [Act.put, List.setIfInBounds_toArray, List.set]
                  refine until_take 6 (some 173) (u := ?_) rfl rfl (by kernel_rfl) (by kernel_rfl) (by kernel_rfl) (by kernel_rfl) (fun _ _ _ h => h) (by rfl) (fun wS hv => ?_) hS ?_
                  rotate_left
                  · clear hv
                    go_simp
                    all_goals with_reducible rfl
                  try simp only [Act.put, List.setIfInBounds_toArray, List.set]
                  refine until_take 7 (some 174) (u := ?_) rfl rfl (by kernel_rfl) (by kernel_rfl) (by kernel_rfl) (by kernel_rfl) (fun _ _ _ h => h) (by rfl) (fun wS hv => ?_) hS ?_
                  rotate_left
                  · clear hv
                    go_simp
                    all_goals with_reducible rfl
                  try simp only [Act.put, List.setIfInBounds_toArray, List.set]
                  refine until_take 8 (some 175) (u := ?_) rfl rfl (by kernel_rfl) (by kernel_rfl) (by kernel_rfl) (by kernel_rfl) (fun _ _ _ h => h) (by rfl) (fun wS hv => ?_) hS ?_
                  rotate_left
                  · clear hv
                    go_simp
                    all_goals with_reducible rfl
                  try simp only [Act.put, List.setIfInBounds_toArray, List.set]
                  refine until_take 9 (some 176) (u := ?_) rfl rfl (by kernel_rfl) (by kernel_rfl) (by kernel_rfl) (by kernel_rfl) (fun _ _ _ h => h) (by rfl) (fun wS hv => ?_) hS ?_
                  rotate_left
                  · obtain ⟨k1, k2⟩ := hv
                    go_simp
                    all_goals with_reducible rfl
                  try simp only [Act.put, List.setIfInBounds_toArray, List.set]
                  refine until_take 10 (some 177) (u := ?_) rfl rfl (by kernel_rfl) (by kernel_rfl) (by kernel_rfl) (by kernel_rfl) (fun _ _ _ h => h) (by rfl) (fun wS hv => ?_) hS ?_
                  rotate_left
                  · clear hv
                    go_simp
                    all_goals with_reducible rfl
                  try simp only [Act.put, List.setIfInBounds_toArray, List.set]
                  refine until_take 11 (some 178) (u := .bool false) rfl rfl (by kernel_rfl) (by kernel_rfl) (by kernel_rfl) (by kernel_rfl) (fun _ _ _ h => h) (by rfl) (fun wS hv => ?_) hS ?_
                  · clear hv
                    go_simp
                  try simp only [Act.put, List.setIfInBounds_toArray, List.set]
                  refine until_take 12 (some 179) (u := .bool false) rfl rfl (by kernel_rfl) (by kernel_rfl) (by kernel_rfl) (by kernel_rfl) (fun _ _ _ h => h) (by rfl) (fun wS hv => ?_) hS ?_
                  · clear hv
                    go_simp
                  try simp only [Act.put, List.setIfInBounds_toArray, List.set]
                  refine until_take 13 (some 180) (u := .bool false) rfl rfl (by kernel_rfl) (by kernel_rfl) (by kernel_rfl) (by kernel_rfl) (fun _ _ _ h => h) (by rfl) (fun wS hv => ?_) hS ?_
                  · clear hv
                    go_simp
                  try simp only [Act.put, List.setIfInBounds_toArray, List.set]
                  refine until_skip 14 (some 181) rfl rfl (by kernel_rfl) (by kernel_rfl) (by kernel_rfl) (by kernel_rfl) (fun _ _ _ h => h) (by rfl) hS ?_
                  try simp only [Act.put, List.setIfInBounds_toArray, List.set]
                  refine until_skip 15 (some 182) rfl rfl (by kernel_rfl) (by kernel_rfl) (by kernel_rfl) (by kernel_rfl) (fun _ _ _ h => h) (by rfl) hS ?_
                  try simp only [Act.put, List.setIfInBounds_toArray, List.set]
                  refine until_skip 16 (some 183) rfl rfl (by kernel_rfl) (by kernel_rfl) (by kernel_rfl) (by kernel_rfl) (fun _ _ _ h => h) (by rfl) hS ?_
                  try simp only [Act.put, List.setIfInBounds_toArray, List.set]
                  refine until_skip 17 (some 184) rfl rfl (by kernel_rfl) (by kernel_rfl) (by kernel_rfl) (by kernel_rfl) (fun _ _ _ h => h) (by rfl) hS ?_
                  try simp only [Act.put, List.setIfInBounds_toArray, List.set]
                  refine until_skip 18 (some 185) rfl rfl (by kernel_rfl) (by kernel_rfl) (by kernel_rfl) (by kernel_rfl) (fun _ _ _ h => h) (by rfl) hS ?_
                  try simp only [Act.put, List.setIfInBounds_toArray, List.set]
                  refine until_skip 19 (some 186) rfl rfl (by kernel_rfl) (by kernel_rfl) (by kernel_rfl) (by kernel_rfl) (fun _ _ _ h => h) (by rfl) hS ?_
                  try simp only [Act.put, List.setIfInBounds_toArray, List.set]
                  refine until_skip 20 (some 187) rfl rfl (by kernel_rfl) (by kernel_rfl) (by kernel_rfl) (by kernel_rfl) (fun _ _ _ h => h) (by rfl) hS ?_
                  try simp only [Act.put, List.setIfInBounds_toArray, List.set]
                  refine until_skip 21 (some 188) rfl rfl (by kernel_rfl) (by kernel_rfl) (by kernel_rfl) (by kernel_rfl) (fun _ _ _ h => h) (by rfl) hS ?_
                  try simp only [Act.put, List.setIfInBounds_toArray, List.set]
                  refine until_skip 22 (some 189) rfl rfl (by kernel_rfl) (by kernel_rfl) (by kernel_rfl) (by kernel_rfl) (fun _ _ _ h => h) (by rfl) hS ?_
                  try simp only [Act.put, List.setIfInBounds_toArray, List.set]
                  refine until_skip 23 (some 190) rfl rfl (by kernel_rfl) (by kernel_rfl) (by kernel_rfl) (by kernel_rfl) (fun _ _ _ h => h) (by rfl) hS ?_
                  try simp only [Act.put, List.setIfInBounds_toArray, List.set]
                  refine until_skip 24 (some 191) rfl rfl (by kernel_rfl) (by kernel_rfl) (by kernel_rfl) (by kernel_rfl) (fun _ _ _ h => h) (by rfl) hS ?_
                  try simp only [Act.put, List.setIfInBounds_toArray, List.set]
                  refine until_skip 25 (some 192) rfl rfl (by kernel_rfl) (by kernel_rfl) (by kernel_rfl) (by kernel_rfl) (fun _ _ _ h => h) (by rfl) hS ?_
                  try simp only [Act.put, List.setIfInBounds_toArray, List.set]
                  refine until_skip 26 (some 193) rfl rfl (by kernel_rfl) (by kernel_rfl) (by kernel_rfl) (by kernel_rfl) (fun _ _ _ h => h) (by rfl) hS ?_
                  try simp only [Act.put, List.setIfInBounds_toArray, List.set]
                  refine until_take 27 (some 194) (u := ?_) rfl rfl (by kernel_rfl) (by kernel_rfl) (by kernel_rfl) (by kernel_rfl) (fun _ _ _ h => h) (by rfl) (fun wS hv => ?_) hS ?_
                  rotate_left
                  · clear hv
                    go_simp
                    all_goals with_reducible rfl
                  try simp only [Act.put, List.setIfInBounds_toArray, List.set]
                  refine until_done (by kernel_rfl) ?_
                  clear hS
                  go_wp2_with fail
                  refine Handed.intro (gk - 1) (by omega) (hJ2 _ _ _ ⟨j + 1, _, _, _, _, by omega, by omega, HP7.out.drew, meet_us (by kernel_rfl)⟩)
              · have h0' : ¬ 0 ≤ at_ := h0
                go_wp2_with fail
                refine until_begin 28 (fun w' => w'.cell? ⟨gS, 1, none⟩ = some (.int .i64 at_) ∧ w'.cell? ⟨rh, 0, none⟩ = some (.slice ps Ns cs)) (by kernel_rfl) ⟨x1, d0⟩ (fun hS => ?_)
                refine until_take 0 (some 167) (u := ?_) rfl rfl (by kernel_rfl) (by kernel_rfl) (by kernel_rfl) (by kernel_rfl) (fun _ _ _ h => h) (by rfl) (fun wS hv => ?_) hS ?_
                rotate_left
                · clear hv
                  go_simp
                  all_goals with_reducible rfl
                try simp only [Act.put, List.setIfInBounds_toArray, List.set]
                refine until_take 1 (some 168) (u := ?_) rfl rfl (by kernel_rfl) (by kernel_rfl) (by kernel_rfl) (by kernel_rfl) (fun _ _ _ h => h) (by rfl) (fun wS hv => ?_) hS ?_
                rotate_left
                · obtain ⟨k1, k2⟩ := hv
                  go_simp
                  all_goals with_reducible rfl
                try simp only [Act.put, List.setIfInBounds_toArray, List.set]
                refine until_take 2 (some 169) (u := .bool false) rfl rfl (by kernel_rfl) (by kernel_rfl) (by kernel_rfl) (by kernel_rfl) (fun _ _ _ h => h) (by rfl) (fun wS hv => ?_) hS ?_
                · clear hv
                  go_simp
                try simp only [Act.put, List.setIfInBounds_toArray, List.set]
                refine until_take 3 (some 170) (u := .bool false) rfl rfl (by kernel_rfl) (by kernel_rfl) (by kernel_rfl) (by kernel_rfl) (fun _ _ _ h => h) (by rfl) (fun wS hv => ?_) hS ?_
                · clear hv
                  go_simp
                try simp only [Act.put, List.setIfInBounds_toArray, List.set]
                refine until_skip 4 (some 171) rfl rfl (by kernel_rfl) (by kernel_rfl) (by kernel_rfl) (by kernel_rfl) (fun _ _ _ h => h) (by rfl) hS ?_
                try simp only [Act.put, List.setIfInBounds_toArray, List.set]
                refine until_skip 5 (some 172) rfl rfl (by kernel_rfl) (by kernel_rfl) (by kernel_rfl) (by kernel_rfl) (fun _ _ _ h => h) (by rfl) hS ?_
                try simp only [Act.put, List.setIfInBounds_toArray, List.set]
                refine until_skip 6 (some 173) rfl rfl (by kernel_rfl) (by kernel_rfl) (by kernel_rfl) (by kernel_rfl) (fun _ _ _ h => h) (by rfl) hS ?_
                try simp only [Act.put, List.setIfInBounds_toArray, List.set]
                refine until_skip 7 (some 174) rfl rfl (by kernel_rfl) (by kernel_rfl) (by kernel_rfl) (by kernel_rfl) (fun _ _ _ h => h) (by rfl) hS ?_
                try simp only [Act.put, List.setIfInBounds_toArray, List.set]
                refine until_skip 8 (some 175) rfl rfl (by kernel_rfl) (by kernel_rfl) (by kernel_rfl) (by kernel_rfl) (fun _ _ _ h => h) (by rfl) hS ?_
                try simp only [Act.put, List.setIfInBounds_toArray, List.set]
                refine until_skip 9 (some 176) rfl rfl (by kernel_rfl) (by kernel_rfl) (by kernel_rfl) (by kernel_rfl) (fun _ _ _ h => h) (by rfl) hS ?_
                try simp only [Act.put, List.setIfInBounds_toArray, List.set]
                refine until_skip 10 (some 177) rfl rfl (by kernel_rfl) (by kernel_rfl) (by kernel_rfl) (by kernel_rfl) (fun _ _ _ h => h) (by rfl) hS ?_
                try simp only [Act.put, List.setIfInBounds_toArray, List.set]
                refine until_skip 11 (some 178) rfl rfl (by kernel_rfl) (by kernel_rfl) (by kernel_rfl) (by kernel_rfl) (fun _ _ _ h => h) (by rfl) hS ?_
                try simp only [Act.put, List.setIfInBounds_toArray, List.set]
                refine until_take 12 (some 179) (u := .bool false) rfl rfl (by kernel_rfl) (by kernel_rfl) (by kernel_rfl) (by kernel_rfl) (fun _ _ _ h => h) (by rfl) (fun wS hv => ?_) hS ?_
                · clear hv
                  go_simp
                try simp only [Act.put, List.setIfInBounds_toArray, List.set]
                refine until_take 13 (some 180) (u := .bool false) rfl rfl (by kernel_rfl) (by kernel_rfl) (by kernel_rfl) (by kernel_rfl) (fun _ _ _ h => h) (by rfl) (fun wS hv => ?_) hS ?_
                · clear hv
                  go_simp
                try simp only [Act.put, List.setIfInBounds_toArray, List.set]
                refine until_skip 14 (some 181) rfl rfl (by kernel_rfl) (by kernel_rfl) (by kernel_rfl) (by kernel_rfl) (fun _ _ _ h => h) (by rfl) hS ?_
                try simp only [Act.put, List.setIfInBounds_toArray, List.set]
                refine until_skip 15 (some 182) rfl rfl (by kernel_rfl) (by kernel_rfl) (by kernel_rfl) (by kernel_rfl) (fun _ _ _ h => h) (by rfl) hS ?_
                try simp only [Act.put, List.setIfInBounds_toArray, List.set]
                refine until_skip 16 (some 183) rfl rfl (by kernel_rfl) (by kernel_rfl) (by kernel_rfl) (by kernel_rfl) (fun _ _ _ h => h) (by rfl) hS ?_
                try simp only [Act.put, List.setIfInBounds_toArray, List.set]
                refine until_skip 17 (some 184) rfl rfl (by kernel_rfl) (by kernel_rfl) (by kernel_rfl) (by kernel_rfl) (fun _ _ _ h => h) (by rfl) hS ?_
                try simp only [Act.put, List.setIfInBounds_toArray, List.set]
                refine until_skip 18 (some 185) rfl rfl (by kernel_rfl) (by kernel_rfl) (by kernel_rfl) (by kernel_rfl) (fun _ _ _ h => h) (by rfl) hS ?_
                try simp only [Act.put, List.setIfInBounds_toArray, List.set]
                refine until_skip 19 (some 186) rfl rfl (by kernel_rfl) (by kernel_rfl) (by kernel_rfl) (by kernel_rfl) (fun _ _ _ h => h) (by rfl) hS ?_
                try simp only [Act.put, List.setIfInBounds_toArray, List.set]
                refine until_skip 20 (some 187) rfl rfl (by kernel_rfl) (by kernel_rfl) (by kernel_rfl) (by kernel_rfl) (fun _ _ _ h => h) (by rfl) hS ?_
                try simp only [Act.put, List.setIfInBounds_toArray, List.set]
                refine until_skip 21 (some 188) rfl rfl (by kernel_rfl) (by kernel_rfl) (by kernel_rfl) (by kernel_rfl) (fun _ _ _ h => h) (by rfl) hS ?_
                try simp only [Act.put, List.setIfInBounds_toArray, List.set]
                refine until_skip 22 (some 189) rfl rfl (by kernel_rfl) (by kernel_rfl) (by kernel_rfl) (by kernel_rfl) (fun _ _ _ h => h) (by rfl) hS ?_
                try simp only [Act.put, List.setIfInBounds_toArray, List.set]
                refine until_skip 23 (some 190) rfl rfl (by kernel_rfl) (by kernel_rfl) (by kernel_rfl) (by kernel_rfl) (fun _ _ _ h => h) (by rfl) hS ?_
                try simp only [Act.put, List.setIfInBounds_toArray, List.set]
                refine until_skip 24 (some 191) rfl rfl (by kernel_rfl) (by kernel_rfl) (by kernel_rfl) (by kernel_rfl) (fun _ _ _ h => h) (by rfl) hS ?_
                try simp only [Act.put, List.setIfInBounds_toArray, List.set]
                refine until_skip 25 (some 192) rfl rfl (by kernel_rfl) (by kernel_rfl) (by kernel_rfl) (by kernel_rfl) (fun _ _ _ h => h) (by rfl) hS ?_
                try simp only [Act.put, List.setIfInBounds_toArray, List.set]
                refine until_skip 26 (some 193) rfl rfl (by kernel_rfl) (by kernel_rfl) (by kernel_rfl) (by kernel_rfl) (fun _ _ _ h => h) (by rfl) hS ?_
                try simp only [Act.put, List.setIfInBounds_toArray, List.set]
                refine until_take 27 (some 194) (u := ?_) rfl rfl (by kernel_rfl) (by kernel_rfl) (by kernel_rfl) (by kernel_rfl) (fun _ _ _ h => h) (by rfl) (fun wS hv => ?_) hS ?_
                rotate_left
                · clear hv
                  go_simp
                  all_goals with_reducible rfl
                try simp only [Act.put, List.setIfInBounds_toArray, List.set]
                refine until_done (by kernel_rfl) ?_
                clear hS
                go_wp2_with fail
                refine Handed.intro (gk - 1) (by omega) (hJ2 _ _ _ ⟨j + 1, _, _, _, _, by omega, by omega, HP7.out.drew, meet_us (by kernel_rfl)⟩)
          · have i2 : ¬ (j : Int) < 50 := by omega
            go_wp2_with fail
            exact meet_at hJ1 ⟨HP.out.2.2.2.2.2, meet_us (by kernel_rfl)⟩
        · have i1 : ¬ (j : Int) < (m : Int) := by omega
          go_wp2_with fail
          exact meet_at hJ1 ⟨HP.out.2.2.2.2.2, meet_us (by kernel_rfl)⟩
    · rintro a1 w3 ⟨hb, us, rfl⟩
      unfold FrP
      have HB := Lib.hid hb
      clear hb
      go_wp2_with fail
      go_ret
      exact ⟨rfl, HB.out⟩
  · go_enter Try.func7, Try.ntmps7
    go_wp2_with fail
    refine (awake06_any _).mono ?_
    rintro e w0 ⟨rfl, hb0⟩
    go_wp2_with fail
    refine (new_bad _ n hn).mono ?_
    rintro e w1 ⟨rfl, rfl⟩
    go_wp2_with fail
    refine (refNew_bad _ n hn).mono ?_
    rintro e w2 ⟨rfl, rfl⟩
    go_wp2_with fail
    go_ret
    exact ⟨rfl, hb0⟩
end Go.Proofs.Ytiighehibiijcaa

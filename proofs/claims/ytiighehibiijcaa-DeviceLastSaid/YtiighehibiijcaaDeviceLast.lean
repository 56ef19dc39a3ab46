/-
  The walk of DeviceLast: it returns true for any writes. No conditions beside those in each theorem.
-/
import Derived.Test.YtiighehibiijcaaDevPlain
import Derived.Test.YtiighehibiijcaaOpenRows
import Derived.Test.YtiighehibiijcaaMasks
import Derived.Deep.RegionHeld3
namespace Go.Proofs.Ytiighehibiijcaa
open Go.RowKit
set_option linter.unusedSimpArgs false
set_option linter.unnecessarySimpa false
set_option linter.unusedVariables false

theorem u8_and2 (c : UInt8) : bits .and .u8 (c.toNat : Int) 3 = ((c.toNat % 4 : Nat) : Int) := by
  have hc := c.toNat_lt
  generalize c.toNat = n at *
  have h127 : (BitVec.ofInt 8 3).toNat = 2 ^ 2 - 1 := by decide
  have key : (BitVec.ofInt 8 (n : Int) &&& BitVec.ofInt 8 3).toNat = ((n : Int) % ((2 ^ 8 : Nat) : Int)).toNat % 2 ^ 2 := by
    rw [BitVec.toNat_and, BitVec.toNat_ofInt, h127, Nat.and_two_pow_sub_one_eq_mod]
  show IntKind.u8.wrap ((BitVec.ofInt 8 (n : Int) &&& BitVec.ofInt 8 3).toNat : Nat) = _
  rw [key]
  have h : ((n : Int) % ((2 ^ 8 : Nat) : Int)).toNat % 2 ^ 2 = n % 4 := by omega
  rw [h]
  show IntKind.u8.wrap _ = _
  have := IntKind.wrap_u8 ((n % 4 : Nat) : Int)
  omega
/-- Four bytes in a block. -/
abbrev four (W : Nat → UInt8) : Array Value := #[.int .u8 (W 0).toNat, .int .u8 (W 1).toNat, .int .u8 (W 2).toNat, .int .u8 (W 3).toNat]
def updF (W : Nat → UInt8) (q : Nat) (c : UInt8) : Nat → UInt8 := fun i => if i = q then c else W i
theorem four_set (W : Nat → UInt8) {q : Nat} (hq : q < 4) (c : UInt8) : (four W).setIfInBounds q (.int .u8 c.toNat) = four (updF W q c) := by
  have : q = 0 ∨ q = 1 ∨ q = 2 ∨ q = 3 := by omega
  rcases this with rfl | rfl | rfl | rfl <;> rfl
theorem four_get (W : Nat → UInt8) {q : Nat} (hq : q < 4) : (four W)[q]? = some (.int .u8 (W q).toNat) := by
  have : q = 0 ∨ q = 1 ∨ q = 2 ∨ q = 3 := by omega
  rcases this with rfl | rfl | rfl | rfl <;> rfl
theorem IsDev.setAny {w : World} {g gm x : Nat} {v : Value} {cap B : Nat} {d : Dev} {t : TypeId} {cs : Array Value} (hd : IsDev w g gm v cap B d) (hx : Blk w x t cs) (h1 : t ≠ 60) (h2 : t ≠ 91) (i : Nat) (u : Value) : IsDev (w.setCell ⟨x, i, none⟩ u) g gm v cap B d :=
  ⟨hd.1.far (blk_ne hd.1 hx (Ne.symm h1)) u, hd.2.1.kept (upd_set w x i u) (by simpa using fun e => (hd.2.1.ne hx) e.symm), hd.2.2.1.grown (upd_set w x i u) (.inr (hd.2.2.1.ne hx h2)), hd.2.2.2.1, hd.2.2.2.2⟩
/-- What the tail of the law keeps while it reads. -/
def LastS (w' w1 : World) (g gm : Nat) (v : Value) (cap : Nat) (d : Dev) (gw : Nat) (W S : Nat → UInt8) (q : Nat) (a b : UInt8) : Prop :=
  w'.cell? ⟨gw, q, none⟩ = some (.int .u8 a.toNat) ∧ w'.cell? ⟨gw + 1, q, none⟩ = some (.int .u8 b.toNat) ∧ Hid (IsDev w' g gm v cap gm d ∧ Blk w' gw 26 (four W) ∧ Blk w' (gw + 1) 26 (four S) ∧ Touch g gm w1 (.slice none 0 0) w' v)
theorem LastS.step {w w' w1 : World} {g gm : Nat} {v : Value} {cap : Nat} {d : Dev} {gw : Nat} {W S : Nat → UInt8} {q : Nat} {a b : UInt8} (hb : Below w.heap.size w w') (h : LastS w w1 g gm v cap d gw W S q a b) : LastS w' w1 g gm v cap d gw W S q a b := by
  obtain ⟨h1, h2, h3⟩ := h
  obtain ⟨k1, k2, k3, k4⟩ := h3.out
  exact ⟨(hb.cell (p := ⟨gw, q, none⟩) k2.lt).trans h1, (hb.cell (p := ⟨gw + 1, q, none⟩) k3.lt).trans h2, Lib.hid ⟨k1.step hb, k2.step hb, k3.step hb, k4.trans (Touch.of_below hb)⟩⟩
theorem LastS.drew {w w1 : World} {g gm : Nat} {v : Value} {cap : Nat} {d : Dev} {gw : Nat} {W S : Nat → UInt8} {q : Nat} {a b : UInt8} (h : LastS w w1 g gm v cap d gw W S q a b) : LastS w.drew w1 g gm v cap d gw W S q a b := by
  obtain ⟨h1, h2, h3⟩ := h
  obtain ⟨k1, k2, k3, k4⟩ := h3.out
  exact ⟨h1, h2, Lib.hid ⟨k1, k2, k3, k4.drew⟩⟩
theorem Touch.far_cell {g gm : Nat} {w w2 : World} {v v2 : Value} (h : Touch g gm w v w2 v2) {x : Nat} (hx : w.heap.size ≤ x) (i : Nat) (u : Value) : Touch g gm w v (w2.setCell ⟨x, i, none⟩ u) v2 := h.setNew hx i u

set_option maxRecDepth 100000 in
set_option maxHeartbeats 8000000 in
theorem deviceLast_walk (v : Value) (fl : Int) (w : World) (n : Nat) (K C : Nat → UInt8) (hL : ReadB2 w v n K C) :
    Calls Try.prog 3 #[v, .int .i64 fl] w fun e w' => e = .returned (.bool true) ∧ Below w.heap.size w w' := by
  obtain ⟨p, c, rfl, hmax, hcell⟩ := hL
  obtain ⟨k, hk⟩ : ∃ k : Nat, fl % 32 = k := ⟨(fl % 32).toNat, by omega⟩
  have ek := i64_and5 fl
  rw [hk] at ek
  clear hk
  go_enter Try.func3, Try.ntmps3
  go_wp2_with fail
  refine (awake06_any _).mono ?_
  rintro e w0 ⟨rfl, hb0⟩
  have z0 := hb0.size
  go_wp2_with fail
  refine (new_any _ 4 (by omega) (by omega)).mono ?_
  rintro e w1 ⟨rfl, hd1, hb1⟩
  obtain ⟨g, hg⟩ : ∃ g, w0.heap.size + 1 = g := ⟨_, rfl⟩
  obtain ⟨gm, hgm⟩ : ∃ gm, w0.heap.size = gm := ⟨_, rfl⟩
  rw [hg, hgm] at hd1
  rw [hg]
  have z1 := hb1.size
  rw [hgm] at z0 z1
  have HD1 := Lib.hid hd1
  have B1 := Lib.hid hb1
  have HGM := Lib.hid hgm
  clear hd1 hg hgm hb1
  go_wp2_with fail
  obtain ⟨gw, hgw⟩ : ∃ gw, w1.heap.size = gw := ⟨_, rfl⟩
  have hb2 : Below w1.heap.size w1 ((w1.alloc (.cells (four fun _ => 0) 26)).alloc (.cells (four fun _ => 0) 26)) := ((Below.refl _ _).alloc (Nat.le_refl _) _).alloc (by simp) _
  have X1 := Lib.hid ((Blk.new w1 26 (four fun _ => 0)).alloc (.cells (four fun _ => 0) 26))
  have Y1 := Lib.hid (Blk.new_at (w := w1.alloc (.cells (four fun _ => 0) 26)) (n := w1.heap.size + 1) (by simp) 26 (four fun _ => 0))
  have HD2 := Lib.hid (HD1.out.step hb2)
  have T2 := Lib.hid (Touch.of_below (g := g) (gm := gm) (v := .slice none 0 0) hb2)
  rw [hgw] at X1 Y1
  rw [hgw]
  have HGW := Lib.hid hgw
  clear hb2 hgw
  go_loopw [9] (fun i wr => ∃ (j : Nat) (v : Value) (cap : Nat) (d : Dev) (W S : Nat → UInt8), j ≤ n ∧ j ≤ 20 ∧ i = .int .i64 j ∧ cap ≤ j * 40 ∧ IsDev wr g gm v cap gm d ∧ OnD 4 (2 * j) j d ∧ Touch g gm w1 (.slice none 0 0) wr v ∧
      Blk wr gw 26 (four W) ∧ Blk wr (gw + 1) 26 (four S) ∧ (∀ q : Nat, q < 4 → readD d q = secB (W q)) ∧ ∀ q : Nat, q < 4 → safeD d q = secB (S q)) (fun i _ => n - (intOf i).toNat)
  case atStart => exact ⟨0, _, 0, newD 4, fun _ => 0, fun _ => 0, Nat.zero_le _, Nat.zero_le _, rfl, by omega, HD2.out, OnD.new 4, T2.out, X1.out, Y1.out, fun _ _ => rfl, fun _ _ => rfl⟩
  case round =>
    obtain ⟨j, v, cap, d, W, S, hj, hj20, rfl, hcap, hd, ho, ht, hx, hy, hr, hs⟩ := hrel
    by_cases hlt : j < n ∧ j < 20
    · obtain ⟨h1, h2⟩ := hlt
      have h2i : (j : Int) < 20 := by omega
      have h1i : (j : Int) < (n : Int) := by omega
      obtain ⟨b, o, rfl, hbw, hcl⟩ := hcell (by omega)
      have hB := (hb0.trans (B1.out.mono (by have := HGM.out; omega))).trans (HD1.out.below ht z0 (by omega))
      have k1 := (hB.cell (p := ⟨b, o + j * 2, none⟩) hbw).trans (hcl j h1).1
      have k2 := (hB.cell (p := ⟨b, o + j * 2 + 1, none⟩) hbw).trans (hcl j h1).2
      have hand := u8_and2 (K j)
      obtain ⟨q, hq⟩ : ∃ q, (K j).toNat % 4 = q := ⟨_, rfl⟩
      rw [hq] at hand
      have hq4 : q < 4 := by omega
      have hqh : hasD 4 (q : Int) = true := by simp [hasD]; omega
      have hqw : (Lit.int .i64 (q : Int)).wf = true := by
        rw [← wrap_small (q : Int) (by omega) (by omega)]
        exact wf_wrap _ _
      have hqi := IntWalk.i64_in (q : Int) (by omega)
      have hok := ho.ok (by omega) (by omega)
      have hwe := ho.writeE (s := secB (C j)) hqh (secB_length _)
      obtain ⟨ho2, hr2, hs2⟩ := ho.write (s := secB (C j)) hqh hqw (secB_length _)
      have HD := Lib.hid hd
      have HO := Lib.hid ho2
      have HT := Lib.hid ht
      have HX := Lib.hid hx
      have HY := Lib.hid hy
      have HWE := Lib.hid hwe
      have HR := Lib.hid hr
      have HS := Lib.hid hs
      have HR2 := Lib.hid hr2
      have HS2 := Lib.hid hs2
      have HB := Lib.hid hB
      clear hd ho ho2 ht hx hy hwe hr hs hr2 hs2 hB hcl hcell hq hqh hqw hmax
      go_wp2_with fail
      refine (sector_any (C j) _).mono ?_
      rintro e w2 ⟨rfl, hb2⟩
      have HD2 := Lib.hid (HD.out.step hb2)
      have T2 := Lib.hid (HT.out.trans (Touch.of_below (v := v) hb2))
      have X2 := Lib.hid (HX.out.step hb2)
      have Y2 := Lib.hid (HY.out.step hb2)
      go_wp2_with fail
      refine (write_any _ g gm _ _ _ _ (q : Int) (secB (C j)) HD2.out hok).mono ?_
      rw [HWE.out]
      rintro e w3 ⟨rfl, v3, hd3, t3⟩
      have X3 := Lib.hid (HD2.out.keep t3 X2.out (by decide) (by decide))
      have Y3 := Lib.hid (HD2.out.keep t3 Y2.out (by decide) (by decide))
      have T3 := Lib.hid (T2.out.trans t3)
      have HD3 := Lib.hid hd3
      have hB3 := (hb0.trans (B1.out.mono (by have := HGM.out; omega))).trans (HD1.out.below T3.out z0 (by omega))
      have k3 := (hB3.cell (p := ⟨b, o + j * 2 + 1, none⟩) hbw).trans ((HB.out.cell (p := ⟨b, o + j * 2 + 1, none⟩) hbw).symm.trans k2)
      have x3 : w3.cell? ⟨gw, q, none⟩ = some (.int .u8 (W q).toNat) := (X3.out.cell q).trans (four_get W hq4)
      have f3 := X3.out.frozen q
      have qi : (q : Int) < 4 := by omega
      have HD4 := Lib.hid (HD3.out.setAny X3.out (by decide) (by decide) q (.int .u8 (C j).toNat))
      have T4 := Lib.hid (T3.out.setNew (x := gw) (Nat.le_of_eq HGW.out) q (.int .u8 (C j).toNat))
      have X4 := Lib.hid (X3.out.set_ q (.int .u8 (C j).toNat))
      rw [four_set W hq4] at X4
      have Y4 := Lib.hid (Y3.out.far (p := ⟨gw, q, none⟩) (by simp) (.int .u8 (C j).toNat))
      have hrw : ∀ q' : Nat, q' < 4 → readD (writeR d (q : Int) (secB (C j))) q' = secB (updF W q (C j) q') := by
        intro q' hq'
        rw [HR2.out]
        unfold updF
        by_cases e : q' = q
        · subst e; simp
        · rw [if_neg (by omega), if_neg e]; exact HR.out q' hq'
      have hsw : ∀ q' : Nat, q' < 4 → safeD (writeR d (q : Int) (secB (C j))) q' = secB (S q') := fun q' hq' => by rw [HS2.out]; exact HS.out q' hq'
      have HRW := Lib.hid hrw
      have HSW := Lib.hid hsw
      clear hd3 t3 k1 k2 hB3 hrw hsw
      by_cases hjk : j = k
      · have hjki : (j : Int) = (k : Int) := by omega
        rw [← hjki] at ek
        clear hjk hjki
        go_wp2_with fail
        generalize w3.setCell ⟨gw, q, none⟩ (.int .u8 (C j).toNat) = w4 at *
        have hok2 := HO.out.ok (by omega) (by omega)
        have hfe := HO.out.flushE
        obtain ⟨ho5, hr5, hs5, -⟩ := HO.out.flush
        have HFE := Lib.hid hfe
        have HO5 := Lib.hid ho5
        have HR5 := Lib.hid hr5
        have HS5 := Lib.hid hs5
        have hwl := HO.out.2.2.2.2.2.2.1
        clear ho5 hfe hr5 hs5
        refine (flush_any _ g gm _ _ _ _ HD4.out hok2 HO.out.2.2.2.2.2.2.2.1.weak (by omega)).mono ?_
        rw [HFE.out]
        rintro e w5 ⟨rfl, v5, cap5, hc5, hd5, t5⟩
        have HD5 := Lib.hid hd5
        have T5 := Lib.hid (T4.out.trans t5)
        have X5 := Lib.hid (HD4.out.keep t5 X4.out (by decide) (by decide))
        have Y5 := Lib.hid (HD4.out.keep t5 Y4.out (by decide) (by decide))
        have x50 := X5.out.cell 0
        have x51 := X5.out.cell 1
        have x52 := X5.out.cell 2
        have x53 := X5.out.cell 3
        have y50 := Y5.out.cell 0
        have y51 := Y5.out.cell 1
        have y52 := Y5.out.cell 2
        have y53 := Y5.out.cell 3
        have z50 := Y5.out.frozen 0
        have z51 := Y5.out.frozen 1
        have z52 := Y5.out.frozen 2
        have z53 := Y5.out.frozen 3
        clear hd5 t5 x3 f3 hok2
        go_wp2_with fail
        have hgx : w1.heap.size ≤ gw + 1 := by have := HGW.out; omega
        have HD6 := Lib.hid ((((HD5.out.setAny Y5.out (by decide) (by decide) 0 (.int .u8 (updF W q (C j) 0).toNat)).setAny (Y5.out.set_ 0 _) (by decide) (by decide) 1 (.int .u8 (updF W q (C j) 1).toNat)).setAny ((Y5.out.set_ 0 _).set_ 1 _) (by decide) (by decide) 2 (.int .u8 (updF W q (C j) 2).toNat)).setAny (((Y5.out.set_ 0 _).set_ 1 _).set_ 2 _) (by decide) (by decide) 3 (.int .u8 (updF W q (C j) 3).toNat))
        have T6 := Lib.hid ((((T5.out.setNew hgx 0 (.int .u8 (updF W q (C j) 0).toNat)).setNew hgx 1 (.int .u8 (updF W q (C j) 1).toNat)).setNew hgx 2 (.int .u8 (updF W q (C j) 2).toNat)).setNew hgx 3 (.int .u8 (updF W q (C j) 3).toNat))
        have X6 := Lib.hid ((((X5.out.far (p := ⟨gw + 1, 0, none⟩) (by simp) (.int .u8 (updF W q (C j) 0).toNat)).far (p := ⟨gw + 1, 1, none⟩) (by simp) (.int .u8 (updF W q (C j) 1).toNat)).far (p := ⟨gw + 1, 2, none⟩) (by simp) (.int .u8 (updF W q (C j) 2).toNat)).far (p := ⟨gw + 1, 3, none⟩) (by simp) (.int .u8 (updF W q (C j) 3).toNat))
        have Y6 := Lib.hid ((((Y5.out.set_ 0 (.int .u8 (updF W q (C j) 0).toNat)).set_ 1 (.int .u8 (updF W q (C j) 1).toNat)).set_ 2 (.int .u8 (updF W q (C j) 2).toNat)).set_ 3 (.int .u8 (updF W q (C j) 3).toNat))
        generalize (((w5.setCell ⟨gw + 1, 0, none⟩ (.int .u8 (updF W q (C j) 0).toNat)).setCell ⟨gw + 1, 1, none⟩ (.int .u8 (updF W q (C j) 1).toNat)).setCell ⟨gw + 1, 2, none⟩ (.int .u8 (updF W q (C j) 2).toNat)).setCell ⟨gw + 1, 3, none⟩ (.int .u8 (updF W q (C j) 3).toNat) = w6 at *
        clear x50 x51 x52 x53 y50 y51 y52 y53 z50 z51 z52 z53
        go_roundw
        case rel => exact ⟨j + 1, v5, cap5, _, updF W q (C j), updF W q (C j), by omega, by omega, by go_num, by omega, HD6.out, HO5.out.weak (by omega) (by omega), T6.out, X6.out, Y6.out, fun q' hq' => (HR5.out _).trans (HRW.out q' hq'), fun q' hq' => (HS5.out _).trans (HRW.out q' hq')⟩
        case measure => simp [intOf]; omega
      · have hjki : ¬ (j : Int) = (k : Int) := by omega
        go_wp2_with fail
        generalize w3.setCell ⟨gw, q, none⟩ (.int .u8 (C j).toNat) = w4 at *
        go_roundw
        case rel => exact ⟨j + 1, v3, cap, _, updF W q (C j), S, by omega, by omega, by go_num, by omega, HD4.out, HO.out.weak (by omega) (by omega), T4.out, X4.out, Y4.out, HRW.out, HSW.out⟩
        case measure => simp [intOf]; omega
    · have HD := Lib.hid hd
      have HT := Lib.hid ht
      have HX := Lib.hid hx
      have HY := Lib.hid hy
      have HR := Lib.hid hr
      have HS := Lib.hid hs
      have HO := Lib.hid ho
      clear hd ht hx hy hr hs ho hcell hmax
      by_cases h1 : j < n
      · have h1i : (j : Int) < (n : Int) := by omega
        obtain rfl : j = 20 := by omega
        go_wp2_with fail
        go_loopw [11] (fun i w' => ∃ q : Nat, q ≤ 4 ∧ i = .int .i64 q ∧ IsDev w' g gm v cap gm d ∧ Blk w' gw 26 (four W) ∧ Blk w' (gw + 1) 26 (four S) ∧ Touch g gm w1 (.slice none 0 0) w' v) (fun i _ => 4 - (intOf i).toNat)
        case atStart => exact ⟨0, Nat.zero_le _, rfl, HD.out, HX.out, HY.out, HT.out⟩
        case round =>
          obtain ⟨q, hq, rfl, hd2, hx2, hy2, ht2⟩ := hrel
          by_cases hq4 : q < 4
          · have qi : (q : Int) < 4 := by omega
            have hqh : hasD 4 (q : Int) = true := by simp [hasD]; omega
            have hqw : (Lit.int .i64 (q : Int)).wf = true := by
              rw [← wrap_small (q : Int) (by omega) (by omega)]
              exact wf_wrap _ _
            have hre := (HO.out.read hqh).1
            have hrs := (HO.out.read hqh).2.trans (HR.out q hq4)
            have hss : (if hasD d.n (q : Int) = true then safeD d (q : Int) else []) = secB (S q) := by rw [HO.out.1, hqh]; exact HS.out q hq4
            have hwl : d.waits.length < 4611686018427 := by have := HO.out.2.2.2.2.2.2.1; omega
            have x2 : wr.cell? ⟨gw, q, none⟩ = some (.int .u8 (W q).toNat) := (hx2.cell q).trans (four_get W hq4)
            have y2 : wr.cell? ⟨gw + 1, q, none⟩ = some (.int .u8 (S q).toNat) := (hy2.cell q).trans (four_get S hq4)
            obtain ⟨a, ha⟩ : ∃ a, W q = a := ⟨_, rfl⟩
            obtain ⟨b, hb⟩ : ∃ b, S q = b := ⟨_, rfl⟩
            rw [ha] at x2 hrs
            rw [hb] at y2 hss
            have HD2 := Lib.hid hd2
            have HX2 := Lib.hid hx2
            have HY2 := Lib.hid hy2
            have HT2 := Lib.hid ht2
            have HRE := Lib.hid hre
            have HRS := Lib.hid hrs
            have HSS := Lib.hid hss
            clear hd2 hx2 hy2 ht2 hre hrs hss ha hb hqh
            go_wp2_with fail
            refine (read_any _ g gm _ _ _ _ (q : Int) HD2.out hqw hwl).mono ?_
            rw [HRS.out, HRE.out]
            rintro e w3 ⟨rfl, hb3⟩
            have S3 : LastS w3 w1 g gm v cap d gw W S q a b := LastS.step hb3 ⟨x2, y2, Lib.hid ⟨HD2.out, HX2.out, HY2.out, HT2.out⟩⟩
            clear x2 y2 HD2 HX2 HY2 HT2
            obtain ⟨x2, y2, -⟩ := id S3
            have q3 : ∀ w' : World, LastS w' w1 g gm v cap d gw W S q a b → IsDev w' g gm v cap gm d := fun w' h => h.2.2.out.1
            go_wp2_with fail
            go_region_held3 (fun w' => w'.cell? ⟨gw, q, none⟩ = some (.int .u8 a.toNat) ∧ w'.cell? ⟨gw + 1, q, none⟩ = some (.int .u8 b.toNat) ∧ Hid (IsDev w' g gm v cap gm d ∧ Blk w' gw 26 (four W) ∧ Blk w' (gw + 1) 26 (four S) ∧ Touch g gm w1 (.slice none 0 0) w' v))
              (first | assumption | exact LastS.step hb4 ‹_› | exact LastS.step hb5 ‹_› | exact LastS.step hb6 ‹_› | exact S3.drew)
              (first | (go_at_call_of 18 (Value.int .u8 a.toNat); refine (sector_any a _).mono ?_; rintro e w4 ⟨rfl, hb4⟩) | (go_at_call_of 18 (Value.int .u8 b.toNat); refine (sector_any b _).mono ?_; rintro e w5 ⟨rfl, hb5⟩) | (go_at_call 21; refine (safe_any _ g gm v cap gm d (q : Int) (q3 _ ‹_›) hqw).mono ?_; rw [HSS.out]; rintro e w6 ⟨rfl, hb6⟩))
            all_goals
              obtain ⟨-, -, hR⟩ := ‹_ ∧ _ ∧ Hid (IsDev _ _ _ _ _ _ _ ∧ _)›
              obtain ⟨hd5, hx5, hy5, ht5⟩ := hR.out
              have HD5 := Lib.hid hd5
              have HX5 := Lib.hid hx5
              have HY5 := Lib.hid hy5
              have HT5 := Lib.hid ht5
              clear hd5 hx5 hy5 ht5 hR
              go_wp2_with fail
              go_roundw
              case rel => exact ⟨q + 1, by omega, by go_num, HD5.out, HX5.out, HY5.out, HT5.out⟩
              case measure => simp [intOf]; omega
          · obtain rfl : q = 4 := by omega
            go_wp2_with fail
            go_ret
            exact ⟨rfl, (hb0.trans (B1.out.mono (by have := HGM.out; omega))).trans (HD1.out.below ht2 z0 (by omega))⟩
      · have h1i : ¬ (j : Int) < (n : Int) := by omega
        go_wp2_with fail
        go_loopw [11] (fun i w' => ∃ q : Nat, q ≤ 4 ∧ i = .int .i64 q ∧ IsDev w' g gm v cap gm d ∧ Blk w' gw 26 (four W) ∧ Blk w' (gw + 1) 26 (four S) ∧ Touch g gm w1 (.slice none 0 0) w' v) (fun i _ => 4 - (intOf i).toNat)
        case atStart => exact ⟨0, Nat.zero_le _, rfl, HD.out, HX.out, HY.out, HT.out⟩
        case round =>
          obtain ⟨q, hq, rfl, hd2, hx2, hy2, ht2⟩ := hrel
          by_cases hq4 : q < 4
          · have qi : (q : Int) < 4 := by omega
            have hqh : hasD 4 (q : Int) = true := by simp [hasD]; omega
            have hqw : (Lit.int .i64 (q : Int)).wf = true := by
              rw [← wrap_small (q : Int) (by omega) (by omega)]
              exact wf_wrap _ _
            have hre := (HO.out.read hqh).1
            have hrs := (HO.out.read hqh).2.trans (HR.out q hq4)
            have hss : (if hasD d.n (q : Int) = true then safeD d (q : Int) else []) = secB (S q) := by rw [HO.out.1, hqh]; exact HS.out q hq4
            have hwl : d.waits.length < 4611686018427 := by have := HO.out.2.2.2.2.2.2.1; omega
            have x2 : wr.cell? ⟨gw, q, none⟩ = some (.int .u8 (W q).toNat) := (hx2.cell q).trans (four_get W hq4)
            have y2 : wr.cell? ⟨gw + 1, q, none⟩ = some (.int .u8 (S q).toNat) := (hy2.cell q).trans (four_get S hq4)
            obtain ⟨a, ha⟩ : ∃ a, W q = a := ⟨_, rfl⟩
            obtain ⟨b, hb⟩ : ∃ b, S q = b := ⟨_, rfl⟩
            rw [ha] at x2 hrs
            rw [hb] at y2 hss
            have HD2 := Lib.hid hd2
            have HX2 := Lib.hid hx2
            have HY2 := Lib.hid hy2
            have HT2 := Lib.hid ht2
            have HRE := Lib.hid hre
            have HRS := Lib.hid hrs
            have HSS := Lib.hid hss
            clear hd2 hx2 hy2 ht2 hre hrs hss ha hb hqh
            go_wp2_with fail
            refine (read_any _ g gm _ _ _ _ (q : Int) HD2.out hqw hwl).mono ?_
            rw [HRS.out, HRE.out]
            rintro e w3 ⟨rfl, hb3⟩
            have S3 : LastS w3 w1 g gm v cap d gw W S q a b := LastS.step hb3 ⟨x2, y2, Lib.hid ⟨HD2.out, HX2.out, HY2.out, HT2.out⟩⟩
            clear x2 y2 HD2 HX2 HY2 HT2
            obtain ⟨x2, y2, -⟩ := id S3
            have q3 : ∀ w' : World, LastS w' w1 g gm v cap d gw W S q a b → IsDev w' g gm v cap gm d := fun w' h => h.2.2.out.1
            go_wp2_with fail
            go_region_held3 (fun w' => w'.cell? ⟨gw, q, none⟩ = some (.int .u8 a.toNat) ∧ w'.cell? ⟨gw + 1, q, none⟩ = some (.int .u8 b.toNat) ∧ Hid (IsDev w' g gm v cap gm d ∧ Blk w' gw 26 (four W) ∧ Blk w' (gw + 1) 26 (four S) ∧ Touch g gm w1 (.slice none 0 0) w' v))
              (first | assumption | exact LastS.step hb4 ‹_› | exact LastS.step hb5 ‹_› | exact LastS.step hb6 ‹_› | exact S3.drew)
              (first | (go_at_call_of 18 (Value.int .u8 a.toNat); refine (sector_any a _).mono ?_; rintro e w4 ⟨rfl, hb4⟩) | (go_at_call_of 18 (Value.int .u8 b.toNat); refine (sector_any b _).mono ?_; rintro e w5 ⟨rfl, hb5⟩) | (go_at_call 21; refine (safe_any _ g gm v cap gm d (q : Int) (q3 _ ‹_›) hqw).mono ?_; rw [HSS.out]; rintro e w6 ⟨rfl, hb6⟩))
            all_goals
              obtain ⟨-, -, hR⟩ := ‹_ ∧ _ ∧ Hid (IsDev _ _ _ _ _ _ _ ∧ _)›
              obtain ⟨hd5, hx5, hy5, ht5⟩ := hR.out
              have HD5 := Lib.hid hd5
              have HX5 := Lib.hid hx5
              have HY5 := Lib.hid hy5
              have HT5 := Lib.hid ht5
              clear hd5 hx5 hy5 ht5 hR
              go_wp2_with fail
              go_roundw
              case rel => exact ⟨q + 1, by omega, by go_num, HD5.out, HX5.out, HY5.out, HT5.out⟩
              case measure => simp [intOf]; omega
          · obtain rfl : q = 4 := by omega
            go_wp2_with fail
            go_ret
            exact ⟨rfl, (hb0.trans (B1.out.mono (by have := HGM.out; omega))).trans (HD1.out.below ht2 z0 (by omega))⟩
end Go.Proofs.Ytiighehibiijcaa

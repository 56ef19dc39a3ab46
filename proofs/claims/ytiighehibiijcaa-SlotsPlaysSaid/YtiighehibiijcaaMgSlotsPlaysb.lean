/-
  What the document's Take and All return: as the program's; and its Same. For texts within the reach.
  The document's log in memory; what its Room and Open return. For devices of 0 to 4096 sectors, whose sectors have 64 bytes.
  What Flush of the document's device does. No conditions beside those in each theorem.
  What Crash of the document's device does. No conditions beside those in each theorem.
  What New of the document's device does. No conditions beside those in each theorem.
  What Commit of the document's log does where it goes on. For marks to 2^62, devices of 3 to 4096 sectors.
  What Commit of the document's log does, of any log. For marks to 2^62, devices of 3 to 4096 sectors.
  A device and the document's device beside each other, both as one plain device says; what holds of it behind each call. No conditions beside those in each theorem.
  A log and the document's log beside each other, each on its device: a call on the one leaves the other one. No conditions beside those in each theorem.
-/
import Derived.Test.YtiighehibiijcaaMgSlotsPlaysa
import Derived.Deep.DeepCutAuto
namespace Go.Proofs.Ytiighehibiijcaa
open Go.RowKit

theorem tRec_most16 (s : List UInt8) : (tRec s).length ≤ s.length + 16 := by
  unfold tRec
  have := tNum_le 83 (sumN (tText 82 s)).toNat
  rw [List.length_append, tText_length]
  omega

set_option maxRecDepth 100000 in
set_option maxHeartbeats 1600000 in
theorem refTake_any (s : List UInt8) (body : List UInt8) (n er : Int) (w : World) (hr : takeR s = (body, n, er)) (hs : s.length ≤ 140737488351232) :
    Calls Try.prog 78 #[str s] w fun e w' => e = .returned (.tuple #[str body, .int .i64 n, .int .i64 er]) ∧ Below w.heap.size w w' := by
  obtain ⟨⟨t, s1, b1⟩, ht⟩ : ∃ q, rText 82 1048576 (s, false) = q := ⟨_, rfl⟩
  have Ht := Lib.hid ht
  cases b1
  · have hi := (rText_inv ht).2
    have hil : t.length ≤ 1048576 := by omega
    have hlr2 := tRec_most16 t
    by_cases hq : s.take (tRec t).length = tRec t
    · rw [take_is ht hq] at hr
      simp only [Prod.mk.injEq] at hr
      obtain ⟨rfl, rfl, rfl⟩ := hr
      have hle : (tRec t).length ≤ s.length := by
        have := congrArg List.length hq
        rw [List.length_take] at this
        omega
      obtain ⟨X, hX⟩ : ∃ X, tRec t = X := ⟨_, rfl⟩
      rw [hX] at hq hle hlr2 ⊢
      have hqb : ((s.take X.length) == X) = true := by simpa using hq
      have Hq := Lib.hid hq
      have HX := Lib.hid hX
      clear hq hX ht hi
      go_enter Try.func78, Try.ntmps78
      go_wp2_with fail
      refine (refReadText_any s false 82 1048576 _ _ (Blk.new w _ _) (by decide) (by decide) hs (by decide) t s1 false Ht.out).mono ?_
      rintro e w2 ⟨rfl, hr2, hu2⟩
      have hb2 := (((Below.refl w.heap.size w).alloc (Nat.le_refl _) _).trans (upd_below hu2 (by simp) (Nat.le_refl _)))
      obtain ⟨d0, d1, f0, f1⟩ := rr_cells hr2
      clear hr2 hu2
      go_wp2_with fail
      refine (refRecord_any t _ (by omega)).mono ?_
      rw [HX.out]
      rintro e w3 ⟨rfl, hb3⟩
      have hb3' := bel_step hb2 hb3
      clear d0 d1 f0 f1
      go_wp2
      go_ret3
      exact ⟨rfl, hb3'⟩
    · rw [take_isnt ht hq] at hr
      simp only [Prod.mk.injEq] at hr
      obtain ⟨rfl, rfl, rfl⟩ := hr
      obtain ⟨X, hX⟩ : ∃ X, tRec t = X := ⟨_, rfl⟩
      rw [hX] at hq hlr2
      have hqb : ((s.take X.length) == X) = false := by simpa using hq
      have Hq := Lib.hid hq
      have HX := Lib.hid hX
      clear hq hX ht hi
      by_cases hle : X.length ≤ s.length
      all_goals
        go_enter Try.func78, Try.ntmps78
        go_wp2_with fail
        refine (refReadText_any s false 82 1048576 _ _ (Blk.new w _ _) (by decide) (by decide) hs (by decide) t s1 false Ht.out).mono ?_
        rintro e w2 ⟨rfl, hr2, hu2⟩
        have hb2 := (((Below.refl w.heap.size w).alloc (Nat.le_refl _) _).trans (upd_below hu2 (by simp) (Nat.le_refl _)))
        obtain ⟨d0, d1, f0, f1⟩ := rr_cells hr2
        clear hr2 hu2
        go_wp2_with fail
        refine (refRecord_any t _ (by omega)).mono ?_
        rw [HX.out]
        rintro e w3 ⟨rfl, hb3⟩
        have hb3' := bel_step hb2 hb3
        clear d0 d1 f0 f1
        go_wp2
        go_ret3
        exact ⟨rfl, hb3'⟩
  · rw [take_bad ht] at hr
    simp only [Prod.mk.injEq] at hr
    obtain ⟨rfl, rfl, rfl⟩ := hr
    clear ht
    go_enter Try.func78, Try.ntmps78
    go_wp2_with fail
    refine (refReadText_any s false 82 1048576 _ _ (Blk.new w _ _) (by decide) (by decide) hs (by decide) t s1 true Ht.out).mono ?_
    rintro e w2 ⟨rfl, hr2, hu2⟩
    have hb2 := (((Below.refl w.heap.size w).alloc (Nat.le_refl _) _).trans (upd_below hu2 (by simp) (Nat.le_refl _)))
    obtain ⟨d0, d1, f0, f1⟩ := rr_cells hr2
    clear hr2 hu2
    go_wp2
    go_ret3
    exact ⟨rfl, hb2⟩

set_option maxRecDepth 100000 in
set_option maxHeartbeats 1600000 in
theorem refAll_any (s : List UInt8) (w : World) (hs : s.length ≤ 16777216) :
    Calls Try.prog 69 #[str s] w fun e w' => ∃ v, e = .returned (.tuple #[v, .int .i64 (allR s).2]) ∧ OwnS w' w.heap.size v (allR s).1 ∧ Below w.heap.size w w' := by
  obtain ⟨i0, hi, hz0, hz1, hz2⟩ := info_parts Try.infoStr
  obtain ⟨⟨R, N⟩, hR⟩ : ∃ q, allR s = q := ⟨_, rfl⟩
  rw [hR]
  have HR := Lib.hid hR
  clear hR
  go_enter Try.func69, Try.ntmps69
  go_wp2
  go_loopw [4, 5] (fun b n wr => ∃ (L : List (List UInt8)) (m : Nat), m ≤ s.length ∧ L.length ≤ m ∧ n = .int .i64 m ∧ (L ++ (allR (s.drop m)).1, m + (allR (s.drop m)).2) = (R, N) ∧ OwnS wr w.heap.size b L ∧ Below w.heap.size w wr)
    (fun _ n _ => s.length - (intOf n).toNat)
  case atStart => exact ⟨[], 0, Nat.zero_le _, Nat.zero_le _, rfl, by rw [List.drop_zero, HR.out]; simp, OwnS.none _ _, Below.refl _ _⟩
  case round =>
    obtain ⟨L, m, hm, hLm, rfl, hall, hown, hnx⟩ := hrel
    have Hown := Lib.hid hown
    have hsz := hnx.size
    have hdl : (s.drop m).length = s.length - m := List.length_drop ..
    obtain ⟨⟨b, n, er⟩, ht⟩ : ∃ q, takeR (s.drop m) = q := ⟨_, rfl⟩
    have Ht := Lib.hid ht
    have Hcut := Lib.hid (show List.take (s.length - m) (List.drop m s) = List.drop m s from List.take_of_length_le (by omega))
    rcases takeR_cases ht with ⟨rfl, h1, h2, h3⟩ | ⟨rfl, rfl, rfl⟩
    · obtain ⟨n, rfl⟩ : ∃ k : Nat, n = k := ⟨n.toNat, by omega⟩
      rw [allR_step ht, List.drop_drop] at hall
      have Hall := Lib.hid hall
      clear hall hown ht
      go_wp2_with fail
      rw [Hcut.out]
      refine (refTake_any (s.drop m) b n 0 _ Ht.out (by omega)).mono ?_
      rintro e w1 ⟨rfl, hb1⟩
      have hb1' := bel_step hnx hb1
      have Hown1 := Lib.hid (Hown.out.step hb1)
      have z1 := hb1'.size
      go_wp2_with (at_builtin; refine wpList_append_own _ rfl _ _ 54 rfl w.heap.size 9 i0 (.string ByteArray.empty) 1 16 Try.underlying54 hi hz0 hz1 hz2 rfl (by decide) _ _ _ rfl (Hown1.out.alloc _) ⟨w1.heap.size, 0, none⟩ 1 1 [str b] rfl rfl (cell_one_new _ _ _) (by simp [Value.oneCell']) (by unfold maxLen; omega) (by omega) (by simp; omega) ?_; intro v' w2 hown' hgrow _)
      have hb2 := (hb1'.alloc z1 (.cells #[str b] 9)).grown hgrow (by simp; omega) (fun k hk => (Hown1.out.lt k hk).1)
      go_roundw
      case rel => exact ⟨L ++ [b], m + n, by omega, by rw [List.length_append]; simp; omega, by go_num, by rw [← Hall.out]; simp [Nat.add_assoc], OwnS.push hown', hb2⟩
      case measure => simp [intOf]; omega
    · rw [allR_stop ht] at hall
      simp only [List.append_nil, Nat.add_zero, Prod.mk.injEq] at hall
      obtain ⟨rfl, rfl⟩ := hall
      clear hown ht
      go_wp2_with fail
      rw [Hcut.out]
      refine (refTake_any (s.drop m) [] 0 10 _ Ht.out (by omega)).mono ?_
      rintro e w1 ⟨rfl, hb1⟩
      have hb1' := bel_step hnx hb1
      go_wp2
      go_ret2
      exact ⟨_, rfl, Hown.out.step hb1, hb1'⟩
end Go.Proofs.Ytiighehibiijcaa

namespace Go.Proofs.Ytiighehibiijcaa
open Go.RowKit
set_option linter.unusedSimpArgs false
set_option linter.unnecessarySimpa false
set_option linter.unusedVariables false

/-- The document's log: its device, its mark, the log's bytes, whether it is broken. -/
def IsRL (w : World) (h rh : Nat) (m : Mk) (L : List UInt8) (br : Bool) : Prop :=
  Blk w h 88 #[.pointer (some ⟨rh, 0, none⟩), .int .i64 m.1, .int .i64 m.2.1, .int .i64 m.2.2, str L, .bool br]
theorem rl_cells {w : World} {h rh : Nat} {m : Mk} {L : List UInt8} {br : Bool} (hx : IsRL w h rh m L br) : w.cell? ⟨h, 0, none⟩ = some (.pointer (some ⟨rh, 0, none⟩)) ∧ w.cell? ⟨h, 1, none⟩ = some (.int .i64 m.1) ∧ w.cell? ⟨h, 2, none⟩ = some (.int .i64 m.2.1) ∧
    w.cell? ⟨h, 3, none⟩ = some (.int .i64 m.2.2) ∧ w.cell? ⟨h, 4, none⟩ = some (str L) ∧ w.cell? ⟨h, 5, none⟩ = some (.bool br) :=
  ⟨Blk.cell hx 0, Blk.cell hx 1, Blk.cell hx 2, Blk.cell hx 3, Blk.cell hx 4, Blk.cell hx 5⟩
theorem IsRef.shape {w : World} {rh B : Nat} {sv rv : Value} {d : Dev} (hd : IsRef w rh sv rv B d) (n0 : 0 ≤ d.n) : ∃ (p : Option Addr) (c N : Nat), sv = .slice p N c ∧ (N : Int) = d.n := by
  rcases hd.2.1.read with ⟨h1, h2⟩ | ⟨g, cap, h1, -⟩
  · refine ⟨none, 0, 0, h1, ?_⟩
    have h3 := safeL_length d
    rw [h2] at h3
    simp at h3
    omega
  · refine ⟨_, cap, (safeL d).length, h1, ?_⟩
    rw [safeL_length]
    omega
def OpenRIs (w w' : World) (rh : Nat) (e : Ending) (d : Dev) : Option Log × List (List UInt8) × Int → Prop
  | (none, _, er) => e = .returned (.tuple #[.pointer none, .slice none 0 0, .int .i64 er])
  | (some x, rs, er) => ∃ h v, e = .returned (.tuple #[.pointer (some ⟨h, 0, none⟩), v, .int .i64 er]) ∧ w.heap.size ≤ h ∧ IsRL w' h rh x.mark (logD d) false ∧ OwnS w' w.heap.size v rs

set_option maxRecDepth 100000 in
set_option maxHeartbeats 1600000 in
theorem refRoom_any (w : World) (h rh : Nat) (sv rv : Value) (B : Nat) (d : Dev) (m : Mk) (L : List UInt8) (br : Bool) (hx : IsRL w h rh m L br) (hd : IsRef w rh sv rv B d) (n0 : 0 ≤ d.n) (n1 : d.n ≤ 4096) (hL : L.length ≤ 1000000) :
    Calls Try.prog 47 #[.pointer (some ⟨h, 0, none⟩)] w fun e w' => e = .returned (.int .i64 (roomD d - (L.length : Nat))) ∧ ∃ q, w' = w.drewN q := by
  obtain ⟨p, c, N, rfl, hN⟩ := hd.shape n0
  obtain ⟨c0, c1, c2, c3, c4, c5⟩ := rl_cells hx
  obtain ⟨d0, -⟩ := ref_cells hd
  have hR : roomD d = ((N : Int) - 2) * 64 := by unfold roomD; rw [hN]
  have hN1 : (N : Int) ≤ 4096 := by omega
  have hN0 : 0 ≤ (N : Int) := by omega
  have HR := Lib.hid (show roomD d - (L.length : Nat) = ((N : Int) - 2) * 64 - (L.length : Nat) by rw [hR])
  clear hR hx hd hN
  go_enter Try.func47, Try.ntmps47
  go_wp2_with fail
  go_quiet (fail)
  go_wp2_with fail
  go_ret
  rw [HR.out]
  exact ⟨rfl, _, rfl⟩

set_option maxRecDepth 100000 in
set_option maxHeartbeats 6400000 in
theorem refOpen_any (w : World) (rh : Nat) (sv rv : Value) (B : Nat) (d : Dev) (hd : IsRef w rh sv rv B d) (n0 : 0 ≤ d.n) (n1 : d.n ≤ 4096) (hs : SafeOk d) (hw : WaitOk d.n d.waits) (hl : d.waits.length < 4611686018427)
    (r : Option Log × List (List UInt8) × Int) (hr : openR d = r) :
    Calls Try.prog 45 #[.pointer (some ⟨rh, 0, none⟩)] w fun e w' => OpenRIs w w' rh e d r ∧ Below w.heap.size w w' := by
  have HR := Lib.hid hr
  obtain ⟨p, c, N, rfl, hN⟩ := hd.shape n0
  obtain ⟨d0, -⟩ := ref_cells hd
  have HD := Lib.hid hd
  have HNN := Lib.hid hN
  have hN1 : N ≤ 4096 := by omega
  clear hr hd
  go_enter Try.func45, Try.ntmps45
  by_cases h2 : d.n ≤ 2
  · have hrr : openR d = (none, [], 1) := by unfold openR; rw [if_pos h2]
    rw [HR.out] at hrr
    subst hrr
    have hN3 : (N : Int) < 3 := by omega
    clear hN
    go_wp2_with fail
    go_ret3
    exact ⟨rfl, Below.refl _ _⟩
  have hN3 : ¬ (N : Int) < 3 := by omega
  clear hN
  obtain ⟨on, hon⟩ : ∃ on, d.on = on := ⟨_, rfl⟩
  cases on
  · have hrr : openR d = (none, [], 14) := by unfold openR; rw [if_neg h2, if_pos hon]
    rw [HR.out] at hrr
    subst hrr
    have he : readE d 0 = 14 := by unfold readE; rw [hon]; rfl
    have HE := Lib.hid he
    clear he hon
    go_wp2_with fail
    refine (refRead_any _ rh _ rv B d 0 HD.out n0 n1 hl).mono ?_
    rw [HE.out]
    rintro e w2 ⟨rfl, rfl⟩
    go_wp2_with fail
    go_ret3
    exact ⟨rfl, Below.refl _ _⟩
  have he : readE d 0 = 0 := by unfold readE hasD; rw [hon]; simp; omega
  have he1 : readE d 1 = 0 := by unfold readE hasD; rw [hon]; simp; omega
  have HE := Lib.hid he
  have HE1 := Lib.hid he1
  have HON := Lib.hid hon
  clear he he1 hon
  go_wp2_with fail
  refine (refRead_any _ rh _ rv B d 0 HD.out n0 n1 hl).mono ?_
  rw [HE.out]
  rintro e w2 ⟨rfl, rfl⟩
  go_wp2_with fail
  refine (refRead_any _ rh _ rv B d 1 HD.out n0 n1 hl).mono ?_
  rw [HE1.out]
  rintro e w3 ⟨rfl, rfl⟩
  obtain ⟨⟨⟨e0, b0, c0⟩, k0⟩, hu0⟩ : ∃ q, unpackR (readS d 0) = q := ⟨_, rfl⟩
  obtain ⟨⟨⟨e1, b1, c1⟩, k1⟩, hu1⟩ : ∃ q, unpackR (readS d 1) = q := ⟨_, rfl⟩
  obtain ⟨⟨me, mb, mc⟩, hm⟩ : ∃ q, markD d = q := ⟨_, rfl⟩
  have HM := Lib.hid hm
  unfold markD at hm
  rw [hu0, hu1] at hm
  simp only [] at hm
  have HU0 := Lib.hid hu0
  have HU1 := Lib.hid hu1
  have HN := Lib.hid hm
  clear hu0 hu1 hm
  go_wp2_with fail
  refine (refNewest_any (readS d 0) (readS d 1) _ e0 b0 c0 e1 b1 c1 me mb mc k0 k1 HU0.out HU1.out HN.out).mono ?_
  rintro e w4 ⟨rfl, hb4⟩
  have hrg : (0 ≤ me ∧ me ≤ 1099511627776) ∧ (0 ≤ mb ∧ mb ≤ 1099511627776) ∧ (0 ≤ mc ∧ mc ≤ 1099511627776) :=
    newR_range (P := fun e b c => (0 ≤ e ∧ e ≤ 1099511627776) ∧ (0 ≤ b ∧ b ≤ 1099511627776) ∧ (0 ≤ c ∧ c ≤ 1099511627776)) HN.out (unpackR_range HU0.out) (unpackR_range HU1.out)
  obtain ⟨M, rfl⟩ : ∃ M : Nat, mb = (M : Int) := ⟨mb.toNat, by omega⟩
  have HRG := Lib.hid hrg
  have HD4 := Lib.hid (HD.out.step hb4)
  have HB4 := Lib.hid hb4
  clear hrg hb4 HU0 HU1 HN HE HE1 d0
  go_wp2_with fail
  have hb5 : Below w4.heap.size w4 (w4.alloc (.cells #[.int .i64 me, .int .i64 (M : Int), .int .i64 mc] 62)) := (Below.refl _ _).alloc (Nat.le_refl _) _
  have HM5 := Lib.hid (Blk.new w4 62 #[.int .i64 me, .int .i64 (M : Int), .int .i64 mc])
  have HD5 := Lib.hid (HD4.out.step hb5)
  have HB5 := Lib.hid (bel_step HB4.out hb5)
  obtain ⟨q, hq⟩ : ∃ q, w4.heap.size = q := ⟨_, rfl⟩
  rw [hq] at HM5 ⊢
  clear hq hb5
  change Code.wp _ _ _ _ (w4.alloc (.cells #[.int .i64 me, .int .i64 (M : Int), .int .i64 mc] 62))
  generalize w4.alloc (.cells #[.int .i64 me, .int .i64 (M : Int), .int .i64 mc] 62) = w5 at HM5 HD5 HB5 ⊢
  obtain ⟨d0, -⟩ := ref_cells HD5.out
  obtain ⟨m0, m1, m2, -, -, -⟩ := cells3 HM5.out
  have hN0 : 0 ≤ (N : Int) := by omega
  have hMr := HRG.out.2.1
  by_cases hgt : ((N : Int) - 2) * 64 < (M : Int)
  · have hrr : openR d = (none, [], 10) := by unfold openR; rw [if_neg (by omega), if_neg (by rw [HON.out]; simp), if_pos (by rw [HM.out]; unfold roomD; rw [← HNN.out]; exact hgt)]
    rw [HR.out] at hrr
    subst hrr
    go_quiet (fail)
    go_wp2_with fail
    go_ret3
    exact ⟨rfl, bel_drewN HB5.out _⟩
  go_quiet (fail)
  go_wp2_with fail
  have HD6 := Lib.hid (HD5.out.step (below_drewN w5 nq))
  have HM6 := Lib.hid (HM5.out.step (below_drewN w5 nq))
  have HB6 := Lib.hid (bel_drewN HB5.out nq)
  generalize w5.drewN nq = w6 at HD6 HM6 HB6 ⊢
  clear d0 m0 m1 m2 HM5 HD5 HB5 HD4 HB4 HD
  have hMN : (M : Int) ≤ (d.n - 2) * 64 := by rw [← HNN.out]; omega
  have HMN := Lib.hid hMN
  clear hMN hgt hMr
  go_loopw [10, 11] (fun s i wr => ∃ k : Nat, i = .int .i64 (2 + (k : Int)) ∧ s = str (secsD d k) ∧ (k = 0 ∨ 64 * ((k : Int) - 1) < (M : Int)) ∧ w6 = wr) (fun _ i _ => (M + 3) - (intOf i).toNat)
  case atStart => exact ⟨0, rfl, rfl, .inl rfl, rfl⟩
  case round =>
    obtain ⟨k, rfl, rfl, hk, rfl⟩ := hrel
    have hmn := HMN.out
    have hkn : (k : Int) + 2 ≤ d.n := by omega
    have hkl := secsD_length hs hw HON.out k hkn
    have hk4 : (k : Int) ≤ 4096 := by omega
    have m1 : w6.cell? ⟨q, 1, none⟩ = some (.int .i64 (M : Int)) := HM6.out.cell 1
    have HKL := Lib.hid hkl
    by_cases hlt : ((64 * k : Nat) : Int) < (M : Int)
    · have hl2 : (((secsD d k).length : Nat) : Int) < (M : Int) := by rw [hkl]; exact hlt
      have hkn2 : 2 + (k : Int) < d.n := by omega
      obtain ⟨hsl, hse⟩ := readS_has hs hw HON.out (k := 2 + (k : Int)) (by omega) hkn2
      have hcat : ¬ 9223372036854775807 < (secsD d k).length + (readS d (2 + (k : Int))).length := by rw [hkl, hsl]; omega
      clear hmn hkn hlt hkl hkn2 hsl
      go_wp2_with fail
      refine (refRead_any _ rh _ rv B d (2 + (k : Int)) HD6.out n0 n1 hl).mono ?_
      rw [hse]
      rintro e w8 ⟨rfl, rfl⟩
      go_wp2_with fail
      go_roundw
      case rel => exact ⟨k + 1, by go_num, rfl, .inr (by rw [HKL.out] at hl2; omega), trivial⟩
      case measure => simp [intOf]; rw [HKL.out] at hl2; omega
    · have hl2 : ¬ (((secsD d k).length : Nat) : Int) < (M : Int) := by rw [hkl]; exact hlt
      have hl3 : (M : Int) ≤ (((secsD d k).length : Nat) : Int) := by omega
      have hl4 : M ≤ (secsD d k).length := by omega
      have hlog : List.take M (secsD d k) = logD d := by
        unfold logD
        rw [HM.out]
        simp only [Int.toNat_natCast]
        rw [show (M + 63) / 64 = k by omega]
      have hMs : M ≤ 262144 := by omega
      clear hmn hkn hlt hkl
      obtain ⟨L, hL⟩ : ∃ L, logD d = L := ⟨_, rfl⟩
      rw [hL] at hlog
      have hLl : L.length = M := by rw [← hlog, List.length_take]; omega
      obtain ⟨⟨rs, NN⟩, hA⟩ : ∃ q, allR L = q := ⟨_, rfl⟩
      have HA := Lib.hid hA
      have HL := Lib.hid hL
      have HLl := Lib.hid hLl
      have HLG := Lib.hid hlog
      clear hA hL hlog hLl
      go_wp2_with fail
      rw [HLG.out]
      refine (refAll_any L _ (by rw [HLl.out]; omega)).mono ?_
      rw [HA.out]
      rintro e w9 ⟨vr, rfl, ho9, hb9⟩
      have HM9 := Lib.hid (HM6.out.step hb9)
      have HB9 := Lib.hid (bel_step HB6.out hb9)
      have HO9 := Lib.hid ho9
      clear ho9 hb9 m1
      have m2 : w9.cell? ⟨q, 2, none⟩ = some (.int .i64 mc) := HM9.out.cell 2
      obtain ⟨pr, cr, hvr⟩ := HO9.out.shape
      subst hvr
      have hll : L.length ≤ 262144 := by rw [HLl.out]; exact hMs
      by_cases hN : NN = L.length
      · have e1 : ((NN : Int) == (L.length : Int)) = true := by rw [hN]; simp
        have e2 : ((NN : Int) != (L.length : Int)) = false := by rw [hN]; simp
        by_cases hC : ((rs.length : Nat) : Int) = mc
        · have e3 : (((rs.length : Nat) : Int) == mc) = true := by simpa using hC
          have e4 : (((rs.length : Nat) : Int) != mc) = false := by simpa using hC
          have hrr : openR d = (some ⟨(me, (M : Int), mc), L.drop (L.length - L.length % 64), false⟩, rs, 0) := by
            unfold openR
            rw [if_neg (by omega), if_neg (by rw [HON.out]; simp), if_neg (by rw [HM.out]; unfold roomD; have := HMN.out; show ¬ (d.n - 2) * 64 < (M : Int); omega), HM.out, HL.out, HA.out, if_pos ⟨hN, hC⟩]
          have HOW := Lib.hid (HO9.out.weak HB6.out.size)
          rw [HR.out] at hrr
          subst hrr
          obtain ⟨m0, m1, m2', -, -, -⟩ := cells3 HM9.out
          clear hN hC m2
          go_wp2_with fail
          go_ret3
          refine ⟨⟨w9.heap.size, _, rfl, HB9.out.size, ?_, HOW.out.alloc _⟩, HB9.out.alloc HB9.out.size _⟩
          rw [HL.out]
          exact Blk.new _ _ _
        · have e3 : (((rs.length : Nat) : Int) == mc) = false := by simpa using hC
          have e4 : (((rs.length : Nat) : Int) != mc) = true := by simpa using hC
          have hrr : openR d = (none, [], 10) := by
            unfold openR
            rw [if_neg (by omega), if_neg (by rw [HON.out]; simp), if_neg (by rw [HM.out]; unfold roomD; have := HMN.out; show ¬ (d.n - 2) * 64 < (M : Int); omega), HM.out, HL.out, HA.out, if_neg (fun h => hC h.2)]
          rw [HR.out] at hrr
          subst hrr
          go_wp2_with fail
          go_ret3
          exact ⟨rfl, HB9.out⟩
      · have e1 : ((NN : Int) == (L.length : Int)) = false := by simp; omega
        have e2 : ((NN : Int) != (L.length : Int)) = true := by simp; omega
        have hrr : openR d = (none, [], 10) := by
          unfold openR
          rw [if_neg (by omega), if_neg (by rw [HON.out]; simp), if_neg (by rw [HM.out]; unfold roomD; have := HMN.out; show ¬ (d.n - 2) * 64 < (M : Int); omega), HM.out, HL.out, HA.out, if_neg (fun h => hN h.1)]
        rw [HR.out] at hrr
        subst hrr
        go_wp2_with fail
        go_ret3
        exact ⟨rfl, HB9.out⟩
end Go.Proofs.Ytiighehibiijcaa

namespace Go.Proofs.Ytiighehibiijcaa
open Go.RowKit
set_option linter.unusedSimpArgs false
set_option linter.unnecessarySimpa false
set_option linter.unusedVariables false

theorem IsRef.setSafe {w : World} {h gs N cS : Nat} {rv : Value} {B : Nat} {d : Dev} {k : Nat} {t : List UInt8} (hd : IsRef w h (.slice (some ⟨gs, 0, none⟩) N cS) rv B d) (hk : k < (safeL d).length) :
    IsRef (w.setCell ⟨gs, k, none⟩ (str t)) h (.slice (some ⟨gs, 0, none⟩) N cS) rv B (keepD d (k : Int) t) ∧ RTouch h (.slice (some ⟨gs, 0, none⟩) N cS) w rv (w.setCell ⟨gs, k, none⟩ (str t)) rv := by
  have hN : N = (safeL d).length := by
    obtain ⟨p, c, e⟩ := hd.2.1.len
    injection e
  have hown : w.ownsRow B 9 1 (.slice (some ⟨gs, 0, none⟩) N cS) N ((safeL d).map str) := by have := hd.2.1; unfold OwnS at this; rw [← hN] at this; exact this
  obtain ⟨h1, h2⟩ := hown.stored k (str t)
  have ho : (Value.slice (some ⟨gs, 0, none⟩) N cS).ownBlock = some gs := rfl
  refine ⟨⟨hd.1.far (fun e => hd.2.1.ne hd.1 (by decide) (by rw [ho]; exact congrArg some e.symm)) _, ?_, hd.2.2.1.grown h2 (.inr (OwnS.apart hd.2.1 hd.2.2.1 ho)), hd.2.2.2⟩, RTouch.of_grown h2 (.inr (.inl rfl))⟩
  unfold OwnS
  rw [safeL_keep hk, List.length_set, List.map_set, ← hN]
  exact h1
theorem IsRef.rowcell {w : World} {h gs N cS : Nat} {rv : Value} {B : Nat} {d : Dev} {k : Nat} (hd : IsRef w h (.slice (some ⟨gs, 0, none⟩) N cS) rv B d) (hk : k < (safeL d).length) :
    w.cell? ⟨gs, k, none⟩ = some (str (safeD d (k : Int))) ∧ w.frozen? ⟨gs, k, none⟩ = false := by
  have hN : N = (safeL d).length := by
    obtain ⟨p, c, e⟩ := hd.2.1.len
    injection e
  have hown : w.ownsRow B 9 1 (.slice (some ⟨gs, 0, none⟩) N cS) N ((safeL d).map str) := by have := hd.2.1; unfold OwnS at this; rw [← hN] at this; exact this
  refine ⟨?_, hown.frozenAt k⟩
  rw [hown.cellAt k (by omega), List.getElem?_map, List.getElem?_eq_getElem hk, safeL_at hk]
  rfl
theorem OwnS.some_of {w : World} {B : Nat} {v : Value} {L : List (List UInt8)} (h : OwnS w B v L) (hl : 0 < L.length) : ∃ g c, v = .slice (some ⟨g, 0, Option.none⟩) L.length c := by
  rcases h.read with ⟨-, h2⟩ | ⟨g, c, h2, -⟩
  · rw [h2] at hl; simp at hl
  · exact ⟨g, c, h2⟩
theorem OwnW.some_of {w : World} {B : Nat} {v : Value} {L : List (Int × List UInt8)} (h : OwnW w B v L) (hl : 0 < L.length) : ∃ g c, v = .slice (some ⟨g, 0, Option.none⟩) L.length c ∧ g < w.heap.size ∧ ∀ i (hi : i < L.length), w.cell? ⟨g, i * 2, Option.none⟩ = some (.int .i64 L[i].1) ∧ w.cell? ⟨g, i * 2 + 1, Option.none⟩ = some (str L[i].2) := by
  rcases h.read with ⟨-, h2⟩ | ⟨g, c, h2, -, h3, -, -, h4⟩
  · rw [h2] at hl; simp at hl
  · exact ⟨g, c, h2, h3, fun i hi => by have := h4 i hi; rw [Nat.mul_comm] at this; exact this⟩
theorem keepAll_n (d : Dev) (l : List (Int × List UInt8)) : (keepAll d l).n = d.n := (keepAll_fields l d).1

set_option maxRecDepth 100000 in
set_option maxHeartbeats 3200000 in
theorem refFlush_any (w : World) (rh : Nat) (sv rv : Value) (B : Nat) (d : Dev) (hd : IsRef w rh sv rv B d) (hok : OkD d) (hw : WaitOk d.n d.waits) (hn0 : 0 < d.n) (hn1 : d.n ≤ 4096) :
    Calls Try.prog 29 #[.pointer (some ⟨rh, 0, none⟩)] w
      fun e w' => e = .returned (.int .i64 (flushE d)) ∧ ∃ rv', IsRef w' rh sv rv' B (flushR d) ∧ RTouch rh sv w rv w' rv' := by
  have HD := Lib.hid hd
  have OK := Lib.hid hok
  obtain ⟨c0, c1, c2, -⟩ := ref_cells hd
  have hwl := hok.2.2.2.2
  obtain ⟨gs, cS, hsv⟩ := hd.2.1.some_of (by rw [safeL_length]; omega)
  obtain ⟨N, hN⟩ : ∃ N, (safeL d).length = N := ⟨_, rfl⟩
  rw [hN] at hsv
  rw [safeL_length] at hN
  have HN := Lib.hid hN
  unfold flushE flushR
  obtain ⟨on, hon⟩ : ∃ u, d.on = u := ⟨_, rfl⟩
  rw [hon] at c2 ⊢
  have HWK := Lib.hid hw
  clear hd hok hon hN hw
  subst hsv
  cases on
  · go_enter Try.func29, Try.ntmps29
    go_wp2_with fail
    go_ret
    exact ⟨rfl, rv, HD.out, RTouch.refl _ _ _ _⟩
  · simp only [if_true]
    by_cases hg : goesD d = true
    · have hfl : fluD d = flushD (stepD d) := by simp [fluD, hg]
      have hst : stepR d = stepD d := by simp [stepR, hg]
      rw [if_pos hg, hfl]
      have HG := Lib.hid hg
      have HST := Lib.hid hst
      clear hg hfl hst
      go_enter Try.func29, Try.ntmps29
      go_wp2_with fail
      refine (refStep_any _ rh _ rv B d HD.out OK.out).mono ?_
      rw [if_pos HG.out, if_pos HG.out]
      rintro e w1 ⟨rfl, hd1, t1⟩
      obtain ⟨l, hl⟩ : ∃ l, d.waits = l := ⟨_, rfl⟩
      obtain ⟨D, hD⟩ : ∃ D, stepD d = D := ⟨_, rfl⟩
      have hDw : D.waits = l := by rw [← hD, stepD_waits, hl]
      have hDn : D.n = d.n := by rw [← hD, stepD_n]
      rw [hD] at hd1
      have HDE := Lib.hid hD
      rw [hl] at hwl HWK
      have HD1 := Lib.hid hd1
      have T1 := Lib.hid t1
      have HDW := Lib.hid hDw
      have HDN := Lib.hid hDn
      clear hd1 t1 c0 c1 c2 hl hD hDw hDn
      go_wp2_with fail
      go_loopw [4] (fun i wr => ∃ j : Nat, j ≤ l.length ∧ i = .int .i64 j ∧ IsRef wr rh (.slice (some ⟨gs, 0, none⟩) N cS) rv B (keepAll D (l.take j)) ∧ RTouch rh (.slice (some ⟨gs, 0, none⟩) N cS) w1 rv wr rv) (fun i _ => l.length - (intOf i).toNat)
      case atStart => exact ⟨0, Nat.zero_le _, rfl, HD1.out, RTouch.refl _ _ _ _⟩
      case round =>
        obtain ⟨j, hj, rfl, hd2, ht2⟩ := hrel
        have hwt : (keepAll D (l.take j)).waits = l := by rw [keepAll_waits, HDW.out]
        have hdn2 : (keepAll D (l.take j)).n = d.n := by rw [keepAll_n, HDN.out]
        by_cases hlt : j < l.length
        · have hji : (j : Int) < (l.length : Int) := by omega
          have how := hd2.2.2.1
          rw [hwt] at how
          obtain ⟨gv, c, hrv, hgv, hcell⟩ := how.some_of (by omega)
          subst hrv
          obtain ⟨e1, e2⟩ := hcell j hlt
          have hwk := HWK.out _ (List.getElem_mem hlt)
          have hkt := keepAll_take D hlt
          obtain ⟨⟨x, t⟩, hx⟩ : ∃ q, l[j] = q := ⟨_, rfl⟩
          rw [hx] at e1 e2 hwk hkt
          simp only [] at e1 e2 hkt
          obtain ⟨-, htl, hxh⟩ := hwk
          simp only [] at htl hxh
          have hx0 : 0 ≤ x ∧ x < d.n := by simpa [hasD] using hxh
          obtain ⟨k, rfl⟩ := Int.eq_ofNat_of_zero_le hx0.1
          have hkN : k < N := by have := HN.out; omega
          have hkNi : ((k : Nat) : Int) < (N : Int) := by omega
          have hkl : k < (safeL (keepAll D (l.take j))).length := by rw [safeL_length, hdn2]; have := HN.out; omega
          obtain ⟨HY0, HY1⟩ := (hd2.drew).rowcell hkl
          obtain ⟨d0, d1, -⟩ := ref_cells hd2
          have HDD := Lib.hid hd2
          have HT2 := Lib.hid ht2
          have HKT := Lib.hid hkt
          have HSet := Lib.hid (IsRef.setSafe (t := t) hd2.drew hkl)
          have h63 : (k : Int) < 9223372036854775808 := by omega
          clear hd2 ht2 hkt hx hcell how hxh htl hx0 hwt hdn2 hkl
          go_wp2_with fail
          refine until_begin 21 (fun w' => w'.cell? ⟨rh, 0, none⟩ = some (.slice (some ⟨gs, 0, none⟩) N cS) ∧ w'.cell? ⟨rh, 1, none⟩ = some (.slice (some ⟨gv, 0, none⟩) l.length c) ∧ w'.cell? ⟨gv, j * 2, none⟩ = some (.int .i64 (k : Int)) ∧ w'.cell? ⟨gv, j * 2 + 1, none⟩ = some (str t)) (by kernel_rfl) ⟨d0, d1, e1, e2⟩ (fun hS => ?_)
          refine until_take 0 (some 24) (u := ?_) rfl rfl (by kernel_rfl) (by kernel_rfl) (by kernel_rfl) (by kernel_rfl) (fun _ _ _ h => h) (by rfl) (fun wS hv => ?_) hS ?_
          rotate_left
          · clear hv
            go_simp
            all_goals with_reducible rfl
          try simp only [Act.put, List.setIfInBounds_toArray, List.set]
          refine until_take 1 (some 25) (u := ?_) rfl rfl (by kernel_rfl) (by kernel_rfl) (by kernel_rfl) (by kernel_rfl) (fun _ _ _ h => h) (by rfl) (fun wS hv => ?_) hS ?_
          rotate_left
          · clear hv
            go_simp
            all_goals with_reducible rfl
          try simp only [Act.put, List.setIfInBounds_toArray, List.set]
          refine until_take 2 (some 26) (u := ?_) rfl rfl (by kernel_rfl) (by kernel_rfl) (by kernel_rfl) (by kernel_rfl) (fun _ _ _ h => h) (by rfl) (fun wS hv => ?_) hS ?_
          rotate_left
          · clear hv
            go_simp
            all_goals with_reducible rfl
          try simp only [Act.put, List.setIfInBounds_toArray, List.set]
          refine until_take 3 (some 27) (u := ?_) rfl rfl (by kernel_rfl) (by kernel_rfl) (by kernel_rfl) (by kernel_rfl) (fun _ _ _ h => h) (by rfl) (fun wS hv => ?_) hS ?_
          rotate_left
          · obtain ⟨k1, k2, k3, k4⟩ := hv
            go_simp
            all_goals with_reducible rfl
          try simp only [Act.put, List.setIfInBounds_toArray, List.set]
          refine until_take 4 (some 28) (u := ?_) rfl rfl (by kernel_rfl) (by kernel_rfl) (by kernel_rfl) (by kernel_rfl) (fun _ _ _ h => h) (by rfl) (fun wS hv => ?_) hS ?_
          rotate_left
          · clear hv
            go_simp
            all_goals with_reducible rfl
          try simp only [Act.put, List.setIfInBounds_toArray, List.set]
          refine until_take 5 (some 29) (u := ?_) rfl rfl (by kernel_rfl) (by kernel_rfl) (by kernel_rfl) (by kernel_rfl) (fun _ _ _ h => h) (by rfl) (fun wS hv => ?_) hS ?_
          rotate_left
          · clear hv
            go_simp
            all_goals with_reducible rfl
          try simp only [Act.put, List.setIfInBounds_toArray, List.set]
          refine until_take 6 (some 30) (u := ?_) rfl rfl (by kernel_rfl) (by kernel_rfl) (by kernel_rfl) (by kernel_rfl) (fun _ _ _ h => h) (by rfl) (fun wS hv => ?_) hS ?_
          rotate_left
          · clear hv
            go_simp
            all_goals with_reducible rfl
          try simp only [Act.put, List.setIfInBounds_toArray, List.set]
          refine until_take 7 (some 31) (u := ?_) rfl rfl (by kernel_rfl) (by kernel_rfl) (by kernel_rfl) (by kernel_rfl) (fun _ _ _ h => h) (by rfl) (fun wS hv => ?_) hS ?_
          rotate_left
          · obtain ⟨k1, k2, k3, k4⟩ := hv
            go_simp
            all_goals with_reducible rfl
          try simp only [Act.put, List.setIfInBounds_toArray, List.set]
          refine until_take 8 (some 32) (u := ?_) rfl rfl (by kernel_rfl) (by kernel_rfl) (by kernel_rfl) (by kernel_rfl) (fun _ _ _ h => h) (by rfl) (fun wS hv => ?_) hS ?_
          rotate_left
          · clear hv
            go_simp
            all_goals with_reducible rfl
          try simp only [Act.put, List.setIfInBounds_toArray, List.set]
          refine until_take 9 (some 33) (u := ?_) rfl rfl (by kernel_rfl) (by kernel_rfl) (by kernel_rfl) (by kernel_rfl) (fun _ _ _ h => h) (by rfl) (fun wS hv => ?_) hS ?_
          rotate_left
          · clear hv
            go_simp
            all_goals with_reducible rfl
          try simp only [Act.put, List.setIfInBounds_toArray, List.set]
          refine until_take 10 (some 34) (u := ?_) rfl rfl (by kernel_rfl) (by kernel_rfl) (by kernel_rfl) (by kernel_rfl) (fun _ _ _ h => h) (by rfl) (fun wS hv => ?_) hS ?_
          rotate_left
          · clear hv
            go_simp
            all_goals with_reducible rfl
          try simp only [Act.put, List.setIfInBounds_toArray, List.set]
          refine until_take 11 (some 35) (u := ?_) rfl rfl (by kernel_rfl) (by kernel_rfl) (by kernel_rfl) (by kernel_rfl) (fun _ _ _ h => h) (by rfl) (fun wS hv => ?_) hS ?_
          rotate_left
          · obtain ⟨k1, k2, k3, k4⟩ := hv
            go_simp
            all_goals with_reducible rfl
          try simp only [Act.put, List.setIfInBounds_toArray, List.set]
          refine until_take 12 (some 36) (u := ?_) rfl rfl (by kernel_rfl) (by kernel_rfl) (by kernel_rfl) (by kernel_rfl) (fun _ _ _ h => h) (by rfl) (fun wS hv => ?_) hS ?_
          rotate_left
          · clear hv
            go_simp
            all_goals with_reducible rfl
          try simp only [Act.put, List.setIfInBounds_toArray, List.set]
          refine until_take 13 (some 37) (u := ?_) rfl rfl (by kernel_rfl) (by kernel_rfl) (by kernel_rfl) (by kernel_rfl) (fun _ _ _ h => h) (by rfl) (fun wS hv => ?_) hS ?_
          rotate_left
          · clear hv
            go_simp
            all_goals with_reducible rfl
          try simp only [Act.put, List.setIfInBounds_toArray, List.set]
          refine until_take 14 (some 38) (u := ?_) rfl rfl (by kernel_rfl) (by kernel_rfl) (by kernel_rfl) (by kernel_rfl) (fun _ _ _ h => h) (by rfl) (fun wS hv => ?_) hS ?_
          rotate_left
          · clear hv
            go_simp
            all_goals with_reducible rfl
          try simp only [Act.put, List.setIfInBounds_toArray, List.set]
          refine until_take 15 (some 39) (u := ?_) rfl rfl (by kernel_rfl) (by kernel_rfl) (by kernel_rfl) (by kernel_rfl) (fun _ _ _ h => h) (by rfl) (fun wS hv => ?_) hS ?_
          rotate_left
          · obtain ⟨k1, k2, k3, k4⟩ := hv
            go_simp
            all_goals with_reducible rfl
          try simp only [Act.put, List.setIfInBounds_toArray, List.set]
          refine until_take 16 (some 40) (u := ?_) rfl rfl (by kernel_rfl) (by kernel_rfl) (by kernel_rfl) (by kernel_rfl) (fun _ _ _ h => h) (by rfl) (fun wS hv => ?_) hS ?_
          rotate_left
          · clear hv
            go_simp
            all_goals with_reducible rfl
          try simp only [Act.put, List.setIfInBounds_toArray, List.set]
          refine until_take 17 (some 41) (u := ?_) rfl rfl (by kernel_rfl) (by kernel_rfl) (by kernel_rfl) (by kernel_rfl) (fun _ _ _ h => h) (by rfl) (fun wS hv => ?_) hS ?_
          rotate_left
          · clear hv
            go_simp
            all_goals with_reducible rfl
          try simp only [Act.put, List.setIfInBounds_toArray, List.set]
          refine until_take 18 (some 42) (u := ?_) rfl rfl (by kernel_rfl) (by kernel_rfl) (by kernel_rfl) (by kernel_rfl) (fun _ _ _ h => h) (by rfl) (fun wS hv => ?_) hS ?_
          rotate_left
          · clear hv
            go_simp
            all_goals with_reducible rfl
          try simp only [Act.put, List.setIfInBounds_toArray, List.set]
          refine until_take 19 (some 43) (u := ?_) rfl rfl (by kernel_rfl) (by kernel_rfl) (by kernel_rfl) (by kernel_rfl) (fun _ _ _ h => h) (by rfl) (fun wS hv => ?_) hS ?_
          rotate_left
          · obtain ⟨k1, k2, k3, k4⟩ := hv
            go_simp
            all_goals with_reducible rfl
          try simp only [Act.put, List.setIfInBounds_toArray, List.set]
          refine until_take 20 (some 44) (u := ?_) rfl rfl (by kernel_rfl) (by kernel_rfl) (by kernel_rfl) (by kernel_rfl) (fun _ _ _ h => h) (by rfl) (fun wS hv => ?_) hS ?_
          rotate_left
          · clear hv
            go_simp
            all_goals with_reducible rfl
          try simp only [Act.put, List.setIfInBounds_toArray, List.set]
          refine until_last (by kernel_rfl) rfl (by kernel_rfl) (fun K hK => ?_)
          have y0 := HY0
          have y1 := HY1
          go_simp
          refine hK.out _ _ ?_
          clear hK K y0 y1
          have hd3 := HSet.out.1
          have t3 := HT2.out.drew.trans HSet.out.2
          rw [← HKT.out] at hd3
          have HD3 := Lib.hid hd3
          have T3 := Lib.hid t3
          clear hd3 t3 d0 d1 e1 e2 HY0 HY1 hS
          go_wp2
          go_roundw
          case rel => exact ⟨j + 1, by omega, by go_num, HD3.out, T3.out⟩
          case measure => simp [intOf]; omega
        · obtain rfl : j = l.length := by omega
          rw [List.take_length] at hd2 hwt
          obtain ⟨d0, d1, -⟩ := ref_cells hd2
          have f1 := hd2.1.frozen 1
          have HD2 := Lib.hid hd2
          have HT2 := Lib.hid ht2
          have HDW2 := Lib.hid hwt
          have how := hd2.2.2.1
          rw [hwt] at how
          obtain ⟨p3, c3, hrv⟩ := how.form
          subst hrv
          clear hd2 ht2 how hwt hdn2
          go_wp2_with fail
          go_ret
          have hd3 := IsRef.setWaits (rv2 := .slice none 0 0) (L := []) HD2.out.1 HD2.out.2.1 (OwnW.none _ _) HD2.out.2.2.2
          have hfd : { keepAll D l with waits := [] } = flushD D := by unfold flushD; rw [HDW.out]
          rw [hfd] at hd3
          rw [HDE.out]
          exact ⟨rfl, _, hd3, ((T1.out.trans HT2.out).trans (RTouch.of_grown (upd_set wr rh 1 _) (.inl rfl))).to_nil⟩
    · have hg2 : goesD d = false := by simpa using hg
      have hfl : fluD d = stepR d := by simp [fluD, stepR, hg2]
      rw [if_neg hg, hfl]
      have HG := Lib.hid hg
      clear hg hg2 hfl
      go_enter Try.func29, Try.ntmps29
      go_wp2_with fail
      refine (refStep_any _ rh _ rv B d HD.out OK.out).mono ?_
      rw [if_neg HG.out, if_neg HG.out]
      rintro e w1 ⟨rfl, hd1, t1⟩
      have HD1 := Lib.hid (show IsRef w1 rh _ rv B { d with on := false } from hd1)
      have T1 := Lib.hid t1
      clear hd1 t1 c0 c1 c2
      go_wp2_with fail
      go_ret
      refine ⟨rfl, rv, ?_, T1.out⟩
      unfold stepR
      rw [if_neg HG.out]
      exact HD1.out
end Go.Proofs.Ytiighehibiijcaa

namespace Go.Proofs.Ytiighehibiijcaa
open Go.RowKit
set_option linter.unusedSimpArgs false
set_option linter.unnecessarySimpa false
set_option linter.unusedVariables false

theorem crashN_waits (ks : List Bool) (torn : Int) (cc : Nat) (d : Dev) (l : List (Int × List UInt8)) (i : Nat) : (crashN ks torn cc d l i).waits = d.waits ∧ (crashN ks torn cc d l i).n = d.n := ⟨(crashN_n ks torn cc d l i).2.1, (crashN_n ks torn cc d l i).1⟩
set_option maxRecDepth 100000 in
set_option maxHeartbeats 6400000 in
theorem refCrash_any (W w : World) (rh : Nat) (sv rv kv : Value) (B : Nat) (d : Dev) (ks : List Bool) (torn cut : Int) (hd : IsRef w rh sv rv B d) (hkv : ReadBl W kv ks) (hWB : W.heap.size ≤ B) (hWw : Below W.heap.size W w) (hs : SafeOk d) (hw : WaitOk d.n d.waits) (hn0 : 0 < d.n) (hn1 : d.n ≤ 4096) (hwl : d.waits.length < 4611686018427) :
    Calls Try.prog 32 #[.pointer (some ⟨rh, 0, none⟩), kv, .int .i64 torn, .int .i64 cut] w
      fun e w' => e = .returned (.tuple #[]) ∧ ∃ rv', IsRef w' rh sv rv' B (crashD ks torn (min (max cut 0) 64).toNat d) ∧ RTouch rh sv w rv w' rv' := by
  have HD := Lib.hid hd
  have HWK := Lib.hid hw
  have HSO := Lib.hid hs
  have HWW := Lib.hid hWw
  obtain ⟨c0, c1, c2, -⟩ := ref_cells hd
  obtain ⟨gs, cS, hsv⟩ := hd.2.1.some_of (by rw [safeL_length]; omega)
  obtain ⟨N, hN⟩ : ∃ N, (safeL d).length = N := ⟨_, rfl⟩
  rw [hN] at hsv
  rw [safeL_length] at hN
  have HN := Lib.hid hN
  obtain ⟨l, hl⟩ : ∃ l, d.waits = l := ⟨_, rfl⟩
  rw [hl] at hwl
  have HL := Lib.hid hl
  obtain ⟨hkl, p, c, rfl, hkc⟩ := hkv
  have HKC := Lib.hid hkc
  unfold maxLen at hkl
  subst hsv
  clear hd hw hs hWw hN hl hkc
  obtain ⟨cc, hcc⟩ : ∃ cc, (min (max cut 0) 64).toNat = cc := ⟨_, rfl⟩
  have hcc64 : cc ≤ 64 := by omega
  have HCC := Lib.hid hcc
  rw [hcc]
  go_enter Try.func32, Try.ntmps32
  go_upto_if 12 with fail
  go_cut [3] (fun c w' => ∃ m : Int, 0 ≤ m ∧ Hid (max cut 0 = m) ∧ c = .int .i64 m ∧ w' = w)
  case first =>
    by_cases h0 : cut < 0
    · have hm : max cut 0 = 0 := by omega
      have HM := Lib.hid hm
      clear hm hcc
      go_wp2_with fail
      go_meet
      case rel => exact ⟨_, by omega, HM, rfl, rfl⟩
    · have hm : max cut 0 = cut := by omega
      have h0' : ¬ cut < 0 := h0
      have HM := Lib.hid hm
      clear hm hcc
      go_wp2_with fail
      go_meet
      case rel => exact ⟨_, by omega, HM, rfl, rfl⟩
  case rest =>
    obtain ⟨m, hm0, HM, rfl, rfl⟩ := hcut
    have hcc : (min m 64).toNat = cc := by rw [← HM.out]; exact HCC.out
    go_upto_if 14 with fail
    go_cut [3] (fun c w' => c = .int .i64 (cc : Int) ∧ w' = wc)
    case first =>
      by_cases h0 : 64 < m
      · have hm2 : (cc : Int) = 64 := by omega
        have HM2 := Lib.hid hm2
        clear hcc hm2
        go_wp2_with fail
        go_meet
        case rel => exact ⟨by rw [HM2.out], rfl⟩
      · have hm2 : (cc : Int) = m := by omega
        have h0' : ¬ 64 < m := h0
        have HM2 := Lib.hid hm2
        clear hcc hm2
        go_wp2_with fail
        go_meet
        case rel => exact ⟨by rw [HM2.out], rfl⟩
    case rest =>
      obtain ⟨rfl, rfl⟩ := hcut
      clear hcc
      go_wp2_with fail
      go_loopw [8] (fun i wr => ∃ j : Nat, j ≤ l.length ∧ i = .int .i64 j ∧ IsRef wr rh (.slice (some ⟨gs, 0, none⟩) N cS) rv B (crashN ks torn cc d l j) ∧ RTouch rh (.slice (some ⟨gs, 0, none⟩) N cS) wc rv wr rv) (fun i _ => l.length - (intOf i).toNat)
      case atStart => exact ⟨0, Nat.zero_le _, rfl, HD.out, RTouch.refl _ _ _ _⟩
      case round =>
        obtain ⟨j, hj, rfl, hd2, ht2⟩ := hrel
        obtain ⟨hwt, hdn⟩ := crashN_waits ks torn cc d l j
        rw [HL.out] at hwt
        have hso := crashN_safe (ks := ks) (torn := torn) (l := l) HSO.out hcc64 (HL.out ▸ HWK.out) j
        have hB2 := HWW.out.trans (HD.out.below ht2 hWB HWW.out.size)
        by_cases hlt : j < l.length
        · have hji : (j : Int) < (l.length : Int) := by omega
          have how := hd2.2.2.1
          rw [hwt] at how
          obtain ⟨gv, c', hrv, hgv, hcell⟩ := how.some_of (by omega)
          subst hrv
          obtain ⟨e1, e2⟩ := hcell j hlt
          have hwk := HWK.out l[j] (by rw [HL.out]; exact List.getElem_mem hlt)
          have hst := crashN_succ (ks := ks) (torn := torn) (cc := cc) (d := d) (List.getElem?_eq_getElem hlt)
          obtain ⟨⟨x', t⟩, hx⟩ : ∃ q, l[j] = q := ⟨_, rfl⟩
          rw [hx] at e1 e2 hwk hst
          simp only [] at e1 e2
          obtain ⟨-, htl, hxh⟩ := hwk
          simp only [] at htl hxh
          have hx0 : 0 ≤ x' ∧ x' < d.n := by simpa [hasD] using hxh
          obtain ⟨k, rfl⟩ := Int.eq_ofNat_of_zero_le hx0.1
          have hkN : k < N := by have := HN.out; omega
          have hkNi : ((k : Nat) : Int) < (N : Int) := by omega
          have h63 : (k : Int) < 9223372036854775808 := by omega
          obtain ⟨d0, d1, -⟩ := ref_cells hd2
          by_cases hjk : j < ks.length
          · obtain ⟨b, o, rfl, hbw, hk⟩ := HKC.out (by omega)
            have kcell := (hB2.cell (p := ⟨b, o + j, none⟩) hbw).trans (hk j hjk)
            have hjki : ¬ (ks.length : Int) ≤ (j : Int) := by omega
            obtain ⟨u, hu⟩ : ∃ u, ks[j] = u := ⟨_, rfl⟩
            rw [hu] at kcell
            unfold crash1 at hst
            rw [List.getElem?_eq_getElem hjk, hu] at hst
            cases u
            · rw [if_neg (by simp)] at hst
              rw [← hst] at hd2
              have HD2 := Lib.hid hd2
              have HT2 := Lib.hid ht2
              clear hst hd2 ht2 hu hk hx hcell how hxh htl hx0 hwt hdn hso hB2 e1 e2
              go_wp2_with fail
              go_roundw
              case rel => exact ⟨j + 1, by omega, by go_num, HD2.out, HT2.out⟩
              case measure => simp [intOf]; omega
            · rw [if_pos rfl] at hst
              obtain ⟨D, hD⟩ : ∃ D, crashN ks torn cc d l j = D := ⟨_, rfl⟩
              rw [hD] at hst hd2 hdn hso hwt
              have hkl0 : k < (safeL D).length := by rw [safeL_length, hdn]; have := HN.out; omega
              have hzc := (hd2.rowcell hkl0).1
              have hzl := hso.safeD (k : Int)
              obtain ⟨z, hz⟩ : ∃ z, safeD D (k : Int) = z := ⟨_, rfl⟩
              have hbel := (Below.refl wr.heap.size wr).alloc (Nat.le_refl _) (.cells #[.int .i64 (k : Int), str t] 91)
              have HD1 := Lib.hid (hd2.step hbel)
              have HT1 := Lib.hid (ht2.trans (RTouch.of_below hbel))
              have X1 := Lib.hid (Blk.new wr 91 #[.int .i64 (k : Int), str t])
              have lh := hd2.1.lt
              have lgs : gs < wr.heap.size := World.block_lt_of_cell? wr _ hzc
              have HDN := Lib.hid hdn
              simp only [] at hst
              rw [hz] at hzl hzc
              by_cases htorn : (j : Int) = torn
              · subst htorn
                rw [if_pos rfl] at hst
                unfold tornS at hst
                simp only [] at hst
                rw [hz] at hst
                obtain ⟨X, hX⟩ : ∃ X, List.take cc t = X := ⟨_, rfl⟩
                obtain ⟨Y, hY⟩ : ∃ Y, List.take (64 - cc) (List.drop cc z) = Y := ⟨_, rfl⟩
                have hci : (cc : Int) ≤ 64 := by omega
                have hzY : z.drop cc = Y := by rw [← hY, List.take_of_length_le]; rw [List.length_drop, hzl]; omega
                have hXY : ¬ 9223372036854775807 < X.length + Y.length := by rw [← hX, ← hzY, List.length_take, List.length_drop]; omega
                rw [hX, hzY] at hst
                have HST := Lib.hid hst
                have HZ := Lib.hid hz
                clear hst hd2 ht2 hu hk hx hcell how hxh hx0 hwt hdn hso hB2 hbel hD hz hzY hkl0
                go_wp2_with fail
                generalize wr.alloc (.cells #[.int .i64 (k : Int), str t] 91) = w1 at HD1 HT1 X1 ⊢
                obtain ⟨x, hxx⟩ : ∃ x, wr.heap.size = x := ⟨_, rfl⟩
                rw [hxx] at X1 ⊢
                have x0 : w1.cell? ⟨x, 0, none⟩ = some (.int .i64 (k : Int)) := X1.out.cell 0
                have x1 : w1.cell? ⟨x, 1, none⟩ = some (str t) := X1.out.cell 1
                obtain ⟨d0', -⟩ := ref_cells HD1.out
                have hkl1 : k < (safeL D).length := by rw [safeL_length]; have := HDN.out; have := HN.out; omega
                have hz1 : w1.cell? ⟨gs, k, none⟩ = some (str (safeD D (k : Int))) := (HD1.out.rowcell hkl1).1
                rw [HZ.out] at hz1
                clear hkl1 c0 c1 c2 d0 d1 e1 e2 kcell hzc hxx lh lgs hcc
                go_quiet (fail)
                go_wp2
                have HD2 := Lib.hid (HD1.out.step (w' := w1.drewN nq) ⟨rfl, rfl, rfl, Nat.le_refl _, fun _ _ => rfl⟩)
                have HT2 := Lib.hid (HT1.out.trans (RTouch.of_below (w' := w1.drewN nq) ⟨rfl, rfl, rfl, Nat.le_refl _, fun _ _ => rfl⟩))
                have x0 : (w1.drewN nq).cell? ⟨x, 0, none⟩ = some (.int .i64 (k : Int)) := x0
                generalize w1.drewN nq = w2 at HD2 HT2 x0 ⊢
                clear d0' x1 hz1 X1 HD1 HT1
                have hkl : k < (safeL D).length := by rw [safeL_length]; have := HDN.out; have := HN.out; omega
                obtain ⟨HY0, HY1⟩ := (HD2.out.drew).rowcell hkl
                obtain ⟨d0, d1, -⟩ := ref_cells HD2.out
                have HSet := Lib.hid (IsRef.setSafe (t := X ++ Y) HD2.out.drew hkl)
                clear hkl
                refine until_begin 8 (fun w' => w'.cell? ⟨rh, 0, none⟩ = some (.slice (some ⟨gs, 0, none⟩) N cS) ∧ w'.cell? ⟨x, 0, none⟩ = some (.int .i64 (k : Int))) (by kernel_rfl) ⟨d0, x0⟩ (fun hS => ?_)
                refine until_take 0 (some 62) (u := ?_) rfl rfl (by kernel_rfl) (by kernel_rfl) (by kernel_rfl) (by kernel_rfl) (fun _ _ _ h => h) (by rfl) (fun wS hv => ?_) hS ?_
                rotate_left
                · clear hv
                  go_simp
                  all_goals with_reducible rfl
                try simp only [Act.put, List.setIfInBounds_toArray, List.set]
                refine until_take 1 (some 63) (u := ?_) rfl rfl (by kernel_rfl) (by kernel_rfl) (by kernel_rfl) (by kernel_rfl) (fun _ _ _ h => h) (by rfl) (fun wS hv => ?_) hS ?_
                rotate_left
                · clear hv
                  go_simp
                  all_goals with_reducible rfl
                try simp only [Act.put, List.setIfInBounds_toArray, List.set]
                refine until_take 2 (some 64) (u := ?_) rfl rfl (by kernel_rfl) (by kernel_rfl) (by kernel_rfl) (by kernel_rfl) (fun _ _ _ h => h) (by rfl) (fun wS hv => ?_) hS ?_
                rotate_left
                · clear hv
                  go_simp
                  all_goals with_reducible rfl
                try simp only [Act.put, List.setIfInBounds_toArray, List.set]
                refine until_take 3 (some 65) (u := ?_) rfl rfl (by kernel_rfl) (by kernel_rfl) (by kernel_rfl) (by kernel_rfl) (fun _ _ _ h => h) (by rfl) (fun wS hv => ?_) hS ?_
                rotate_left
                · obtain ⟨k1, k2⟩ := hv
                  go_simp
                  all_goals with_reducible rfl
                try simp only [Act.put, List.setIfInBounds_toArray, List.set]
                refine until_take 4 (some 66) (u := ?_) rfl rfl (by kernel_rfl) (by kernel_rfl) (by kernel_rfl) (by kernel_rfl) (fun _ _ _ h => h) (by rfl) (fun wS hv => ?_) hS ?_
                rotate_left
                · clear hv
                  go_simp
                  all_goals with_reducible rfl
                try simp only [Act.put, List.setIfInBounds_toArray, List.set]
                refine until_take 5 (some 67) (u := ?_) rfl rfl (by kernel_rfl) (by kernel_rfl) (by kernel_rfl) (by kernel_rfl) (fun _ _ _ h => h) (by rfl) (fun wS hv => ?_) hS ?_
                rotate_left
                · obtain ⟨k1, k2⟩ := hv
                  go_simp
                  all_goals with_reducible rfl
                try simp only [Act.put, List.setIfInBounds_toArray, List.set]
                refine until_take 6 (some 68) (u := ?_) rfl rfl (by kernel_rfl) (by kernel_rfl) (by kernel_rfl) (by kernel_rfl) (fun _ _ _ h => h) (by rfl) (fun wS hv => ?_) hS ?_
                rotate_left
                · clear hv
                  go_simp
                  all_goals with_reducible rfl
                try simp only [Act.put, List.setIfInBounds_toArray, List.set]
                refine until_take 7 (some 69) (u := ?_) rfl rfl (by kernel_rfl) (by kernel_rfl) (by kernel_rfl) (by kernel_rfl) (fun _ _ _ h => h) (by rfl) (fun wS hv => ?_) hS ?_
                rotate_left
                · clear hv
                  go_simp
                  all_goals with_reducible rfl
                try simp only [Act.put, List.setIfInBounds_toArray, List.set]
                refine until_last (by kernel_rfl) rfl (by kernel_rfl) (fun K hK => ?_)
                have y0 := HY0
                have y1 := HY1
                go_simp
                refine hK.out _ _ ?_
                clear hK K y0 y1
                have hd3 := HSet.out.1
                have t3 := HT2.out.drew.trans HSet.out.2
                rw [← HST.out] at hd3
                have HD3 := Lib.hid hd3
                have T3 := Lib.hid t3
                clear hd3 t3 d0 d1 x0 HY0 HY1 hS
                go_wp2
                go_roundw
                case rel => exact ⟨j + 1, by omega, by go_num, HD3.out, T3.out⟩
                case measure => simp [intOf]; omega
              · rw [if_neg htorn] at hst
                have HST := Lib.hid hst
                have htb : ((j : Int) == torn) = false := by simpa using htorn
                clear hst hd2 ht2 hu hk hx hcell how hxh hx0 hwt hdn hso hB2 hbel hD hz hkl0 htorn
                go_wp2_with fail
                have HD2 := HD1
                have HT2 := HT1
                generalize wr.alloc (.cells #[.int .i64 (k : Int), str t] 91) = w1 at HD1 HD2 HT1 HT2 X1 ⊢
                obtain ⟨x, hxx⟩ : ∃ x, wr.heap.size = x := ⟨_, rfl⟩
                rw [hxx] at X1 ⊢
                have x0 : w1.cell? ⟨x, 0, none⟩ = some (.int .i64 (k : Int)) := X1.out.cell 0
                clear d0 d1 HD1 HT1 hxx hzc e1 e2 kcell lh lgs
                have hkl : k < (safeL D).length := by rw [safeL_length]; have := HDN.out; have := HN.out; omega
                obtain ⟨HY0, HY1⟩ := (HD2.out.drew).rowcell hkl
                obtain ⟨d0, d1, -⟩ := ref_cells HD2.out
                have HSet := Lib.hid (IsRef.setSafe (t := t) HD2.out.drew hkl)
                clear hkl
                refine until_begin 8 (fun w' => w'.cell? ⟨rh, 0, none⟩ = some (.slice (some ⟨gs, 0, none⟩) N cS) ∧ w'.cell? ⟨x, 0, none⟩ = some (.int .i64 (k : Int))) (by kernel_rfl) ⟨d0, x0⟩ (fun hS => ?_)
                refine until_take 0 (some 62) (u := ?_) rfl rfl (by kernel_rfl) (by kernel_rfl) (by kernel_rfl) (by kernel_rfl) (fun _ _ _ h => h) (by rfl) (fun wS hv => ?_) hS ?_
                rotate_left
                · clear hv
                  go_simp
                  all_goals with_reducible rfl
                try simp only [Act.put, List.setIfInBounds_toArray, List.set]
                refine until_take 1 (some 63) (u := ?_) rfl rfl (by kernel_rfl) (by kernel_rfl) (by kernel_rfl) (by kernel_rfl) (fun _ _ _ h => h) (by rfl) (fun wS hv => ?_) hS ?_
                rotate_left
                · clear hv
                  go_simp
                  all_goals with_reducible rfl
                try simp only [Act.put, List.setIfInBounds_toArray, List.set]
                refine until_take 2 (some 64) (u := ?_) rfl rfl (by kernel_rfl) (by kernel_rfl) (by kernel_rfl) (by kernel_rfl) (fun _ _ _ h => h) (by rfl) (fun wS hv => ?_) hS ?_
                rotate_left
                · clear hv
                  go_simp
                  all_goals with_reducible rfl
                try simp only [Act.put, List.setIfInBounds_toArray, List.set]
                refine until_take 3 (some 65) (u := ?_) rfl rfl (by kernel_rfl) (by kernel_rfl) (by kernel_rfl) (by kernel_rfl) (fun _ _ _ h => h) (by rfl) (fun wS hv => ?_) hS ?_
                rotate_left
                · obtain ⟨k1, k2⟩ := hv
                  go_simp
                  all_goals with_reducible rfl
                try simp only [Act.put, List.setIfInBounds_toArray, List.set]
                refine until_take 4 (some 66) (u := ?_) rfl rfl (by kernel_rfl) (by kernel_rfl) (by kernel_rfl) (by kernel_rfl) (fun _ _ _ h => h) (by rfl) (fun wS hv => ?_) hS ?_
                rotate_left
                · clear hv
                  go_simp
                  all_goals with_reducible rfl
                try simp only [Act.put, List.setIfInBounds_toArray, List.set]
                refine until_take 5 (some 67) (u := ?_) rfl rfl (by kernel_rfl) (by kernel_rfl) (by kernel_rfl) (by kernel_rfl) (fun _ _ _ h => h) (by rfl) (fun wS hv => ?_) hS ?_
                rotate_left
                · obtain ⟨k1, k2⟩ := hv
                  go_simp
                  all_goals with_reducible rfl
                try simp only [Act.put, List.setIfInBounds_toArray, List.set]
                refine until_take 6 (some 68) (u := ?_) rfl rfl (by kernel_rfl) (by kernel_rfl) (by kernel_rfl) (by kernel_rfl) (fun _ _ _ h => h) (by rfl) (fun wS hv => ?_) hS ?_
                rotate_left
                · clear hv
                  go_simp
                  all_goals with_reducible rfl
                try simp only [Act.put, List.setIfInBounds_toArray, List.set]
                refine until_take 7 (some 69) (u := ?_) rfl rfl (by kernel_rfl) (by kernel_rfl) (by kernel_rfl) (by kernel_rfl) (fun _ _ _ h => h) (by rfl) (fun wS hv => ?_) hS ?_
                rotate_left
                · clear hv
                  go_simp
                  all_goals with_reducible rfl
                try simp only [Act.put, List.setIfInBounds_toArray, List.set]
                refine until_last (by kernel_rfl) rfl (by kernel_rfl) (fun K hK => ?_)
                have y0 := HY0
                have y1 := HY1
                go_simp
                refine hK.out _ _ ?_
                clear hK K y0 y1
                have hd3 := HSet.out.1
                have t3 := HT2.out.drew.trans HSet.out.2
                rw [← HST.out] at hd3
                have HD3 := Lib.hid hd3
                have T3 := Lib.hid t3
                clear hd3 t3 d0 d1 x0 HY0 HY1 hS
                go_wp2
                go_roundw
                case rel => exact ⟨j + 1, by omega, by go_num, HD3.out, T3.out⟩
                case measure => simp [intOf]; omega
          · have hjki : (ks.length : Int) ≤ (j : Int) := by omega
            unfold crash1 at hst
            rw [List.getElem?_eq_none (by omega), if_neg (by simp)] at hst
            rw [← hst] at hd2
            have HD2 := Lib.hid hd2
            have HT2 := Lib.hid ht2
            clear hst hd2 ht2 hx hcell how hxh htl hx0 hwt hdn hso hB2 e1 e2
            go_wp2_with fail
            go_roundw
            case rel => exact ⟨j + 1, by omega, by go_num, HD2.out, HT2.out⟩
            case measure => simp [intOf]; omega
        · obtain rfl : j = l.length := by omega
          obtain ⟨d0, d1, -⟩ := ref_cells hd2
          have f1 := hd2.1.frozen 1
          have f2 := hd2.1.frozen 2
          have f3 := hd2.1.frozen 3
          obtain ⟨-, -, d2, d3, -⟩ := ref_cells hd2
          have HD2 := Lib.hid hd2
          have HT2 := Lib.hid ht2
          have how := hd2.2.2.1
          rw [hwt] at how
          obtain ⟨p3, c3, hrv⟩ := how.form
          subst hrv
          clear hd2 ht2 how hwt hdn hso hB2
          go_wp2_with fail
          go_end0
          have hd3 := IsRef.setWaits (rv2 := .slice none 0 0) (L := []) HD2.out.1 HD2.out.2.1 (OwnW.none _ _) HD2.out.2.2.2
          obtain ⟨hd4, t4⟩ := IsRef.set (i := 2) (u := .bool true) (d' := { crashN ks torn cc d l l.length with waits := [], on := true }) hd3 rfl rfl rfl rfl
          obtain ⟨hd5, t5⟩ := IsRef.set (i := 3) (u := .bool false) (d' := { crashN ks torn cc d l l.length with waits := [], on := true, armed := false }) hd4 rfl rfl rfl rfl
          have hfd : ({ crashN ks torn cc d l l.length with waits := [], on := true, armed := false } : Dev) = crashD ks torn cc d := by unfold crashD; rw [HL.out]
          rw [hfd] at hd5
          exact ⟨rfl, _, hd5, (((HT2.out.trans (RTouch.of_grown (upd_set wr rh 1 _) (.inl rfl))).to_nil).trans t4).trans t5⟩
end Go.Proofs.Ytiighehibiijcaa

namespace Go.Proofs.Ytiighehibiijcaa
open Go.RowKit
set_option linter.unusedSimpArgs false
set_option linter.unnecessarySimpa false
set_option linter.unusedVariables false

theorem safeL_new (n : Int) : safeL (newD n) = List.replicate n.toNat zero64 := by
  refine List.ext_getElem (by simp [safeL_length, newD]) fun i h1 h2 => ?_
  rw [safeL_at h1, List.getElem_replicate]
  rfl
theorem refNew_bad (w : World) (n : Int) (h : ¬ (1 ≤ n ∧ n ≤ 4096)) :
    Calls Try.prog 28 #[.int .i64 n] w fun e w' => e = .returned (.pointer none) ∧ w = w' := by
  by_cases h0 : n < 1
  · go_enter Try.func28, Try.ntmps28
    go_wp2_with fail
    go_ret
    exact ⟨rfl, rfl⟩
  · have d2 : 4096 < n := by omega
    go_enter Try.func28, Try.ntmps28
    go_wp2_with fail
    go_ret
    exact ⟨rfl, rfl⟩
set_option maxRecDepth 100000 in
set_option maxHeartbeats 3200000 in
theorem refNew_any (w : World) (n : Int) (h0 : 1 ≤ n) (h1 : n ≤ 4096) :
    Calls Try.prog 28 #[.int .i64 n] w fun e w' => ∃ sv, e = .returned (.pointer (some ⟨w.heap.size, 0, none⟩)) ∧ IsRef w' w.heap.size sv (.slice none 0 0) w.heap.size (newD n) ∧ Below w.heap.size w w' := by
  obtain ⟨i0, hi, hz0, hz1, hz2⟩ : ∃ i, Try.prog.info? 9 = some i ∧ i.zero = some (.string ByteArray.empty) ∧ i.size = 1 ∧ i.bytes = 16 := info_parts Try.infoStr
  have d1 : decide (n < 1) = false := by simp; omega
  have d2 : decide (4096 < n) = false := by simp; omega
  obtain ⟨m, rfl⟩ := Int.eq_ofNat_of_zero_le (show 0 ≤ n by omega)
  obtain ⟨B, hB⟩ : ∃ B, w.heap.size = B := ⟨_, rfl⟩
  have HBB := Lib.hid hB
  go_enter Try.func28, Try.ntmps28
  go_wp2_with fail
  have X0 := Lib.hid (Blk.new w 56 #[.slice none 0 0, .slice none 0 0, .bool true, .bool false, .int .i64 0, .int .i64 0])
  have B0 := Lib.hid ((Below.refl B w).alloc (by omega) (.cells #[.slice none 0 0, .slice none 0 0, .bool true, .bool false, .int .i64 0, .int .i64 0] 56))
  generalize w.alloc (.cells #[.slice none 0 0, .slice none 0 0, .bool true, .bool false, .int .i64 0, .int .i64 0] 56) = w1 at X0 B0 ⊢
  obtain ⟨rh, hrh⟩ : ∃ rh, B = rh := ⟨_, rfl⟩
  rw [hB] at X0
  rw [hrh] at X0 ⊢
  have hBr : B ≤ rh := by omega
  have HRH := Lib.hid hrh
  clear hB hrh
  go_loopw [4] (fun i wr => ∃ (j : Nat) (sv : Value), j ≤ m ∧ i = .int .i64 j ∧ Blk wr rh 56 #[sv, .slice none 0 0, .bool true, .bool false, .int .i64 0, .int .i64 0] ∧ OwnS wr B sv (List.replicate j zero64) ∧ Below B w wr) (fun i _ => m - (intOf i).toNat)
  case atStart => exact ⟨0, _, Nat.zero_le _, rfl, X0.out, OwnS.none _ _, B0.out⟩
  case round =>
    obtain ⟨j, sv, hj, rfl, hb, ho, hbl⟩ := hrel
    have HB := Lib.hid hb
    have HO := Lib.hid ho
    have HBL := Lib.hid hbl
    clear hb ho hbl
    by_cases hlt : j < m
    · have hji : (j : Int) < (m : Int) := by omega
      have HMK := Lib.hid (make64 wr.drew)
      have HCV := Lib.hid (show (convert 40 9 (.slice (some ⟨wr.heap.size, 0, none⟩) 64 64)).run Try.prog (wr.alloc (.cells row64 5)).drew = .ok (str zero64) (wr.alloc (.cells row64 5)).drew from conv64 wr.drew)
      have lr := HB.out.lt
      have hwB : w.heap.size = B := HBB.out
      go_wp2_with fail
      refine until_begin 11 (fun w' => w'.cell? ⟨rh, 0, none⟩ = some sv) (by kernel_rfl) (HB.out.drew.cell 0) (fun hS => ?_)
      refine until_take 0 (some 18) (u := ?_) rfl rfl (by kernel_rfl) (by kernel_rfl) (by kernel_rfl) (by kernel_rfl) (fun _ _ _ h => h) (by rfl) (fun wS hv => ?_) hS ?_
      rotate_left
      · clear hv
        go_simp
        all_goals with_reducible rfl
      try simp only [Act.put, List.setIfInBounds_toArray, List.set]
      refine until_take 1 (some 19) (u := ?_) rfl rfl (by kernel_rfl) (by kernel_rfl) (by kernel_rfl) (by kernel_rfl) (fun _ _ _ h => h) (by rfl) (fun wS hv => ?_) hS ?_
      rotate_left
      · clear hv
        go_simp
        all_goals with_reducible rfl
      try simp only [Act.put, List.setIfInBounds_toArray, List.set]
      refine until_take 2 (some 20) (u := ?_) rfl rfl (by kernel_rfl) (by kernel_rfl) (by kernel_rfl) (by kernel_rfl) (fun _ _ _ h => h) (by rfl) (fun wS hv => ?_) hS ?_
      rotate_left
      · clear hv
        go_simp
        all_goals with_reducible rfl
      try simp only [Act.put, List.setIfInBounds_toArray, List.set]
      refine until_take 3 (some 21) (u := ?_) rfl rfl (by kernel_rfl) (by kernel_rfl) (by kernel_rfl) (by kernel_rfl) (fun _ _ _ h => h) (by rfl) (fun wS hv => ?_) hS ?_
      rotate_left
      · clear hv
        go_simp
        all_goals with_reducible rfl
      try simp only [Act.put, List.setIfInBounds_toArray, List.set]
      refine until_take 4 (some 22) (u := ?_) rfl rfl (by kernel_rfl) (by kernel_rfl) (by kernel_rfl) (by kernel_rfl) (fun _ _ _ h => h) (by rfl) (fun wS hv => ?_) hS ?_
      rotate_left
      · obtain k1 := hv
        go_simp
        all_goals with_reducible rfl
      try simp only [Act.put, List.setIfInBounds_toArray, List.set]
      refine until_one 5 (by kernel_rfl) rfl (fun K hK => ?_)
      refine step_value (d := some 23) (by rfl) rfl (r := .slice (some ⟨wr.drew.heap.size, 0, none⟩) 64 64) (w1 := wr.drew.alloc (.cells row64 5)) (by go_simp; rw [HMK.out]; rfl) ?_
      refine hK.out _ _ ((HB.out.drew.alloc _).cell 0) (fun hS => ?_)
      clear hK K
      try simp only [Act.put, List.setIfInBounds_toArray, List.set]
      refine until_one 6 (by kernel_rfl) rfl (fun K hK => ?_)
      refine step_value (d := some 24) (by rfl) rfl (r := str zero64) (w1 := wr.drew.alloc (.cells row64 5)) (by go_simp; rw [HCV.out]; rfl) ?_
      refine hK.out _ _ ((HB.out.drew.alloc _).cell 0) (fun hS => ?_)
      clear hK K
      try simp only [Act.put, List.setIfInBounds_toArray, List.set]
      refine until_one 7 (by kernel_rfl) rfl (fun K hK => ?_)
      refine step_value (d := some 25) (by rfl) rfl (r := .slice (some ⟨wr.heap.size + 1, 0, none⟩) 1 1) (w1 := (wr.drew.alloc (.cells row64 5)).alloc (.cells #[str zero64] 9)) (by go_simp) ?_
      refine hK.out _ _ (((HB.out.drew.alloc _).alloc _).cell 0) (fun hS => ?_)
      clear hK K
      try simp only [Act.put, List.setIfInBounds_toArray, List.set]
      refine until_one 8 (by kernel_rfl) rfl (fun K hK => ?_)
      have HO1 : OwnS ((wr.drew.alloc (.cells row64 5)).alloc (.cells #[str zero64] 9)) B sv (List.replicate j zero64) := OwnS.alloc (OwnS.alloc (OwnS.drew HO.out) _) _
      have hN : Blk ((wr.drew.alloc (.cells row64 5)).alloc (.cells #[str zero64] 9)) (wr.heap.size + 1) 9 #[str zero64] := Blk.new_at (by simp) _ _
      have HO1b : ((wr.drew.alloc (.cells row64 5)).alloc (.cells #[str zero64] 9)).ownsRow B 9 1 sv j ((List.replicate j zero64).map str) := by have := HO1; unfold OwnS at this; rw [List.length_replicate] at this; exact this
      refine step_append_lies _ rfl (.tmp 22) (.tmp 25) 54 rfl B 9 i0 (.string ByteArray.empty) 1 16 Try.underlying54 hi hz0 hz1 hz2 rfl (by decide) sv j ((List.replicate j zero64).map str) rfl HO1b ⟨wr.heap.size + 1, 0, none⟩ 1 1 [str zero64] rfl rfl (World.news_of_block hN) (by simp [Value.oneCell']) (by decide) (by unfold maxLen; omega) (by omega) (by simp; omega) _ rfl ?_
      intro gv c2 w2 hown hgrow hat hlt
      have HB2 := Lib.hid (Blk.grown ((HB.out.drew.alloc (.cells row64 5)).alloc (.cells #[str zero64] 9)) hgrow (OwnS.ne HO1 ((HB.out.drew.alloc (.cells row64 5)).alloc (.cells #[str zero64] 9)) (by decide)).symm)
      have HO2 := Lib.hid (OwnS.push (L := List.replicate j zero64) (by rw [List.length_replicate]; exact hown))
      have HG2 := Lib.hid hgrow
      have HBB : Below B w w2 := (((HBL.out.drew).alloc (show B ≤ wr.heap.size by have := HBL.out.size; omega) (.cells row64 5)).alloc (by simp; have := HBL.out.size; omega) (.cells #[str zero64] 9)).trans ⟨hgrow.os, hgrow.tape, hgrow.output, hgrow.size, fun i hi => hgrow.block i (by simp; have := HBL.out.size; omega) (fun e => by have := (HO1.own_lt e.symm).2; omega)⟩
      clear hown hgrow hat hN HO1 HO1b
      refine hK.out _ _ (HB2.out.cell 0) (fun hS => ?_)
      clear hK K
      try simp only [Act.put, List.setIfInBounds_toArray, List.set]
      refine until_one 9 (by kernel_rfl) rfl (fun K hK => ?_)
      refine step_value (d := some 27) (by rfl) rfl (r := .pointer (some ⟨rh, 0, none⟩)) (w1 := w2) (by go_simp) ?_
      refine hK.out _ _ hS (fun hS => ?_)
      clear hK K
      try simp only [Act.put, List.setIfInBounds_toArray, List.set]
      refine until_take 10 (some 28) (u := ?_) rfl rfl (by kernel_rfl) (by kernel_rfl) (by kernel_rfl) (by kernel_rfl) (fun _ _ _ h => h) (by rfl) (fun wS hv => ?_) hS ?_
      rotate_left
      · clear hv
        go_simp
        all_goals with_reducible rfl
      try simp only [Act.put, List.setIfInBounds_toArray, List.set]
      refine until_last (by kernel_rfl) rfl (by kernel_rfl) (fun K hK => ?_)
      have q0 := HB2.out.frozen 0
      go_simp
      refine hK.out _ _ ?_
      clear hK K
      clear hS HB
      have HB3 := Lib.hid (HB2.out.set_ 0 (.slice (some ⟨gv, 0, none⟩) (j + 1) c2))
      have HO3 := Lib.hid (HO2.out.grown (upd_set w2 rh 0 (.slice (some ⟨gv, 0, none⟩) (j + 1) c2)) (.inr (HO2.out.ne HB2.out (by decide))))
      have HB4 := Lib.hid (HBB.setCell (p := ⟨rh, 0, none⟩) hBr (.slice (some ⟨gv, 0, none⟩) (j + 1) c2))
      generalize w2.setCell ⟨rh, 0, none⟩ (.slice (some ⟨gv, 0, none⟩) (j + 1) c2) = w3 at HB3 HO3 HB4 ⊢
      go_wp2
      go_roundw
      case rel => exact ⟨j + 1, _, by omega, by go_num, HB3.out, by rw [List.replicate_succ']; exact HO3.out, HB4.out⟩
      case measure => simp [intOf]; omega
    · obtain rfl : j = m := by omega
      go_wp2_with fail
      go_ret
      refine ⟨sv, by rw [HBB.out, HRH.out]; rfl, ?_, by rw [HBB.out]; exact HBL.out⟩
      rw [HBB.out]
      refine ⟨by rw [HRH.out]; exact HB.out, ?_, OwnW.none _ _, Nat.le_refl _⟩
      rw [safeL_new]
      exact HO.out
end Go.Proofs.Ytiighehibiijcaa

namespace Go.Proofs.Ytiighehibiijcaa
open Go.RowKit
set_option linter.unusedSimpArgs false
set_option linter.unnecessarySimpa false
set_option linter.unusedVariables false

/-- The frame: what the variables hold; us: all else. -/
def FrC (v0 v7 v8 : Value) (us : Nat → Value) : Act := ⟨#[v0, us 1, us 2, us 3, us 4, us 5, us 6, v7, v8, us 9, us 10, us 11, us 12, us 13, us 14, us 15, us 16, us 17, us 18, us 19, us 20, us 21, us 22, us 23, us 24, us 25, us 26, us 27, us 28, us 29, us 30, us 31, us 32, us 33, us 34, us 35, us 36, us 37, us 38, us 39, us 40, us 41, us 42, us 43, us 44, us 45, us 46, us 47, us 48, us 49, us 50, us 51, us 52, us 53, us 54, us 55, us 56, us 57, us 58, us 59, us 60, us 61, us 62, us 63, us 64, us 65, us 66, us 67, us 68, us 69, us 70, us 71, us 72, us 73, us 74, us 75, us 76, us 77, us 78, us 79, us 80, us 81, us 82, us 83, us 84, us 85, us 86, us 87, us 88, us 89, us 90, us 91, us 92, us 93, us 94, us 95, us 96, us 97, us 98, us 99, us 100, us 101, us 102, us 103, us 104, us 105, us 106, us 107, us 108, us 109, us 110, us 111, us 112, us 113, us 114, us 115, us 116, us 117, us 118, us 119, us 120, us 121, us 122, us 123, us 124, us 125, us 126, us 127, us 128, us 129, us 130, us 131, us 132, us 133, us 134], []⟩
/-- The frame: what the variables hold; us: all else. -/
def FrD (v0 v7 v8 v9 : Value) (us : Nat → Value) : Act := ⟨#[v0, us 1, us 2, us 3, us 4, us 5, us 6, v7, v8, v9, us 10, us 11, us 12, us 13, us 14, us 15, us 16, us 17, us 18, us 19, us 20, us 21, us 22, us 23, us 24, us 25, us 26, us 27, us 28, us 29, us 30, us 31, us 32, us 33, us 34, us 35, us 36, us 37, us 38, us 39, us 40, us 41, us 42, us 43, us 44, us 45, us 46, us 47, us 48, us 49, us 50, us 51, us 52, us 53, us 54, us 55, us 56, us 57, us 58, us 59, us 60, us 61, us 62, us 63, us 64, us 65, us 66, us 67, us 68, us 69, us 70, us 71, us 72, us 73, us 74, us 75, us 76, us 77, us 78, us 79, us 80, us 81, us 82, us 83, us 84, us 85, us 86, us 87, us 88, us 89, us 90, us 91, us 92, us 93, us 94, us 95, us 96, us 97, us 98, us 99, us 100, us 101, us 102, us 103, us 104, us 105, us 106, us 107, us 108, us 109, us 110, us 111, us 112, us 113, us 114, us 115, us 116, us 117, us 118, us 119, us 120, us 121, us 122, us 123, us 124, us 125, us 126, us 127, us 128, us 129, us 130, us 131, us 132, us 133, us 134], []⟩

/-- What a call on the document's log may touch. -/
structure RTouchL (h rh : Nat) (sv : Value) (w : World) (rv : Value) (w' : World) (rv' : Value) : Prop where
  os : w'.os = w.os
  tape : w'.tape = w.tape
  output : w'.output = w.output
  size : w.heap.size ≤ w'.heap.size
  block : ∀ i, i < w.heap.size → i ≠ h → i ≠ rh → sv.ownBlock ≠ some i → rv.ownBlock ≠ some i → w'.heap[i]? = w.heap[i]?
  own : ∀ i, rv'.ownBlock = some i → rv.ownBlock = some i ∨ w.heap.size ≤ i
section
variable {h rh : Nat} {sv rv rv' rv2 : Value} {w w' w2 : World}
theorem RTouchL.of (t : RTouch rh sv w rv w' rv') : RTouchL h rh sv w rv w' rv' := ⟨t.os, t.tape, t.output, t.size, fun i hi _ h1 h2 h3 => t.block i hi h1 h2 h3, t.own⟩
theorem RTouchL.ofBelow (hb : Below w.heap.size w w') : RTouchL h rh sv w rv w' rv := ⟨hb.os, hb.tape, hb.output, hb.size, fun i hi _ _ _ _ => hb.block i hi, fun i hi => .inl hi⟩
theorem RTouchL.trans (t : RTouchL h rh sv w rv w' rv') (u : RTouchL h rh sv w' rv' w2 rv2) : RTouchL h rh sv w rv w2 rv2 :=
  ⟨u.os.trans t.os, u.tape.trans t.tape, u.output.trans t.output, Nat.le_trans t.size u.size, fun i hi h0 h1 h2 h3 => (u.block i (Nat.lt_of_lt_of_le hi t.size) h0 h1 h2 (fun e => by
    rcases t.own i e with e | e
    · exact h3 e
    · omega)).trans (t.block i hi h0 h1 h2 h3), fun i hi => by
    rcases u.own i hi with e | e
    · exact t.own i e
    · exact .inr (Nat.le_trans t.size e)⟩
theorem RTouchL.set (t : RTouchL h rh sv w rv w' rv') (j : Nat) (u : Value) : RTouchL h rh sv w rv (w'.setCell ⟨h, j, none⟩ u) rv' :=
  ⟨t.os, t.tape, t.output, by simpa [World.setCell] using t.size, fun i hi h0 h1 h2 h3 => (Below.heap_setCell w' ⟨h, j, none⟩ u i h0).trans (t.block i hi h0 h1 h2 h3), t.own⟩
end
theorem IsRef.setBlk {w : World} {rh x : Nat} {t : TypeId} {cs : Array Value} {sv rv : Value} {B : Nat} {d : Dev} (hd : IsRef w rh sv rv B d) (hx : Blk w x t cs) (h1 : t ≠ 56) (h2 : t ≠ 91) (h3 : t ≠ 9) (i : Nat) (u : Value) : IsRef (w.setCell ⟨x, i, none⟩ u) rh sv rv B d := by
  have hg := upd_set w x i u
  exact ⟨hd.1.grown hg (by simpa using blk_ne hd.1 hx h1.symm), hd.2.1.grown hg (.inr (hd.2.1.ne hx h3)), hd.2.2.1.grown hg (.inr (hd.2.2.1.ne hx h2)), hd.2.2.2⟩
/-- The log's bytes, filled up with zeros to whole sectors. -/
def padN (n : Nat) : Nat := (64 - n % 64) % 64
theorem pad_chunk (A : List UInt8) {j a : Nat} (hj : j = padN A.length) (ha : 64 * a < A.length) : List.take 64 (List.drop (64 * a) (A ++ List.replicate j 0)) = chunk (A.drop (64 * a)) := by
  have hlen : A.length + j = 64 * ((A.length + 63) / 64) := by rw [hj]; unfold padN; omega
  refine List.ext_getElem? fun i => ?_
  by_cases hi : i < 64
  · rw [List.getElem?_take_of_lt hi, List.getElem?_drop]
    unfold chunk
    by_cases hl : 64 * a + i < A.length
    · rw [List.getElem?_append_left hl, List.getElem?_append_left (by rw [List.length_take, List.length_drop]; omega), List.getElem?_take_of_lt hi, List.getElem?_drop]
    · have hm : Nat.min (A.drop (64 * a)).length 64 = (A.drop (64 * a)).length := by
        show min _ _ = _
        rw [List.length_drop]; omega
      rw [List.getElem?_append_right (by omega), List.getElem?_append_right (by rw [List.length_take, List.length_drop]; omega), hm, List.getElem?_drop, List.length_take, List.length_drop]
      unfold zero64
      rw [List.getElem?_replicate, List.getElem?_replicate, if_pos (by omega), if_pos (by omega)]
  · rw [List.getElem?_eq_none (by rw [List.length_take]; omega), List.getElem?_eq_none (by rw [chunk_length]; omega)]

set_option maxRecDepth 100000 in
set_option maxHeartbeats 8000000 in
theorem refCommit_goes (w : World) (h rh : Nat) (sv rv : Value) (B : Nat) (d : Dev) (x : Log) (L rec : List UInt8) (hx : IsRL w h rh x.mark L false) (hd : IsRef w rh sv rv B d) (hbr : x.broken = false) (hfin : x.fin = finB L) (hM : x.mark.2.1 = (L.length : Int))
    (hl : rec.length ≤ 1048576) (n0 : 3 ≤ d.n) (n1 : d.n ≤ 4096) (e0 : 0 ≤ x.mark.1) (e1 : x.mark.1 < 4611686018427387904) (c0 : 0 ≤ x.mark.2.2) (c1 : x.mark.2.2 < 4611686018427387904) (hr : ¬ roomD d - x.mark.2.1 < ((tRec rec).length : Nat))
    (j : Nat) (hp : OkP d.n j d) (hj : j ≤ 100000) :
    Calls Try.prog 46 #[.pointer (some ⟨h, 0, none⟩), str rec] w fun e w' => ∃ rv' L', e = .returned (.int .i64 (commitS d x (tRec rec)).2.2) ∧ IsRef w' rh sv rv' B (commitS d x (tRec rec)).2.1 ∧
      IsRL w' h rh (commitS d x (tRec rec)).1.mark L' (commitS d x (tRec rec)).1.broken ∧ (commitS d x (tRec rec)).1.fin = finB L' ∧ (commitS d x (tRec rec)).1.mark.2.1 = (L'.length : Int) ∧ RTouchL h rh sv w rv w' rv' := by
  have hrl : (tRec rec).length ≤ 300000 := by unfold roomD at hr; omega
  have hLl : L.length ≤ 300000 := by unfold roomD at hr; omega
  have HX := Lib.hid hx
  have HD := Lib.hid hd
  obtain ⟨x0, -, -, -, -, x5⟩ := rl_cells hx
  clear hx hd
  go_enter Try.func46, Try.ntmps46
  go_wp2_with fail
  refine (refPut_any rec _ hl).mono ?_
  rintro e w1 ⟨rfl, hb1⟩
  have HX1 := Lib.hid (show IsRL w1 h rh x.mark L false from Blk.step HX.out hb1)
  have HD1 := Lib.hid (HD.out.step hb1)
  have HT1 := Lib.hid (RTouchL.ofBelow (h := h) (rh := rh) (sv := sv) (rv := rv) hb1)
  clear hb1 x0 x5
  obtain ⟨r, hrr⟩ : ∃ r, tRec rec = r := ⟨_, rfl⟩
  rw [hrr] at hrl hr
  have HRR := Lib.hid hrr
  obtain ⟨R0, hR0⟩ : ∃ R, roomD d - (L.length : Nat) = R := ⟨_, rfl⟩
  have HR0 := Lib.hid hR0
  have hRr : ¬ R0 < (r.length : Int) := by rw [← hR0, ← hM]; omega
  rw [hrr]
  clear hrr hR0
  go_wp2_with fail
  refine (refRoom_any _ h rh sv rv B d x.mark L false HX1.out HD1.out (by omega) n1 (by omega)).mono ?_
  rw [HR0.out]
  rintro e w2 ⟨rfl, q, rfl⟩
  have HX2 := Lib.hid (show IsRL (w1.drewN q) h rh x.mark L false from HX1.out)
  have HD2 := Lib.hid (HD1.out.step (below_drewN w1 q))
  have HT2 := Lib.hid (HT1.out.trans (RTouchL.ofBelow (below_drewN w1 q)))
  generalize w1.drewN q = w2 at HX2 HD2 HT2 ⊢
  obtain ⟨x0, x1, x2, x3, x4, x5⟩ := rl_cells HX2.out
  have hcat : ¬ 9223372036854775807 < L.length + r.length := by omega
  go_upto_block 0 with fail
  obtain ⟨A, hA⟩ : ∃ A, L ++ r = A := ⟨_, rfl⟩
  have hAl : A.length = L.length + r.length := by rw [← hA, List.length_append]
  have HAA := Lib.hid hA
  rw [hA]
  clear hA hcat
  refine wp_cut (fun a' w' => ∃ Z, Z = A ++ List.replicate (padN A.length) 0 ∧ w2 = w' ∧ ∃ us, a' = FrC (.pointer (some ⟨h, 0, none⟩)) (str A) (str Z) us) ?_ ?_
  rotate_left
  · intro J1 K1 hJ1 hK1
    go_wp2_with fail
    refine wp_loop_ghost_k (fun k' a' w' => ∃ (i : Nat) (Z : List UInt8), i + k' = padN A.length ∧ Z = A ++ List.replicate i 0 ∧ w2 = w' ∧ ∃ us, a' = FrC (.pointer (some ⟨h, 0, none⟩)) (str A) (str Z) us) (padN A.length) ?_ ?_
    · exact ⟨0, A, by omega, by simp, rfl, meet_us (by kernel_rfl)⟩
    · intro gk a0 wr hinv
      obtain ⟨i, Z, hi, hZ, rfl, us, rfl⟩ := hinv
      intro J2 K2 hJ2 hK2
      unfold FrC
      have hZl : Z.length = A.length + i := by rw [hZ, List.length_append, List.length_replicate]
      have HZ := Lib.hid hZ
      have hpd : padN A.length < 64 := by unfold padN; omega
      clear hZ
      by_cases hlt : i < padN A.length
      · have hne : (Z.length : Int) % 64 ≠ 0 := by
          rw [hZl]
          unfold padN at hlt hpd
          omega
        have q1 : ((Z.length : Int) % 64 != 0) = true := bne_iff_ne.2 hne
        have q2 : ((Z.length : Int) % 64 == 0) = false := beq_eq_false_iff_ne.2 hne
        have hcat : ¬ 9223372036854775807 < Z.length + 1 := by omega
        have HLT := Lib.hid hlt
        clear hne hZl hlt
        go_wp2_with fail
        refine Handed.intro (gk - 1) (by have := HLT.out; omega) (hJ2 _ _ _ ⟨i + 1, Z ++ [0], by have := HLT.out; omega, by rw [HZ.out, List.append_assoc, List.replicate_succ'], rfl, meet_us (by kernel_rfl)⟩)
      · obtain rfl : i = padN A.length := by omega
        have hne : (Z.length : Int) % 64 = 0 := by
          rw [hZl]
          unfold padN
          omega
        have q1 : ((Z.length : Int) % 64 != 0) = false := by rw [hne]; rfl
        have q2 : ((Z.length : Int) % 64 == 0) = true := by rw [hne]; rfl
        clear hne
        clear hZl
        go_wp2_with fail
        exact meet_at hJ1 ⟨Z, HZ.out, rfl, meet_us (by kernel_rfl)⟩
  · rintro a1 w3 ⟨Z, hZ, rfl, us, rfl⟩
    unfold FrC
    have HZ := Lib.hid hZ
    have hZl : Z.length = 64 * ((A.length + 63) / 64) := by rw [hZ, List.length_append, List.length_replicate]; unfold padN; omega
    clear hZ
    go_upto_block 2 with fail
    obtain ⟨T, hT⟩ : ∃ T, L.length / 64 = T := ⟨_, rfl⟩
    obtain ⟨s, hs⟩ : ∃ s, x.fin ++ r = s := ⟨_, rfl⟩
    have hsA : s = A.drop (64 * T) := by rw [← hs, hfin, finB_append, hT, HAA.out]
    have hat : atL x = 2 + (T : Int) := by unfold atL; rw [hM, Int.toNat_natCast, hT]
    obtain ⟨k0, hk0⟩ : ∃ k, ksL x r = k := ⟨_, rfl⟩
    have hk1 : k0 = s.length / 64 + 1 := by rw [← hk0, ← hs]; rfl
    have hsl : s.length = A.length - 64 * T := by rw [hsA, List.length_drop]
    have hT1 : (L.length : Int) / 64 = (T : Int) := by omega
    rw [hT1]
    have hk9 : k0 ≤ 10000 := by omega
    have HAT := Lib.hid hat
    have HSS := Lib.hid hs
    have HK0 := Lib.hid hk0
    have HK1 := Lib.hid hk1
    have HSA := Lib.hid hsA
    have HSL := Lib.hid hsl
    have hA1 : A.length ≤ 600000 := by omega
    have hTA : 64 * T ≤ A.length := by omega
    have hAr : (A.length : Int) ≤ (d.n - 2) * 64 := by
      have := HR0.out
      unfold roomD at this
      omega
    have HAR := Lib.hid hAr
    have HAL := Lib.hid hAl
    have HZL := Lib.hid hZl
    clear hT hs hsA hat hk0 hk1 hsl hT1 hAr x0 x1 x2 x3 x4 x5 hAl hZl
    refine wp_cut (fun a' w' => ∃ (rv' : Value) (i : Nat) (D : Dev), putsF k0 d (2 + (T : Int)) s = (D, 0) ∧ i ≤ k0 ∧ IsRef w' rh sv rv' B D ∧ OkP d.n (j + i) D ∧ IsRL w' h rh x.mark L false ∧ RTouchL h rh sv w rv w' rv' ∧ ∃ at' us, a' = FrD (.pointer (some ⟨h, 0, none⟩)) (str A) (str Z) at' us) ?_ ?_
    rotate_left
    · intro J1 K1 hJ1 hK1
      go_wp2_with fail
      refine wp_loop_ghost_k (fun k' a' w' => ∃ (i aa kk : Nat) (rv' : Value) (D : Dev), i + k' = k0 ∧ aa = T + i ∧ putsF k0 d (2 + (T : Int)) s = putsF kk D (2 + (aa : Int)) (A.drop (64 * aa)) ∧ (A.drop (64 * aa)).length ≤ 64 * kk ∧ IsRef w' rh sv rv' B D ∧ OkP d.n (j + i) D ∧ IsRL w' h rh x.mark L false ∧ RTouchL h rh sv w rv w' rv' ∧ ∃ us, a' = FrD (.pointer (some ⟨h, 0, none⟩)) (str A) (str Z) (.int .i64 (aa : Int)) us) k0 ?_ ?_
      · exact ⟨0, T, k0, rv, d, by omega, by omega, by rw [HSA.out], by rw [← HSA.out]; have := HK1.out; omega, HD2.out, hp.le (by omega), HX2.out, HT2.out, meet_us (by kernel_rfl)⟩
      · intro gk a0 wr hinv
        obtain ⟨i, aa, kk, rv1, D, hi, haa, hpf, hkk, hd, hok, hx, ht, us, rfl⟩ := hinv
        intro J2 K2 hJ2 hK2
        unfold FrD
        have HPF := Lib.hid hpf
        have HKK := Lib.hid hkk
        have HDw := Lib.hid hd
        have HOK := Lib.hid hok
        have HXw := Lib.hid hx
        have HTw := Lib.hid ht
        clear hpf hkk hd hok hx ht
        by_cases hlt : aa * 64 < A.length
        · have q1 : (aa : Int) * 64 < (A.length : Int) := by omega
          have q4 : (aa : Int) ≤ 20000 := by omega
          obtain ⟨u, hu⟩ : ∃ u, 64 * aa = u := ⟨_, rfl⟩
          obtain ⟨v, hv⟩ : ∃ v, u + 64 = v := ⟨_, rfl⟩
          have hw1 : IntKind.i64.wrap (u : Int) = (u : Int) := IntWalk.i64_in _ (by omega)
          have hw2 : IntKind.i64.wrap ((u : Int) + 64) = (v : Int) := by rw [show (u : Int) + 64 = (v : Int) by omega]; exact IntWalk.i64_in _ (by omega)
          have hw3 : IntKind.i64.wrap (2 + (aa : Int)) = 2 + (aa : Int) := IntWalk.i64_in _ (by omega)
          have q2 : (v : Int) ≤ (Z.length : Int) := by have := HZL.out; omega
          have q3 : (u : Int) ≤ (v : Int) := by omega
          have q5 : (aa : Int) * 64 = (u : Int) := by omega
          have HCH := Lib.hid (show List.take (v - u) (List.drop u Z) = chunk (A.drop (64 * aa)) by
            rw [show v - u = 64 by omega, ← hu, HZ.out]
            exact pad_chunk A rfl (by omega))
          have HUU := Lib.hid hu
          clear hu hv
          have HQ6 := Lib.hid (show 64 * aa < A.length by omega)
          have HII := Lib.hid (show i < k0 by have := HKK.out; have := HK1.out; have := HSL.out; omega)
          have HAI := Lib.hid haa
          clear haa
          have z0 : wr.cell? ⟨h, 0, none⟩ = some (.pointer (some ⟨rh, 0, none⟩)) := Blk.cell HXw.out 0
          go_wp2_with fail
          refine until_begin 15 (fun w' => w'.cell? ⟨h, 0, none⟩ = some (.pointer (some ⟨rh, 0, none⟩))) (by kernel_rfl) z0 (fun hS => ?_)
          refine until_take 0 (some 54) (u := ?_) rfl rfl (by kernel_rfl) (by kernel_rfl) (by kernel_rfl) (by kernel_rfl) (fun _ _ _ h => h) (by rfl) (fun wS hv => ?_) hS ?_
          rotate_left
          · clear hv
            go_simp
            all_goals with_reducible rfl
          try simp only [Act.put, List.setIfInBounds_toArray, List.set]
          refine until_take 1 (some 55) (u := ?_) rfl rfl (by kernel_rfl) (by kernel_rfl) (by kernel_rfl) (by kernel_rfl) (fun _ _ _ h => h) (by rfl) (fun wS hv => ?_) hS ?_
          rotate_left
          · clear hv
            go_simp
            all_goals with_reducible rfl
          try simp only [Act.put, List.setIfInBounds_toArray, List.set]
          refine until_take 2 (some 56) (u := ?_) rfl rfl (by kernel_rfl) (by kernel_rfl) (by kernel_rfl) (by kernel_rfl) (fun _ _ _ h => h) (by rfl) (fun wS hv => ?_) hS ?_
          rotate_left
          · clear hv
            go_simp
            all_goals with_reducible rfl
          try simp only [Act.put, List.setIfInBounds_toArray, List.set]
          refine until_take 3 (some 57) (u := ?_) rfl rfl (by kernel_rfl) (by kernel_rfl) (by kernel_rfl) (by kernel_rfl) (fun _ _ _ h => h) (by rfl) (fun wS hv => ?_) hS ?_
          rotate_left
          · obtain k1 := hv
            go_simp
            all_goals with_reducible rfl
          try simp only [Act.put, List.setIfInBounds_toArray, List.set]
          refine until_take 4 (some 58) (u := ?_) rfl rfl (by kernel_rfl) (by kernel_rfl) (by kernel_rfl) (by kernel_rfl) (fun _ _ _ h => h) (by rfl) (fun wS hv => ?_) hS ?_
          rotate_left
          · clear hv
            go_simp
            all_goals with_reducible rfl
          try simp only [Act.put, List.setIfInBounds_toArray, List.set]
          refine until_take 5 (some 59) (u := ?_) rfl rfl (by kernel_rfl) (by kernel_rfl) (by kernel_rfl) (by kernel_rfl) (fun _ _ _ h => h) (by rfl) (fun wS hv => ?_) hS ?_
          rotate_left
          · clear hv
            go_simp
            all_goals with_reducible rfl
          try simp only [Act.put, List.setIfInBounds_toArray, List.set]
          refine until_take 6 (some 60) (u := ?_) rfl rfl (by kernel_rfl) (by kernel_rfl) (by kernel_rfl) (by kernel_rfl) (fun _ _ _ h => h) (by rfl) (fun wS hv => ?_) hS ?_
          rotate_left
          · clear hv
            go_simp
            all_goals with_reducible rfl
          try simp only [Act.put, List.setIfInBounds_toArray, List.set]
          refine until_take 7 (some 61) (u := ?_) rfl rfl (by kernel_rfl) (by kernel_rfl) (by kernel_rfl) (by kernel_rfl) (fun _ _ _ h => h) (by rfl) (fun wS hv => ?_) hS ?_
          rotate_left
          · clear hv
            go_simp
            all_goals with_reducible rfl
          try simp only [Act.put, List.setIfInBounds_toArray, List.set]
          refine until_take 8 (some 62) (u := ?_) rfl rfl (by kernel_rfl) (by kernel_rfl) (by kernel_rfl) (by kernel_rfl) (fun _ _ _ h => h) (by rfl) (fun wS hv => ?_) hS ?_
          rotate_left
          · clear hv
            go_simp
            all_goals with_reducible rfl
          try simp only [Act.put, List.setIfInBounds_toArray, List.set]
          refine until_take 9 (some 63) (u := ?_) rfl rfl (by kernel_rfl) (by kernel_rfl) (by kernel_rfl) (by kernel_rfl) (fun _ _ _ h => h) (by rfl) (fun wS hv => ?_) hS ?_
          rotate_left
          · clear hv
            go_simp
            all_goals with_reducible rfl
          try simp only [Act.put, List.setIfInBounds_toArray, List.set]
          refine until_take 10 (some 64) (u := ?_) rfl rfl (by kernel_rfl) (by kernel_rfl) (by kernel_rfl) (by kernel_rfl) (fun _ _ _ h => h) (by rfl) (fun wS hv => ?_) hS ?_
          rotate_left
          · clear hv
            go_simp
            all_goals with_reducible rfl
          try simp only [Act.put, List.setIfInBounds_toArray, List.set]
          refine until_take 11 (some 65) (u := ?_) rfl rfl (by kernel_rfl) (by kernel_rfl) (by kernel_rfl) (by kernel_rfl) (fun _ _ _ h => h) (by rfl) (fun wS hv => ?_) hS ?_
          rotate_left
          · clear hv
            go_simp
            all_goals with_reducible rfl
          try simp only [Act.put, List.setIfInBounds_toArray, List.set]
          refine until_take 12 (some 66) (u := ?_) rfl rfl (by kernel_rfl) (by kernel_rfl) (by kernel_rfl) (by kernel_rfl) (fun _ _ _ h => h) (by rfl) (fun wS hv => ?_) hS ?_
          rotate_left
          · clear hv
            go_simp
            all_goals with_reducible rfl
          try simp only [Act.put, List.setIfInBounds_toArray, List.set]
          refine until_one 13 (by kernel_rfl) rfl (fun K hK => ?_)
          go_simp
          rw [HCH.out]
          refine (refWrite_any _ rh sv rv1 B D (2 + (aa : Int)) (chunk (A.drop (64 * aa))) HDw.out.drew (HOK.out.ok (by have := HII.out; omega)) (by rw [HOK.out.1]; omega) (by rw [HOK.out.1]; omega) (by rw [chunk_length]; omega)).mono ?_
          obtain ⟨er, her⟩ : ∃ er, writeE D (2 + (aa : Int)) (chunk (A.drop (64 * aa))) = er := ⟨_, rfl⟩
          rw [her]
          have HER := Lib.hid her
          clear her
          rintro e w5 ⟨rfl, rv5, hd5, t5⟩
          have HD5 := Lib.hid hd5
          have HX5 := Lib.hid (show IsRL w5 h rh x.mark L false from HDw.out.drew.keep t5 (Blk.drew HXw.out) (by decide) (by decide) (by decide))
          have HT5 := Lib.hid (HTw.out.trans (RTouchL.trans (RTouchL.ofBelow ((Below.refl wr.heap.size wr).drew)) (RTouchL.of t5)))
          have HOK5 := Lib.hid (HOK.out.write (k := 2 + (aa : Int)) (s := chunk (A.drop (64 * aa))) (wf_near (by omega) (by omega)))
          clear hd5 t5
          refine hK.out _ _ (Blk.cell HX5.out 0) (fun hS => ?_)
          clear hK K
          try simp only [Act.put, List.setIfInBounds_toArray, List.set]
          refine until_take 14 (some 6) (u := ?_) rfl rfl (by kernel_rfl) (by kernel_rfl) (by kernel_rfl) (by kernel_rfl) (fun _ _ _ h => h) (by rfl) (fun wS hv => ?_) hS ?_
          rotate_left
          · clear hv
            go_simp
            all_goals with_reducible rfl
          try simp only [Act.put, List.setIfInBounds_toArray, List.set]
          refine until_done (by kernel_rfl) ?_
          clear hS
          by_cases h0 : er = 0
          · subst h0
            have HST := Lib.hid (show putsF k0 d (2 + (T : Int)) s = putsF (kk - 1) (writeR D (2 + (aa : Int)) (chunk (A.drop (64 * aa)))) (2 + ((aa + 1 : Nat) : Int)) (A.drop (64 * (aa + 1))) by
              obtain ⟨k', rfl⟩ : ∃ k', kk = k' + 1 := ⟨kk - 1, by have h1 := HKK.out; have h2 := HQ6.out; rw [List.length_drop] at h1; omega⟩
              rw [HPF.out, putsF, if_neg (by
                intro e
                have := congrArg List.length e
                rw [List.length_drop] at this
                have h2 := HQ6.out
                rw [List.length_nil] at this
                omega), if_pos HER.out, List.drop_drop, Nat.add_sub_cancel, show (2 + ((aa + 1 : Nat) : Int)) = 2 + (aa : Int) + 1 by omega, show 64 * (aa + 1) = 64 * aa + 64 by omega])
            have HKL := Lib.hid (show (A.drop (64 * (aa + 1))).length ≤ 64 * (kk - 1) by
              have := HKK.out
              rw [List.length_drop] at this ⊢
              have := HQ6.out
              omega)
            go_wp2_with fail
            refine Handed.intro (gk - 1) (by have := HII.out; omega) (hJ2 _ _ _ ⟨i + 1, aa + 1, kk - 1, rv5, _, by have := HII.out; omega, by have := HAI.out; omega, HST.out, HKL.out, HD5.out, HOK5.out, HX5.out, HT5.out, meet_us (by kernel_rfl)⟩)
          · have e1 : (er != 0) = true := by simpa using h0
            have e2 : (er == 0) = false := by simpa using h0
            have f5 := Blk.frozen HX5.out 5
            have v5 := Blk.cell HX5.out 5
            have HNE := Lib.hid h0
            clear h0
            go_wp2_with fail
            have HE0 := Lib.hid (show putsF k0 d (2 + (T : Int)) s = (writeR D (2 + (aa : Int)) (chunk (A.drop (64 * aa))), er) by
              obtain ⟨k', rfl⟩ : ∃ k', kk = k' + 1 := ⟨kk - 1, by have h1 := HKK.out; have h2 := HQ6.out; rw [List.length_drop] at h1; omega⟩
              rw [HPF.out, putsF, if_neg (by
                intro e
                have := congrArg List.length e
                rw [List.length_drop] at this
                have h2 := HQ6.out
                rw [List.length_nil] at this
                omega), if_neg (by rw [HER.out]; exact HNE.out), HER.out])
            have hgb := commitS_bad (d := d) (x := x) (r := r) (i := 0) (by omega) (fun q hq => absurd hq (Nat.not_lt_zero q)) (by rw [HK0.out, HAT.out, HSS.out]; show (putsF k0 d (2 + (T : Int)) s).2 ≠ 0; rw [HE0.out]; exact HNE.out)
            rw [HK0.out, HAT.out, HSS.out] at hgb
            have HGB := Lib.hid (show commitS d x r = ({ x with broken := true }, writeR D (2 + (aa : Int)) (chunk (A.drop (64 * aa))), er) by
              rw [hgb]
              show ({ x with broken := true }, (putsF k0 d (2 + (T : Int)) s).1, (putsF k0 d (2 + (T : Int)) s).2) = _
              rw [HE0.out])
            go_ret
            rw [HRR.out, HGB.out]
            exact ⟨rv5, L, rfl, HD5.out.setBlk HX5.out (by decide) (by decide) (by decide) 5 _, Blk.set_ HX5.out 5 (.bool true), hfin, hM, HT5.out.set 5 _⟩
        · have q1 : ¬ (aa : Int) * 64 < (A.length : Int) := by omega
          have HLE := Lib.hid (show A.length ≤ 64 * aa by omega)
          have HII := Lib.hid (show i ≤ k0 by omega)
          have q4 : (aa : Int) ≤ 20000 := by omega
          clear haa
          have hend : putsF k0 d (2 + (T : Int)) s = (D, 0) := by
            rw [HPF.out, List.drop_eq_nil_of_le HLE.out]
            cases kk <;> simp [putsF]
          have HEND := Lib.hid hend
          clear hend
          go_wp2_with fail
          exact meet_at hJ1 ⟨rv1, i, D, HEND.out, HII.out, HDw.out, HOK.out, HXw.out, HTw.out, .int .i64 (aa : Int), meet_us (by kernel_rfl)⟩
    · rintro a1 w4 ⟨rv4, i, D, hpf, hik, hd, hok, hx, ht, at', us, rfl⟩
      unfold FrD
      have HPF := Lib.hid hpf
      have HDw := Lib.hid hd
      have HOK := Lib.hid hok
      have HXw := Lib.hid hx
      have HTw := Lib.hid ht
      have hdn := hok.1
      have hokd := hok.ok (by omega)
      have hwok := hok.2.2.2.2.2.2.1
      have HWO := Lib.hid (show WaitOk D.n D.waits by rw [hdn]; exact hwok)
      have z0 : w4.cell? ⟨h, 0, none⟩ = some (.pointer (some ⟨rh, 0, none⟩)) := Blk.cell hx 0
      clear hpf hd hok hx ht hwok
      go_wp2_with fail
      refine (refFlush_any _ rh sv rv4 B D HDw.out hokd HWO.out (by omega) (by omega)).mono ?_
      obtain ⟨er, her⟩ : ∃ er, flushE D = er := ⟨_, rfl⟩
      rw [her]
      have HER := Lib.hid her
      clear her
      rintro e w5 ⟨rfl, rv5, hd5, t5⟩
      have HD5 := Lib.hid hd5
      have HX5 := Lib.hid (show IsRL w5 h rh x.mark L false from HDw.out.keep t5 HXw.out (by decide) (by decide) (by decide))
      have HT5 := Lib.hid (HTw.out.trans (RTouchL.of t5))
      have HOK5 := Lib.hid HOK.out.flush
      clear hd5 t5 z0
      by_cases h0 : er = 0
      · subst h0
        obtain ⟨x0, x1, x2, x3, x4, x5⟩ := rl_cells HX5.out
        go_wp2_with fail
        refine until_begin 16 (fun w' => w'.cell? ⟨h, 1, none⟩ = some (.int .i64 x.mark.1) ∧ w'.cell? ⟨h, 3, none⟩ = some (.int .i64 x.mark.2.2)) (by kernel_rfl) ⟨x1, x3⟩ (fun hS => ?_)
        refine until_take 0 (some 85) (u := ?_) rfl rfl (by kernel_rfl) (by kernel_rfl) (by kernel_rfl) (by kernel_rfl) (fun _ _ _ h => h) (by rfl) (fun wS hv => ?_) hS ?_
        rotate_left
        · clear hv
          go_simp
          all_goals with_reducible rfl
        try simp only [Act.put, List.setIfInBounds_toArray, List.set]
        refine until_take 1 (some 86) (u := ?_) rfl rfl (by kernel_rfl) (by kernel_rfl) (by kernel_rfl) (by kernel_rfl) (fun _ _ _ h => h) (by rfl) (fun wS hv => ?_) hS ?_
        rotate_left
        · clear hv
          go_simp
          all_goals with_reducible rfl
        try simp only [Act.put, List.setIfInBounds_toArray, List.set]
        refine until_take 2 (some 87) (u := ?_) rfl rfl (by kernel_rfl) (by kernel_rfl) (by kernel_rfl) (by kernel_rfl) (fun _ _ _ h => h) (by rfl) (fun wS hv => ?_) hS ?_
        rotate_left
        · clear hv
          go_simp
          all_goals with_reducible rfl
        try simp only [Act.put, List.setIfInBounds_toArray, List.set]
        refine until_take 3 (some 88) (u := ?_) rfl rfl (by kernel_rfl) (by kernel_rfl) (by kernel_rfl) (by kernel_rfl) (fun _ _ _ h => h) (by rfl) (fun wS hv => ?_) hS ?_
        rotate_left
        · clear hv
          go_simp
          all_goals with_reducible rfl
        try simp only [Act.put, List.setIfInBounds_toArray, List.set]
        refine until_take 4 (some 89) (u := ?_) rfl rfl (by kernel_rfl) (by kernel_rfl) (by kernel_rfl) (by kernel_rfl) (fun _ _ _ h => h) (by rfl) (fun wS hv => ?_) hS ?_
        rotate_left
        · obtain ⟨k1, k2⟩ := hv
          go_simp
          all_goals with_reducible rfl
        try simp only [Act.put, List.setIfInBounds_toArray, List.set]
        refine until_take 5 (some 90) (u := ?_) rfl rfl (by kernel_rfl) (by kernel_rfl) (by kernel_rfl) (by kernel_rfl) (fun _ _ _ h => h) (by rfl) (fun wS hv => ?_) hS ?_
        rotate_left
        · clear hv
          go_simp
          all_goals with_reducible rfl
        try simp only [Act.put, List.setIfInBounds_toArray, List.set]
        refine until_take 6 (some 91) (u := ?_) rfl rfl (by kernel_rfl) (by kernel_rfl) (by kernel_rfl) (by kernel_rfl) (fun _ _ _ h => h) (by rfl) (fun wS hv => ?_) hS ?_
        rotate_left
        · clear hv
          go_simp
          all_goals with_reducible rfl
        try simp only [Act.put, List.setIfInBounds_toArray, List.set]
        refine until_take 7 (some 92) (u := ?_) rfl rfl (by kernel_rfl) (by kernel_rfl) (by kernel_rfl) (by kernel_rfl) (fun _ _ _ h => h) (by rfl) (fun wS hv => ?_) hS ?_
        rotate_left
        · clear hv
          go_simp
          all_goals with_reducible rfl
        try simp only [Act.put, List.setIfInBounds_toArray, List.set]
        refine until_take 8 (some 93) (u := ?_) rfl rfl (by kernel_rfl) (by kernel_rfl) (by kernel_rfl) (by kernel_rfl) (fun _ _ _ h => h) (by rfl) (fun wS hv => ?_) hS ?_
        rotate_left
        · clear hv
          go_simp
          all_goals with_reducible rfl
        try simp only [Act.put, List.setIfInBounds_toArray, List.set]
        refine until_take 9 (some 94) (u := ?_) rfl rfl (by kernel_rfl) (by kernel_rfl) (by kernel_rfl) (by kernel_rfl) (fun _ _ _ h => h) (by rfl) (fun wS hv => ?_) hS ?_
        rotate_left
        · clear hv
          go_simp
          all_goals with_reducible rfl
        try simp only [Act.put, List.setIfInBounds_toArray, List.set]
        refine until_take 10 (some 95) (u := ?_) rfl rfl (by kernel_rfl) (by kernel_rfl) (by kernel_rfl) (by kernel_rfl) (fun _ _ _ h => h) (by rfl) (fun wS hv => ?_) hS ?_
        rotate_left
        · clear hv
          go_simp
          all_goals with_reducible rfl
        try simp only [Act.put, List.setIfInBounds_toArray, List.set]
        refine until_take 11 (some 96) (u := ?_) rfl rfl (by kernel_rfl) (by kernel_rfl) (by kernel_rfl) (by kernel_rfl) (fun _ _ _ h => h) (by rfl) (fun wS hv => ?_) hS ?_
        rotate_left
        · clear hv
          go_simp
          all_goals with_reducible rfl
        try simp only [Act.put, List.setIfInBounds_toArray, List.set]
        refine until_take 12 (some 97) (u := ?_) rfl rfl (by kernel_rfl) (by kernel_rfl) (by kernel_rfl) (by kernel_rfl) (fun _ _ _ h => h) (by rfl) (fun wS hv => ?_) hS ?_
        rotate_left
        · obtain ⟨k1, k2⟩ := hv
          go_simp
          all_goals with_reducible rfl
        try simp only [Act.put, List.setIfInBounds_toArray, List.set]
        refine until_take 13 (some 98) (u := ?_) rfl rfl (by kernel_rfl) (by kernel_rfl) (by kernel_rfl) (by kernel_rfl) (fun _ _ _ h => h) (by rfl) (fun wS hv => ?_) hS ?_
        rotate_left
        · clear hv
          go_simp
          all_goals with_reducible rfl
        try simp only [Act.put, List.setIfInBounds_toArray, List.set]
        refine until_take 14 (some 99) (u := ?_) rfl rfl (by kernel_rfl) (by kernel_rfl) (by kernel_rfl) (by kernel_rfl) (fun _ _ _ h => h) (by rfl) (fun wS hv => ?_) hS ?_
        rotate_left
        · clear hv
          go_simp
          all_goals with_reducible rfl
        try simp only [Act.put, List.setIfInBounds_toArray, List.set]
        refine until_one 15 (by kernel_rfl) rfl (fun K hK => ?_)
        go_simp
        refine hK.out _ _ ⟨Blk.cell (Blk.alloc HX5.out _) 1, Blk.cell (Blk.alloc HX5.out _) 3⟩ (fun hS => ?_)
        clear hK K
        try simp only [Act.put, List.setIfInBounds_toArray, List.set]
        refine until_last (by kernel_rfl) rfl (by kernel_rfl) (fun K hK => ?_)
        go_simp
        refine hK.out _ _ ?_
        clear hK K hS
        obtain ⟨me, hme⟩ : ∃ q, x.mark.1 + 1 = q := ⟨_, rfl⟩
        obtain ⟨mc, hmc⟩ : ∃ q, x.mark.2.2 + 1 = q := ⟨_, rfl⟩
        rw [wrap_small (x.mark.1 + 1) (by omega) (by omega), wrap_small (x.mark.2.2 + 1) (by omega) (by omega), hme, hmc]
        have me0 : 0 ≤ me := by omega
        have mc0 : 0 ≤ mc := by omega
        have me1 : me ≤ 4611686018427387904 := by omega
        have HME := Lib.hid hme
        have HMC := Lib.hid hmc
        have hb6 : Below w5.heap.size w5 (w5.alloc (.cells #[.int .i64 me, .int .i64 (A.length : Int), .int .i64 mc] 62)).drew := ((Below.refl _ _).alloc (Nat.le_refl _) _).drew
        have HM6 := Lib.hid ((Blk.new w5 62 #[.int .i64 me, .int .i64 (A.length : Int), .int .i64 mc]).drew)
        have HX6 := Lib.hid (show IsRL (w5.alloc (.cells #[.int .i64 me, .int .i64 (A.length : Int), .int .i64 mc] 62)).drew h rh x.mark L false from Blk.step HX5.out hb6)
        have HD6 := Lib.hid (HD5.out.step hb6)
        have HT6 := Lib.hid (HT5.out.trans (RTouchL.ofBelow hb6))
        obtain ⟨bm, hbm⟩ : ∃ q, w5.heap.size = q := ⟨_, rfl⟩
        rw [hbm] at HM6 ⊢
        clear hbm hb6 hme hmc x0 x1 x2 x3 x4 x5
        generalize (w5.alloc (.cells #[.int .i64 me, .int .i64 (A.length : Int), .int .i64 mc] 62)).drew = w6 at HM6 HX6 HD6 HT6 ⊢
        obtain ⟨P, hP⟩ : ∃ P, packS me (A.length : Int) mc = P := ⟨_, rfl⟩
        have hPl : P.length ≤ 1000000 := by rw [← hP, packS_length]; omega
        have HPK := Lib.hid hP
        obtain ⟨tt, htt⟩ : ∃ t, me.tmod 2 = t := ⟨_, rfl⟩
        have htt2 : me % 2 = tt := by rw [← htt, Int.tmod_eq_emod_of_nonneg me0]
        obtain ⟨e2, he2⟩ : ∃ e, writeE (flushR D) tt P = e := ⟨_, rfl⟩
        have HW2 := Lib.hid he2
        have HTT := Lib.hid htt
        clear hP he2
        go_wp2_with fail
        refine until_begin 11 (fun w' => w'.cell? ⟨h, 0, none⟩ = some (.pointer (some ⟨rh, 0, none⟩)) ∧ w'.cell? ⟨bm, 0, none⟩ = some (.int .i64 me) ∧ w'.cell? ⟨bm, 1, none⟩ = some (.int .i64 (A.length : Int)) ∧ w'.cell? ⟨bm, 2, none⟩ = some (.int .i64 mc)) (by kernel_rfl) ⟨Blk.cell HX6.out 0, HM6.out.cell 0, HM6.out.cell 1, HM6.out.cell 2⟩ (fun hS => ?_)
        refine until_take 0 (some 100) (u := ?_) rfl rfl (by kernel_rfl) (by kernel_rfl) (by kernel_rfl) (by kernel_rfl) (fun _ _ _ h => h) (by rfl) (fun wS hv => ?_) hS ?_
        rotate_left
        · clear hv
          go_simp
          all_goals with_reducible rfl
        try simp only [Act.put, List.setIfInBounds_toArray, List.set]
        refine until_take 1 (some 101) (u := ?_) rfl rfl (by kernel_rfl) (by kernel_rfl) (by kernel_rfl) (by kernel_rfl) (fun _ _ _ h => h) (by rfl) (fun wS hv => ?_) hS ?_
        rotate_left
        · clear hv
          go_simp
          all_goals with_reducible rfl
        try simp only [Act.put, List.setIfInBounds_toArray, List.set]
        refine until_take 2 (some 102) (u := ?_) rfl rfl (by kernel_rfl) (by kernel_rfl) (by kernel_rfl) (by kernel_rfl) (fun _ _ _ h => h) (by rfl) (fun wS hv => ?_) hS ?_
        rotate_left
        · clear hv
          go_simp
          all_goals with_reducible rfl
        try simp only [Act.put, List.setIfInBounds_toArray, List.set]
        refine until_take 3 (some 103) (u := ?_) rfl rfl (by kernel_rfl) (by kernel_rfl) (by kernel_rfl) (by kernel_rfl) (fun _ _ _ h => h) (by rfl) (fun wS hv => ?_) hS ?_
        rotate_left
        · obtain ⟨k1, k2, k3, k4⟩ := hv
          go_simp
          all_goals with_reducible rfl
        try simp only [Act.put, List.setIfInBounds_toArray, List.set]
        refine until_take 4 (some 104) (u := ?_) rfl rfl (by kernel_rfl) (by kernel_rfl) (by kernel_rfl) (by kernel_rfl) (fun _ _ _ h => h) (by rfl) (fun wS hv => ?_) hS ?_
        rotate_left
        · clear hv
          go_simp
          all_goals with_reducible rfl
        try simp only [Act.put, List.setIfInBounds_toArray, List.set]
        refine until_take 5 (some 105) (u := ?_) rfl rfl (by kernel_rfl) (by kernel_rfl) (by kernel_rfl) (by kernel_rfl) (fun _ _ _ h => h) (by rfl) (fun wS hv => ?_) hS ?_
        rotate_left
        · obtain ⟨k1, k2, k3, k4⟩ := hv
          go_simp
          all_goals with_reducible rfl
        try simp only [Act.put, List.setIfInBounds_toArray, List.set]
        refine until_take 6 (some 106) (u := ?_) rfl rfl (by kernel_rfl) (by kernel_rfl) (by kernel_rfl) (by kernel_rfl) (fun _ _ _ h => h) (by rfl) (fun wS hv => ?_) hS ?_
        rotate_left
        · clear hv
          go_simp
          all_goals with_reducible rfl
        try simp only [Act.put, List.setIfInBounds_toArray, List.set]
        refine until_take 7 (some 107) (u := ?_) rfl rfl (by kernel_rfl) (by kernel_rfl) (by kernel_rfl) (by kernel_rfl) (fun _ _ _ h => h) (by rfl) (fun wS hv => ?_) hS ?_
        rotate_left
        · obtain ⟨k1, k2, k3, k4⟩ := hv
          go_simp
          all_goals with_reducible rfl
        try simp only [Act.put, List.setIfInBounds_toArray, List.set]
        refine until_one 8 (by kernel_rfl) rfl (fun K hK => ?_)
        go_simp
        refine (refPack_any _ _ _ me0 (by omega) mc0 _).mono ?_
        rw [HPK.out]
        rintro e w7 ⟨rfl, hb7⟩
        have HD7 := Lib.hid (HD6.out.drew.step hb7)
        have HX7 := Lib.hid (show IsRL w7 h rh x.mark L false from Blk.step (Blk.drew HX6.out) hb7)
        have HM7 := Lib.hid (HM6.out.drew.step hb7)
        have HT7 := Lib.hid (HT6.out.trans (RTouchL.ofBelow (bel_step ((Below.refl w6.heap.size w6).drew) hb7)))
        clear hb7
        refine hK.out _ _ ⟨Blk.cell HX7.out 0, HM7.out.cell 0, HM7.out.cell 1, HM7.out.cell 2⟩ (fun hS => ?_)
        clear hK K
        try simp only [Act.put, List.setIfInBounds_toArray, List.set]
        refine until_one 9 (by kernel_rfl) rfl (fun K hK => ?_)
        go_simp
        refine (refWrite_any _ rh sv rv5 B (flushR D) tt P HD7.out (HOK5.out.ok (by omega)) (by rw [HOK5.out.1]; omega) (by rw [HOK5.out.1]; omega) hPl).mono ?_
        rw [HW2.out]
        rintro e w8 ⟨rfl, rv8, hd8, t8⟩
        have HD8 := Lib.hid hd8
        have HX8 := Lib.hid (show IsRL w8 h rh x.mark L false from HD7.out.keep t8 HX7.out (by decide) (by decide) (by decide))
        have HM8 := Lib.hid (HD7.out.keep t8 HM7.out (by decide) (by decide) (by decide))
        have HT8 := Lib.hid (HT7.out.trans (RTouchL.of t8))
        clear hd8 t8
        refine hK.out _ _ ⟨Blk.cell HX8.out 0, HM8.out.cell 0, HM8.out.cell 1, HM8.out.cell 2⟩ (fun hS => ?_)
        clear hK K
        try simp only [Act.put, List.setIfInBounds_toArray, List.set]
        refine until_take 10 (some 6) (u := ?_) rfl rfl (by kernel_rfl) (by kernel_rfl) (by kernel_rfl) (by kernel_rfl) (fun _ _ _ h => h) (by rfl) (fun wS hv => ?_) hS ?_
        rotate_left
        · clear hv
          go_simp
          all_goals with_reducible rfl
        try simp only [Act.put, List.setIfInBounds_toArray, List.set]
        refine until_done (by kernel_rfl) ?_
        clear hS
        have HNX := Lib.hid (show nextM x r = (me, (A.length : Int), mc) by
          unfold nextM
          rw [HME.out, HMC.out, hM, HAL.out]
          simp)
        have HD2 := Lib.hid (show devI d k0 (2 + (T : Int)) s (me, (A.length : Int), mc) 2 = flushR D by
          show flushR (putsF k0 d (2 + (T : Int)) s).1 = _
          rw [HPF.out])
        have HD3 := Lib.hid (show devI d k0 (2 + (T : Int)) s (me, (A.length : Int), mc) 3 = writeR (flushR D) tt P by
          show writeR (flushR (putsF k0 d (2 + (T : Int)) s).1) (me.tmod 2) (packS me (A.length : Int) mc) = _
          rw [HPF.out, HTT.out, HPK.out])
        have HE0 := Lib.hid (show errI d k0 (2 + (T : Int)) s (me, (A.length : Int), mc) 0 = 0 by
          show (putsF k0 d (2 + (T : Int)) s).2 = 0
          rw [HPF.out])
        have HE1 := Lib.hid (show errI d k0 (2 + (T : Int)) s (me, (A.length : Int), mc) 1 = 0 by
          show flushE (putsF k0 d (2 + (T : Int)) s).1 = 0
          rw [HPF.out]; exact HER.out)
        have HE2 := Lib.hid (show errI d k0 (2 + (T : Int)) s (me, (A.length : Int), mc) 2 = e2 by
          show writeE (devI d k0 (2 + (T : Int)) s (me, (A.length : Int), mc) 2) (me.tmod 2) (packS me (A.length : Int) mc) = _
          rw [HD2.out, HTT.out, HPK.out]; exact HW2.out)
        have ht1 : 0 ≤ tt := by omega
        have ht2 : tt ≤ 1 := by omega
        have HOK8 := Lib.hid (HOK5.out.write (k := tt) (s := P) (wf_near ht1 (by omega)))
        by_cases h2 : e2 = 0
        · subst h2
          obtain ⟨D3, hD3⟩ : ∃ q, writeR (flushR D) tt P = q := ⟨_, rfl⟩
          rw [hD3] at HD8 HD3 HOK8
          clear hD3
          have z0 : w8.cell? ⟨h, 0, none⟩ = some (.pointer (some ⟨rh, 0, none⟩)) := Blk.cell HX8.out 0
          have hdn3 := HOK8.out.1
          go_wp2_with fail
          refine (refFlush_any _ rh sv rv8 B D3 HD8.out (HOK8.out.ok (by omega)) (by rw [hdn3]; exact HOK8.out.2.2.2.2.2.2.1) (by omega) (by omega)).mono ?_
          obtain ⟨e3, he3⟩ : ∃ e, flushE D3 = e := ⟨_, rfl⟩
          rw [he3]
          rintro e w9 ⟨rfl, rv9, hd9, t9⟩
          have HD9 := Lib.hid hd9
          have HX9 := Lib.hid (show IsRL w9 h rh x.mark L false from HD8.out.keep t9 HX8.out (by decide) (by decide) (by decide))
          have HM9 := Lib.hid (HD8.out.keep t9 HM8.out (by decide) (by decide) (by decide))
          have HT9 := Lib.hid (HT8.out.trans (RTouchL.of t9))
          have HE3 := Lib.hid (show errI d k0 (2 + (T : Int)) s (me, (A.length : Int), mc) 3 = e3 by
            show flushE (devI d k0 (2 + (T : Int)) s (me, (A.length : Int), mc) 3) = _
            rw [HD3.out]; exact he3)
          clear hd9 t9 z0 he3
          by_cases h3 : e3 = 0
          · subst h3
            obtain ⟨m0, m1, m2, -, -, -⟩ := cells3 HM9.out
            obtain ⟨y0, y1, y2, y3, y4, y5⟩ := rl_cells HX9.out
            have f1 := Blk.frozen HX9.out 1
            have f2 := Blk.frozen HX9.out 2
            have f3 := Blk.frozen HX9.out 3
            have f4 := Blk.frozen HX9.out 4
            have hgb := commitS_good (d := d) (x := x) (r := r) (fun q hq => by
              rw [HK0.out, HAT.out, HSS.out, HNX.out]
              have h4 : q = 0 ∨ q = 1 ∨ q = 2 ∨ q = 3 := by omega
              rcases h4 with rfl | rfl | rfl | rfl
              · exact HE0.out
              · exact HE1.out
              · exact HE2.out
              · exact HE3.out)
            rw [HK0.out, HAT.out, HSS.out, HNX.out] at hgb
            have hfin2 : s.drop (s.length - s.length % 64) = finB A := by
              unfold finB
              rw [HSA.out, List.drop_drop, List.length_drop]
              congr 1
              omega
            have HGB := Lib.hid (show commitS d x r = (⟨(me, (A.length : Int), mc), finB A, false⟩, flushR D3, 0) by
              rw [hgb, hfin2]
              show (_, flushR (devI d k0 (2 + (T : Int)) s (me, (A.length : Int), mc) 3), _) = _
              rw [HD3.out])
            clear hgb hfin2
            go_wp2_with fail
            go_ret
            rw [HRR.out, HGB.out]
            have b1 := Blk.set_ HX9.out 1 (.int .i64 me)
            have b2 := Blk.set_ b1 2 (.int .i64 (A.length : Int))
            have b3 := Blk.set_ b2 3 (.int .i64 mc)
            have b4 := Blk.set_ b3 4 (str A)
            exact ⟨rv9, A, rfl, (((HD9.out.setBlk HX9.out (by decide) (by decide) (by decide) 1 _).setBlk b1 (by decide) (by decide) (by decide) 2 _).setBlk b2 (by decide) (by decide) (by decide) 3 _).setBlk b3 (by decide) (by decide) (by decide) 4 _, b4, rfl, rfl, (((HT9.out.set 1 _).set 2 _).set 3 _).set 4 _⟩
          · have q1 : (e3 != 0) = true := by simpa using h3
            have q2 : (e3 == 0) = false := by simpa using h3
            have f5 := Blk.frozen HX9.out 5
            have v5 := Blk.cell HX9.out 5
            have HNE := Lib.hid h3
            clear h3
            have hgb := commitS_bad (d := d) (x := x) (r := r) (i := 3) (by omega) (fun q hq => by
              rw [HK0.out, HAT.out, HSS.out, HNX.out]
              have h4 : q = 0 ∨ q = 1 ∨ q = 2 := by omega
              rcases h4 with rfl | rfl | rfl
              · exact HE0.out
              · exact HE1.out
              · exact HE2.out) (by rw [HK0.out, HAT.out, HSS.out, HNX.out, HE3.out]; exact HNE.out)
            rw [HK0.out, HAT.out, HSS.out, HNX.out, HE3.out] at hgb
            have HGB := Lib.hid (show commitS d x r = ({ x with broken := true }, flushR D3, e3) by
              rw [hgb]
              show (_, flushR (devI d k0 (2 + (T : Int)) s (me, (A.length : Int), mc) 3), _) = _
              rw [HD3.out])
            clear hgb
            go_wp2_with fail
            go_ret
            rw [HRR.out, HGB.out]
            exact ⟨rv9, L, rfl, HD9.out.setBlk HX9.out (by decide) (by decide) (by decide) 5 _, Blk.set_ HX9.out 5 (.bool true), hfin, hM, HT9.out.set 5 _⟩
        · have q1 : (e2 != 0) = true := by simpa using h2
          have q2 : (e2 == 0) = false := by simpa using h2
          have f5 := Blk.frozen HX8.out 5
          have v5 := Blk.cell HX8.out 5
          have HNE := Lib.hid h2
          clear h2
          have hgb := commitS_bad (d := d) (x := x) (r := r) (i := 2) (by omega) (fun q hq => by
            rw [HK0.out, HAT.out, HSS.out, HNX.out]
            have h4 : q = 0 ∨ q = 1 := by omega
            rcases h4 with rfl | rfl
            · exact HE0.out
            · exact HE1.out) (by rw [HK0.out, HAT.out, HSS.out, HNX.out, HE2.out]; exact HNE.out)
          rw [HK0.out, HAT.out, HSS.out, HNX.out, HE2.out] at hgb
          have HGB := Lib.hid (show commitS d x r = ({ x with broken := true }, writeR (flushR D) tt P, e2) by
            rw [hgb, HD3.out])
          clear hgb
          go_wp2_with fail
          go_ret
          rw [HRR.out, HGB.out]
          exact ⟨rv8, L, rfl, HD8.out.setBlk HX8.out (by decide) (by decide) (by decide) 5 _, Blk.set_ HX8.out 5 (.bool true), hfin, hM, HT8.out.set 5 _⟩
      · have e1 : (er != 0) = true := by simpa using h0
        have e2 : (er == 0) = false := by simpa using h0
        have f5 := Blk.frozen HX5.out 5
        have v5 := Blk.cell HX5.out 5
        have HNE := Lib.hid h0
        clear h0
        have hgb := commitS_bad (d := d) (x := x) (r := r) (i := 1) (by omega) (fun q hq => by
          obtain rfl : q = 0 := by omega
          rw [HK0.out, HAT.out, HSS.out]
          show (putsF k0 d (2 + (T : Int)) s).2 = 0
          rw [HPF.out]) (by
          rw [HK0.out, HAT.out, HSS.out]
          show flushE (putsF k0 d (2 + (T : Int)) s).1 ≠ 0
          rw [HPF.out, HER.out]; exact HNE.out)
        rw [HK0.out, HAT.out, HSS.out] at hgb
        have HGB := Lib.hid (show commitS d x r = ({ x with broken := true }, flushR D, er) by
          rw [hgb]
          show ({ x with broken := true }, flushR (putsF k0 d (2 + (T : Int)) s).1, flushE (putsF k0 d (2 + (T : Int)) s).1) = _
          rw [HPF.out, HER.out])
        clear hgb
        go_wp2_with fail
        go_ret
        rw [HRR.out, HGB.out]
        exact ⟨rv5, L, rfl, HD5.out.setBlk HX5.out (by decide) (by decide) (by decide) 5 _, Blk.set_ HX5.out 5 (.bool true), hfin, hM, HT5.out.set 5 _⟩
end Go.Proofs.Ytiighehibiijcaa

namespace Go.Proofs.Ytiighehibiijcaa
open Go.RowKit
set_option linter.unusedSimpArgs false
set_option linter.unnecessarySimpa false
set_option linter.unusedVariables false

theorem refCommit_broken (w : World) (h rh : Nat) (m : Mk) (L rec : List UInt8) (hx : IsRL w h rh m L true) :
    Calls Try.prog 46 #[.pointer (some ⟨h, 0, none⟩), str rec] w fun e w' => e = .returned (.int .i64 13) ∧ w = w' := by
  obtain ⟨x0, x1, x2, x3, x4, x5⟩ := rl_cells hx
  go_enter Try.func46, Try.ntmps46
  go_wp2_with fail
  go_ret
  exact ⟨rfl, rfl⟩
theorem refCommit_full (w : World) (h rh : Nat) (sv rv : Value) (B : Nat) (d : Dev) (m : Mk) (L rec : List UInt8) (hx : IsRL w h rh m L false) (hd : IsRef w rh sv rv B d) (hl : rec.length ≤ 1048576) (n0 : 0 ≤ d.n) (n1 : d.n ≤ 4096) (hL : L.length ≤ 1000000)
    (hr : roomD d - (L.length : Nat) < ((tRec rec).length : Nat)) :
    Calls Try.prog 46 #[.pointer (some ⟨h, 0, none⟩), str rec] w fun e w' => e = .returned (.int .i64 15) ∧ Below w.heap.size w w' := by
  obtain ⟨x0, x1, x2, x3, x4, x5⟩ := rl_cells hx
  have HX := Lib.hid hx
  have HD := Lib.hid hd
  clear hx hd
  go_enter Try.func46, Try.ntmps46
  go_wp2_with fail
  refine (refPut_any rec _ hl).mono ?_
  rintro e w1 ⟨rfl, hb1⟩
  have HX1 := Lib.hid (show IsRL w1 h rh m L false from Blk.step HX.out hb1)
  have HD1 := Lib.hid (HD.out.step hb1)
  have HB1 := Lib.hid hb1
  clear hb1 x0 x1 x2 x3 x4 x5
  go_wp2_with fail
  refine (refRoom_any _ h rh sv rv B d m L false HX1.out HD1.out n0 n1 hL).mono ?_
  rintro e w2 ⟨rfl, q, rfl⟩
  go_wp2_with fail
  go_ret
  exact ⟨rfl, bel_drewN HB1.out _⟩
theorem refCommit_any (w : World) (h rh : Nat) (sv rv : Value) (B : Nat) (d : Dev) (x : Log) (L rec : List UInt8) (hx : IsRL w h rh x.mark L x.broken) (hd : IsRef w rh sv rv B d) (hfin : x.fin = finB L) (hM : x.mark.2.1 = (L.length : Int))
    (hl : rec.length ≤ 1048576) (n0 : 3 ≤ d.n) (n1 : d.n ≤ 4096) (hok : LogOk x) (j : Nat) (hp : OkP d.n j d) (hj : j ≤ 100000) (R : Log × Dev × Int) (hR : commitR d x rec = R) :
    Calls Try.prog 46 #[.pointer (some ⟨h, 0, none⟩), str rec] w fun e w' => ∃ rv' L', e = .returned (.int .i64 R.2.2) ∧ IsRef w' rh sv rv' B R.2.1 ∧
      IsRL w' h rh R.1.mark L' R.1.broken ∧ R.1.fin = finB L' ∧ R.1.mark.2.1 = (L'.length : Int) ∧ RTouchL h rh sv w rv w' rv' := by
  obtain ⟨e0, e1, b0, b1, c0, c1, hf⟩ := hok
  subst hR
  unfold commitR
  rcases hb : x.broken with _ | _
  · rw [hb] at hx
    rw [if_neg (by simp)]
    by_cases hr : roomD d - x.mark.2.1 < ((tRec rec).length : Nat)
    · rw [if_pos hr]
      refine (refCommit_full w h rh sv rv B d x.mark L rec hx hd hl (by omega) n1 (by omega) (by rw [← hM]; exact hr)).mono ?_
      rintro e w' ⟨rfl, hb'⟩
      exact ⟨rv, L, rfl, hd.step hb', by show IsRL w' h rh x.mark L x.broken; rw [hb]; exact Blk.step hx hb', hfin, hM, RTouchL.ofBelow hb'⟩
    · rw [if_neg hr]
      exact refCommit_goes w h rh sv rv B d x L rec hx hd hb hfin hM hl n0 n1 e0 e1 c0 c1 hr j hp hj
  · rw [hb] at hx
    rw [if_pos rfl]
    refine (refCommit_broken w h rh x.mark L rec hx).mono ?_
    rintro e w' ⟨rfl, rfl⟩
    exact ⟨rv, L, rfl, hd, by show IsRL w h rh x.mark L x.broken; rw [hb]; exact hx, hfin, hM, RTouchL.ofBelow (Below.refl _ _)⟩
end Go.Proofs.Ytiighehibiijcaa

namespace Go.Proofs.Ytiighehibiijcaa
open Go.RowKit
set_option linter.unusedSimpArgs false
set_option linter.unnecessarySimpa false
set_option linter.unusedVariables false

section
variable {w w' : World} {B : Nat} {v : Value}
theorem OwnS.of_block {L : List (List UInt8)} (h : OwnS w B v L) (hs : ∀ i, v.ownBlock = some i → w'.heap[i]? = w.heap[i]?) : OwnS w' B v L := by
  refine ⟨h.1, ?_⟩
  rcases h.2 with h1 | ⟨g, cap, cur, h1, h2, h3, h4⟩
  · exact .inl h1
  · exact .inr ⟨g, cap, cur, h1, h2, (hs g (by rw [h1]; rfl)).trans h3, h4⟩
theorem OwnW.of_block {L : List (Int × List UInt8)} (h : OwnW w B v L) (hs : ∀ i, v.ownBlock = some i → w'.heap[i]? = w.heap[i]?) : OwnW w' B v L := by
  refine ⟨h.1, ?_⟩
  rcases h.2 with h1 | ⟨g, cap, cur, h1, h2, h3, h4⟩
  · exact .inl h1
  · exact .inr ⟨g, cap, cur, h1, h2, (hs g (by rw [h1]; rfl)).trans h3, h4⟩
theorem MapIs.of_block {b cap : Nat} {F : Int → Option (List UInt8)} (h : MapIs w b cap F) (hb : w'.heap[b]? = w.heap[b]?) : MapIs w' b cap F := by
  obtain ⟨D, ⟨es, clock, h1, h2⟩, h3⟩ := h
  exact ⟨D, ⟨es, clock, hb.trans h1, h2⟩, h3⟩
end
theorem OwnS.apart2 {w : World} {B B' : Nat} {v rv : Value} {L : List (List UInt8)} {M : List (Int × List UInt8)} (h : OwnS w B v L) (k : OwnW w B' rv M) {i : Nat} (hi : v.ownBlock = some i) : rv.ownBlock ≠ some i := by
  rcases h.2 with ⟨h1, _⟩ | ⟨g, cap, cur, h1, h2, h3, _⟩
  · subst h1; simp [Value.ownBlock] at hi
  · subst h1
    have : g = i := by simpa [Value.ownBlock] using hi
    subst this
    exact k.ne (show Blk w g 9 cur from h3) (by decide)
def Apart (a b : Value) : Prop := ∀ i, a.ownBlock = some i → b.ownBlock ≠ some i
section
variable {w w' : World} {g gm cap B B2 rh : Nat} {v v' sv rv rv' : Value} {d d' : Dev}
theorem IsRef.beside (hr : IsRef w rh sv rv B2 d) (hd : IsDev w g gm v cap B d') (ht : Touch g gm w v w' v') (ha : Apart rv v) : IsRef w' rh sv rv B2 d ∧ Apart rv v' := by
  have hs : ∀ i, sv.ownBlock = some i → w'.heap[i]? = w.heap[i]? := fun i hi => ht.block i (hr.2.1.own_lt hi).1 (fun e => hr.2.1.ne hd.1 (by decide) (by rw [hi, e])) (fun e => by
      rcases hr.2.1.2 with ⟨h1, _⟩ | ⟨k, c, cur, h1, h2, h3, _⟩
      · subst h1; simp [Value.ownBlock] at hi
      · subst h1
        have : k = i := by simpa [Value.ownBlock] using hi
        subst this
        exact hd.2.1.ne (show Blk w k 9 cur from h3) e) (fun e => OwnS.apart2 hr.2.1 hd.2.2.1 hi e)
  have hw : ∀ i, rv.ownBlock = some i → w'.heap[i]? = w.heap[i]? := fun i hi => ht.block i (hr.2.2.1.own_lt hi).1 (fun e => hr.2.2.1.ne hd.1 (by decide) (by rw [hi, e])) (fun e => hd.2.1.apart hr.2.2.1 (by rw [hi, e])) (fun e => ha i hi e)
  refine ⟨⟨(ht.block rh hr.1.lt (blk_ne hr.1 hd.1 (by decide)) (hd.2.1.ne hr.1) (hd.2.2.1.ne hr.1 (by decide))).trans hr.1, hr.2.1.of_block hs, hr.2.2.1.of_block hw, hr.2.2.2⟩, fun i hi e => ?_⟩
  rcases ht.own i e with h1 | h1
  · exact ha i hi h1
  · have := (hr.2.2.1.own_lt hi).1; omega
theorem IsDev.beside (hd : IsDev w g gm v cap B d) (hr : IsRef w rh sv rv B2 d') (ht : RTouch rh sv w rv w' rv') (ha : Apart rv v) : IsDev w' g gm v cap B d ∧ Apart rv' v := by
  have hsne : ∀ i, sv.ownBlock = some i → i ≠ gm := fun i hi e => by
      rcases hr.2.1.2 with ⟨h1, _⟩ | ⟨k, c, cur, h1, h2, h3, _⟩
      · subst h1; simp [Value.ownBlock] at hi
      · subst h1
        have : k = i := by simpa [Value.ownBlock] using hi
        subst this
        exact hd.2.1.ne (show Blk w k 9 cur from h3) e
  refine ⟨⟨(ht.block g hd.1.lt (blk_ne hd.1 hr.1 (by decide)) (hr.2.1.ne hd.1 (by decide)) (hr.2.2.1.ne hd.1 (by decide))).trans hd.1, hd.2.1.of_block (ht.block gm hd.2.1.lt (fun e => hd.2.1.ne hr.1 e.symm) (fun e => hsne gm e rfl) (fun e => hd.2.1.apart hr.2.2.1 e)), hd.2.2.1.of_block (fun i hi => ht.block i (hd.2.2.1.own_lt hi).1 (fun e => hd.2.2.1.ne hr.1 (by decide) (by rw [hi, e])) (fun e => OwnS.apart2 hr.2.1 hd.2.2.1 e hi) (fun e => ha i e hi)), hd.2.2.2⟩, fun i hi e => ?_⟩
  rcases ht.own i hi with h1 | h1
  · exact ha i h1 e
  · have := (hd.2.2.1.own_lt e).1; omega
end

end Go.Proofs.Ytiighehibiijcaa

namespace Go.Proofs.Ytiighehibiijcaa
open Go.RowKit
set_option linter.unusedSimpArgs false
set_option linter.unnecessarySimpa false
set_option linter.unusedVariables false

section
variable {w w' : World} {g gm cap B B2 rh h y : Nat} {v v' sv rv rv' : Value} {d d' : Dev} {cx cy : Array Value}
theorem IsRef.besideL (hr : IsRef w rh sv rv B2 d) (hd : IsDev w g gm v cap B d') (hx : Blk w h 78 cx) (ht : TouchL h g gm w v w' v') (ha : Apart rv v) : IsRef w' rh sv rv B2 d ∧ Apart rv v' := by
  have hs : ∀ i, sv.ownBlock = some i → w'.heap[i]? = w.heap[i]? := fun i hi => ht.block i (hr.2.1.own_lt hi).1 (fun e => hr.2.1.ne hx (by decide) (by rw [hi, e])) (fun e => hr.2.1.ne hd.1 (by decide) (by rw [hi, e])) (fun e => by
      rcases hr.2.1.2 with ⟨h1, _⟩ | ⟨k, c, cur, h1, h2, h3, _⟩
      · subst h1; simp [Value.ownBlock] at hi
      · subst h1
        have : k = i := by simpa [Value.ownBlock] using hi
        subst this
        exact hd.2.1.ne (show Blk w k 9 cur from h3) e) (fun e => OwnS.apart2 hr.2.1 hd.2.2.1 hi e)
  have hw : ∀ i, rv.ownBlock = some i → w'.heap[i]? = w.heap[i]? := fun i hi => ht.block i (hr.2.2.1.own_lt hi).1 (fun e => hr.2.2.1.ne hx (by decide) (by rw [hi, e])) (fun e => hr.2.2.1.ne hd.1 (by decide) (by rw [hi, e])) (fun e => hd.2.1.apart hr.2.2.1 (by rw [hi, e])) (fun e => ha i hi e)
  refine ⟨⟨(ht.block rh hr.1.lt (blk_ne hr.1 hx (by decide)) (blk_ne hr.1 hd.1 (by decide)) (hd.2.1.ne hr.1) (hd.2.2.1.ne hr.1 (by decide))).trans hr.1, hr.2.1.of_block hs, hr.2.2.1.of_block hw, hr.2.2.2⟩, fun i hi e => ?_⟩
  rcases ht.own i e with h1 | h1
  · exact ha i hi h1
  · have := (hr.2.2.1.own_lt hi).1; omega
theorem IsDev.besideR (hd : IsDev w g gm v cap B d) (hr : IsRef w rh sv rv B2 d') (hy : Blk w y 88 cy) (ht : RTouchL y rh sv w rv w' rv') (ha : Apart rv v) : IsDev w' g gm v cap B d ∧ Apart rv' v := by
  have hsne : ∀ i, sv.ownBlock = some i → i ≠ gm := fun i hi e => by
      rcases hr.2.1.2 with ⟨h1, _⟩ | ⟨k, c, cur, h1, h2, h3, _⟩
      · subst h1; simp [Value.ownBlock] at hi
      · subst h1
        have : k = i := by simpa [Value.ownBlock] using hi
        subst this
        exact hd.2.1.ne (show Blk w k 9 cur from h3) e
  refine ⟨⟨(ht.block g hd.1.lt (blk_ne hd.1 hy (by decide)) (blk_ne hd.1 hr.1 (by decide)) (hr.2.1.ne hd.1 (by decide)) (hr.2.2.1.ne hd.1 (by decide))).trans hd.1, hd.2.1.of_block (ht.block gm hd.2.1.lt (fun e => hd.2.1.ne hy e.symm) (fun e => hd.2.1.ne hr.1 e.symm) (fun e => hsne gm e rfl) (fun e => hd.2.1.apart hr.2.2.1 e)), hd.2.2.1.of_block (fun i hi => ht.block i (hd.2.2.1.own_lt hi).1 (fun e => hd.2.2.1.ne hy (by decide) (by rw [hi, e])) (fun e => hd.2.2.1.ne hr.1 (by decide) (by rw [hi, e])) (fun e => OwnS.apart2 hr.2.1 hd.2.2.1 e hi) (fun e => ha i e hi)), hd.2.2.2⟩, fun i hi e => ?_⟩
  rcases ht.own i hi with h1 | h1
  · exact ha i h1 e
  · have := (hd.2.2.1.own_lt e).1; omega
theorem IsRef.keepL {i : Nat} {t : TypeId} {cs : Array Value} (hd : IsRef w rh sv rv B2 d) (hy : Blk w y 88 cy) (ht : RTouchL y rh sv w rv w' rv') (hb : Blk w i t cs) (h1 : t ≠ 56) (h2 : t ≠ 91) (h3 : t ≠ 9) (h4 : t ≠ 88) : Blk w' i t cs :=
  (ht.block i hb.lt (blk_ne hb hy h4) (blk_ne hb hd.1 h1) (hd.2.1.ne hb h3) (hd.2.2.1.ne hb h2)).trans hb
theorem IsRef.belowL {B0 : Nat} (hd : IsRef w rh sv rv B2 d) (ht : RTouchL y rh sv w rv w' rv') (hB : B0 ≤ B2) (hy : B0 ≤ y) (hw : B0 ≤ w.heap.size) : Below B0 w w' :=
  ⟨ht.os, ht.tape, ht.output, ht.size, fun i hi => ht.block i (by omega) (by omega) (by have := hd.2.2.2; omega) (fun e => by have := (hd.2.1.own_lt e).2; omega) (fun e => by have := (hd.2.2.1.own_lt e).2; omega)⟩
end
/-- What Open tells of a log, if it tells one. -/
theorem openR_some {d : Dev} {x : Log} {rs : List (List UInt8)} {er : Int} (hs : SafeOk d) (hw : WaitOk d.n d.waits) (n1 : d.n ≤ 4096) (h : openR d = (some x, rs, er)) : x.broken = false ∧ x.fin = finB (logD d) ∧ x.mark.2.1 = ((logD d).length : Int) ∧ (x.mark.2.1 ≤ roomD d) ∧
    (0 ≤ x.mark.1 ∧ x.mark.1 ≤ 1099511627776) ∧ (0 ≤ x.mark.2.2 ∧ x.mark.2.2 ≤ 1099511627776) := by
  obtain ⟨⟨⟨e0, b0, c0⟩, k0⟩, hu0⟩ : ∃ q, unpackR (readS d 0) = q := ⟨_, rfl⟩
  obtain ⟨⟨⟨e1, b1, c1⟩, k1⟩, hu1⟩ : ∃ q, unpackR (readS d 1) = q := ⟨_, rfl⟩
  obtain ⟨⟨me, mb, mc⟩, hm⟩ : ∃ q, markD d = q := ⟨_, rfl⟩
  have hmm := hm
  unfold markD at hm
  rw [hu0, hu1] at hm
  simp only [] at hm
  have hrg : (0 ≤ me ∧ me ≤ 1099511627776) ∧ (0 ≤ mb ∧ mb ≤ 1099511627776) ∧ (0 ≤ mc ∧ mc ≤ 1099511627776) :=
    newR_range (P := fun e b c => (0 ≤ e ∧ e ≤ 1099511627776) ∧ (0 ≤ b ∧ b ≤ 1099511627776) ∧ (0 ≤ c ∧ c ≤ 1099511627776)) hm (unpackR_range hu0) (unpackR_range hu1)
  unfold openR at h
  split at h
  · cases (Prod.mk.inj h).1
  · split at h
    · cases (Prod.mk.inj h).1
    · split at h
      · cases (Prod.mk.inj h).1
      · split at h
        · rename_i h2 h3 h4 h5
          have hx := Option.some.inj (Prod.mk.inj h).1
          subst hx
          have hon : d.on = true := by
            rcases hd : d.on with _ | _
            · exact absurd hd h3
            · rfl
          rw [hmm] at h4 ⊢
          simp only [] at h4
          unfold roomD at h4 ⊢
          refine ⟨rfl, rfl, ?_, by simp only []; omega, hrg.1, hrg.2.2⟩
          show mb = _
          unfold logD
          rw [hmm, List.length_take, secsD_length hs hw hon _ (by simp only []; omega)]
          simp only []
          omega
        · cases (Prod.mk.inj h).1
end Go.Proofs.Ytiighehibiijcaa

/-
  What Crash of device.Device does. No conditions beside those in each theorem.
-/
import Derived.Test.YtiighehibiijcaaDevJ
namespace Go.Proofs.Ytiighehibiijcaa
open Go.RowKit
set_option linter.unusedSimpArgs false
set_option linter.unnecessarySimpa false

/-- A row of Bools that a call is handed, and that its work on the device leaves. -/
def KeepIs (w : World) (g gm : Nat) (v kv : Value) (ks : List Bool) : Prop := ks.length ≤ maxLen ∧ ∃ p c, kv = .slice p ks.length c ∧
  (0 < ks.length → ∃ b o, p = some ⟨b, o, none⟩ ∧ b < w.heap.size ∧ ∀ w' v', Touch g gm w v w' v' → ∀ i (h : i < ks.length), w'.cell? ⟨b, o + i, none⟩ = some (.bool ks[i]))
theorem KeepIs.none (w : World) (g gm : Nat) (v : Value) : KeepIs w g gm v (.slice Option.none 0 0) [] := ⟨by simp, Option.none, 0, rfl, fun h => absurd h (by simp)⟩
/-- What a torn sector holds. -/
def tornS (d : Dev) (cc : Nat) (p : Int × List UInt8) : List UInt8 := p.2.take cc ++ (safeD d p.1).drop cc
/-- One of what waits, behind a crash. -/
def crash1 (ks : List Bool) (torn : Int) (cc : Nat) (d : Dev) (i : Nat) (p : Int × List UInt8) : Dev :=
  if ks[i]? = some true then keepD d p.1 (if (i : Int) = torn then tornS d cc p else p.2) else d
/-- The first so many. -/
def crashN (ks : List Bool) (torn : Int) (cc : Nat) (d : Dev) (l : List (Int × List UInt8)) : Nat → Dev
  | 0 => d
  | i + 1 => match l[i]? with
    | some p => crash1 ks torn cc (crashN ks torn cc d l i) i p
    | none => crashN ks torn cc d l i
theorem keepD_fields (d : Dev) (k : Int) (s : List UInt8) : (keepD d k s).n = d.n ∧ (keepD d k s).waits = d.waits ∧ (keepD d k s).on = d.on ∧ (keepD d k s).armed = d.armed ∧ (keepD d k s).left = d.left ∧ (keepD d k s).steps = d.steps := ⟨rfl, rfl, rfl, rfl, rfl, rfl⟩
/-- What is safe has 64 bytes. -/
def SafeOk (d : Dev) : Prop := ∀ k s, d.safe k = some s → s.length = 64
theorem SafeOk.safeD {d : Dev} (h : SafeOk d) (k : Int) : (safeD d k).length = 64 := by
  unfold Go.Proofs.Ytiighehibiijcaa.safeD
  rcases hs : d.safe k with _ | s
  · rfl
  · exact h k s hs
theorem SafeOk.keep {d : Dev} (h : SafeOk d) (k : Int) {s : List UInt8} (hs : s.length = 64) : SafeOk (keepD d k s) := by
  intro j u hu
  unfold keepD at hu
  simp only [] at hu
  split at hu
  · unfold delF setF at hu
    split at hu
    · cases hu
    · exact h j u (by simpa [*] using hu)
  · unfold setF at hu
    split at hu
    · rw [← Option.some.inj hu]; exact hs
    · exact h j u hu
/-- Each of what waits has a sector, and 64 bytes. -/
def WaitOk (n : Int) (l : List (Int × List UInt8)) : Prop := ∀ p ∈ l, (Lit.int .i64 p.1).wf = true ∧ p.2.length = 64 ∧ hasD n p.1 = true
theorem crash1_n (ks : List Bool) (torn : Int) (cc : Nat) (d : Dev) (i : Nat) (p : Int × List UInt8) : (crash1 ks torn cc d i p).n = d.n ∧ (crash1 ks torn cc d i p).waits = d.waits ∧ (crash1 ks torn cc d i p).left = d.left ∧ (crash1 ks torn cc d i p).steps = d.steps := by
  unfold crash1
  split
  · exact ⟨rfl, rfl, rfl, rfl⟩
  · exact ⟨rfl, rfl, rfl, rfl⟩
theorem crashN_n (ks : List Bool) (torn : Int) (cc : Nat) (d : Dev) (l : List (Int × List UInt8)) : ∀ i, (crashN ks torn cc d l i).n = d.n ∧ (crashN ks torn cc d l i).waits = d.waits ∧ (crashN ks torn cc d l i).left = d.left ∧ (crashN ks torn cc d l i).steps = d.steps := by
  intro i
  induction i with
  | zero => exact ⟨rfl, rfl, rfl, rfl⟩
  | succ i ih =>
    unfold crashN
    split
    · obtain ⟨a1, a2, a3, a4⟩ := crash1_n ks torn cc (crashN ks torn cc d l i) i (by assumption)
      exact ⟨a1.trans ih.1, a2.trans ih.2.1, a3.trans ih.2.2.1, a4.trans ih.2.2.2⟩
    · exact ih
theorem tornS_length {d : Dev} (h : SafeOk d) {cc : Nat} (hc : cc ≤ 64) {p : Int × List UInt8} (hp : p.2.length = 64) : (tornS d cc p).length = 64 := by
  unfold tornS
  rw [List.length_append, List.length_take, List.length_drop, h.safeD, hp]
  omega
theorem crashN_safe {ks : List Bool} {torn : Int} {cc : Nat} {d : Dev} {l : List (Int × List UInt8)} (h : SafeOk d) (hc : cc ≤ 64) (hw : WaitOk d.n l) : ∀ i, SafeOk (crashN ks torn cc d l i) := by
  intro i
  induction i with
  | zero => exact h
  | succ i ih =>
    unfold crashN
    split
    · rename_i p hp
      have hpl := (hw p (List.mem_of_getElem? hp)).2.1
      unfold crash1
      split
      · refine ih.keep _ ?_
        split
        · exact tornS_length ih hc hpl
        · exact hpl
      · exact ih
    · exact ih
theorem crashN_succ {ks : List Bool} {torn : Int} {cc : Nat} {d : Dev} {l : List (Int × List UInt8)} {i : Nat} {p : Int × List UInt8} (h : l[i]? = some p) : crashN ks torn cc d l (i + 1) = crash1 ks torn cc (crashN ks torn cc d l i) i p := by
  rw [crashN, h]
theorem blk_ne {w : World} {g x : Nat} {t u : TypeId} {cs ds : Array Value} (h : Blk w g t cs) (k : Blk w x u ds) (hne : t ≠ u) : g ≠ x := by
  rintro rfl
  unfold Blk at h k
  rw [h] at k
  injection k with k
  injection k with _ k _
  exact hne k
theorem IsDev.setFar {w : World} {g gm x : Nat} {v : Value} {cap B : Nat} {d : Dev} {cs : Array Value} (hd : IsDev w g gm v cap B d) (hx : Blk w x 91 cs) (hv : v.ownBlock ≠ some x) (i : Nat) (u : Value) : IsDev (w.setCell ⟨x, i, none⟩ u) g gm v cap B d := by
  have hg := upd_set w x i u
  exact ⟨hd.1.grown hg (by simpa using blk_ne hd.1 hx (by decide)), hd.2.1.kept hg (by simpa using fun e => (hd.2.1.ne hx) e.symm), hd.2.2.1.grown hg (.inr hv), hd.2.2.2.1, hd.2.2.2.2⟩
theorem Touch.setNew {w w2 : World} {g gm x : Nat} {v v2 : Value} (h : Touch g gm w v w2 v2) (hx : w.heap.size ≤ x) (i : Nat) (u : Value) : Touch g gm w v (w2.setCell ⟨x, i, none⟩ u) v2 :=
  ⟨h.os, h.tape, h.output, by simpa [World.setCell] using h.size, fun k hk h1 h2 h3 => (Below.heap_setCell w2 ⟨x, i, none⟩ u k (by simp; omega)).trans (h.block k hk h1 h2 h3), h.own⟩
def crashD (ks : List Bool) (torn : Int) (cc : Nat) (d : Dev) : Dev := { crashN ks torn cc d d.waits d.waits.length with waits := [], on := true, armed := false }

set_option maxRecDepth 100000 in
set_option maxHeartbeats 4000000 in
theorem crash_mid (w : World) (g gm : Nat) (v kv : Value) (cap B : Nat) (d : Dev) (ks : List Bool) (torn cut : Int) (cc : Nat) (hcc : cut = (cc : Int)) (hcl : cc ≤ 64) (hd : IsDev w g gm v cap B d) (hkv : KeepIs w g gm v kv ks) (hs : SafeOk d) (hw : WaitOk d.n d.waits) (hn0 : d.n ≠ 0) (hn : cap + d.waits.length < 4611686018427) :
    Calls Try.prog 25 #[.pointer (some ⟨g, 0, none⟩), kv, .int .i64 torn, .int .i64 cut] w
      fun e w' => e = .returned (.tuple #[]) ∧ ∃ cap', cap' ≤ cap + d.waits.length ∧ IsDev w' g gm (.slice none 0 0) cap' B (crashD ks torn cc d) ∧ Touch g gm w v w' (.slice none 0 0) := by
  subst hcc
  have hc64 : cc ≤ 64 := by omega
  obtain ⟨l, hl⟩ : ∃ l, d.waits = l := ⟨_, rfl⟩
  unfold crashD
  rw [hl] at hw hn ⊢
  obtain ⟨hkl, kp, kc, rfl, hkcell⟩ := hkv
  have hkl' : ks.length < 9223372036854775808 := by unfold maxLen at hkl; omega
  have HKC := Lib.hid hkcell
  have HD := Lib.hid hd
  have HL := Lib.hid hl
  have HW := Lib.hid hw
  have HS := Lib.hid hs
  have hz : (d.n == 0) = false := by simpa using hn0
  obtain ⟨c0, c1, c2, c3, c4, c5, c6⟩ := dev_cells hd
  obtain ⟨p, c, hv⟩ := hd.2.2.1.form
  rw [hl] at hv
  subst hv
  clear hd hl hw hs hkcell
  go_enter Try.func25, Try.ntmps25
  go_wp2_with fail
  go_loopw [27] (fun i wr => ∃ (j cap' : Nat), j ≤ l.length ∧ i = .int .i64 j ∧ cap' ≤ cap + j ∧ IsDev wr g gm (.slice p l.length c) cap' B (crashN ks torn cc d l j) ∧ Touch g gm w (.slice p l.length c) wr (.slice p l.length c)) (fun i _ => l.length - (intOf i).toNat)
  case atStart => exact ⟨0, cap, Nat.zero_le _, rfl, by omega, HD.out, Touch.refl _ _ _ _⟩
  case round =>
    obtain ⟨j, cap', hj, rfl, hcap, hd, ht⟩ := hrel
    have hwt : (crashN ks torn cc d l j).waits = l := by rw [(crashN_n _ _ _ _ _ _).2.1, HL.out]
    by_cases hlt : j < l.length
    · have hst : crashN ks torn cc d l (j + 1) = crash1 ks torn cc (crashN ks torn cc d l j) j l[j] := crashN_succ (List.getElem?_eq_getElem hlt)
      obtain ⟨hk1, hk2, hk3⟩ := HW.out l[j] (List.getElem_mem hlt)
      have hso := crashN_safe (ks := ks) (torn := torn) HS.out hc64 HW.out j
      rcases hd.2.2.1.read with ⟨-, h2⟩ | ⟨gv, c', heq, -, hgv, -, -, hcell⟩
      · rw [hwt] at h2
        rw [h2] at hlt
        simp at hlt
      · rw [hwt] at hcell
        obtain ⟨e1, e2⟩ := hcell j hlt
        injection heq with hp hp1 hp2
        clear hp1 hp2
        subst hp
        rw [Nat.mul_comm] at e1 e2
        obtain ⟨⟨k, t⟩, hx⟩ : ∃ q, l[j] = q := ⟨_, rfl⟩
        rw [hx] at e1 e2 hst hk1 hk2 hk3
        simp only [] at e1 e2 hk1 hk2 hk3
        have hnn : hasD (crashN ks torn cc d l j).n k = true := by rw [(crashN_n _ _ _ _ _ _).1]; exact hk3
        have hzl := hso.safeD k
        have hd1 := hd.step ((Below.refl wr.heap.size wr).alloc (Nat.le_refl _) (.cells #[.int .i64 k, str t] 91))
        have t1 := ht.trans (Touch.of_below (g := g) (gm := gm) (v := .slice (some ⟨gv, 0, none⟩) l.length c) ((Below.refl wr.heap.size wr).alloc (Nat.le_refl _) (.cells #[.int .i64 k, str t] 91)))
        have hsz := ht.size
        have X1 := Lib.hid (Blk.new wr 91 #[.int .i64 k, str t])
        by_cases hjk : j < ks.length
        · obtain ⟨b, o, hkp, hbw, hkc⟩ := HKC.out (by omega)
          subst hkp
          have kcell : wr.cell? ⟨b, o + j, none⟩ = some (.bool ks[j]) := hkc wr _ ht j hjk
          have lt1 : b < wr.heap.size := Nat.lt_of_lt_of_le hbw ht.size
          obtain ⟨u, hu⟩ : ∃ u, ks[j] = u := ⟨_, rfl⟩
          rw [hu] at kcell
          cases u
          · skip
            have hst2 : crashN ks torn cc d l (j + 1) = crashN ks torn cc d l j := by
              rw [hst]
              unfold crash1
              rw [List.getElem?_eq_getElem hjk, hu]
              rfl
            rw [← hst2] at hd1
            have HD1 := Lib.hid hd1
            have T1 := Lib.hid t1
            clear hst hst2 hd hd1 t1 ht hx hu hcell hkc hso hzl c0 c1 c2 c3 c4 c5 c6 X1 hnn
            go_wp2_with fail
            go_roundw
            case rel => exact ⟨j + 1, cap', by omega, by go_num, by omega, HD1.out, T1.out⟩
            case measure => simp [intOf]; omega
          · by_cases htorn : (j : Int) = torn
            · subst htorn
              have hst2 : crashN ks (j : Int) cc d l (j + 1) = keepD (crashN ks (j : Int) cc d l j) k (tornS (crashN ks (j : Int) cc d l j) cc (k, t)) := by
                rw [hst]
                unfold crash1
                rw [List.getElem?_eq_getElem hjk, hu, if_pos rfl, if_pos rfl]
              unfold tornS at hst2
              obtain ⟨z, hz0⟩ : ∃ z, safeD (crashN ks (j : Int) cc d l j) k = z := ⟨_, rfl⟩
              simp only [] at hst2
              rw [hz0] at hst2 hzl
              obtain ⟨X, hX⟩ : ∃ X, List.take cc t = X := ⟨_, rfl⟩
              obtain ⟨Y, hY⟩ : ∃ Y, List.take (64 - cc) (List.drop cc z) = Y := ⟨_, rfl⟩
              have hci : (cc : Int) ≤ 64 := by omega
              have hzY : z.drop cc = Y := by rw [← hY, List.take_of_length_le]; rw [List.length_drop, hzl]; omega
              have hXY : ¬ 9223372036854775807 < X.length + Y.length := by rw [← hX, ← hzY, List.length_take, List.length_drop]; omega
              have hXYl : (X ++ Y).length = 64 := by rw [← hX, ← hzY, List.length_append, List.length_take, List.length_drop]; omega
              rw [hX, hzY] at hst2
              have HXY := Lib.hid hXYl
              clear hzY hXYl
              obtain ⟨D, hD⟩ : ∃ D, crashN ks (j : Int) cc d l j = D := ⟨_, rfl⟩
              rw [hD] at hst2 hd1 hz0 hnn
              have HS2 := Lib.hid hst2
              have HD1 := Lib.hid hd1
              have T1 := Lib.hid t1
              have HZ := Lib.hid hz0
              have HH := Lib.hid hnn
              clear hst hst2 hd hd1 t1 ht hx hu hcell hkc hso c0 c1 c2 c3 c4 c5 c6 hD hz0 hnn
              go_wp2_with fail
              have hwx := hsz
              have hgx := hgv
              generalize wr.alloc (.cells #[.int .i64 k, str t] 91) = w1 at *
              generalize wr.heap.size = x at *
              refine until_begin 12 (fun w' => w'.cell? ⟨x, 0, none⟩ = some (.int .i64 k) ∧ w'.cell? ⟨x, 1, none⟩ = some (str t)) (by kernel_rfl) ⟨X1.out.cell 0, X1.out.cell 1⟩ (fun hS => ?_)
              refine until_take 0 (some 46) (u := ?_) rfl rfl (by kernel_rfl) (by kernel_rfl) (by kernel_rfl) (by kernel_rfl) (fun _ _ _ h => h) (by rfl) (fun wS hv => ?_) hS ?_
              rotate_left
              · clear hv
                go_simp
                all_goals with_reducible rfl
              try simp only [Act.put, List.setIfInBounds_toArray, List.set]
              refine until_take 1 (some 47) (u := ?_) rfl rfl (by kernel_rfl) (by kernel_rfl) (by kernel_rfl) (by kernel_rfl) (fun _ _ _ h => h) (by rfl) (fun wS hv => ?_) hS ?_
              rotate_left
              · obtain ⟨k1, k2⟩ := hv
                go_simp
                all_goals with_reducible rfl
              try simp only [Act.put, List.setIfInBounds_toArray, List.set]
              refine until_take 2 (some 48) (u := ?_) rfl rfl (by kernel_rfl) (by kernel_rfl) (by kernel_rfl) (by kernel_rfl) (fun _ _ _ h => h) (by rfl) (fun wS hv => ?_) hS ?_
              rotate_left
              · clear hv
                go_simp
                all_goals with_reducible rfl
              try simp only [Act.put, List.setIfInBounds_toArray, List.set]
              refine until_take 3 (some 49) (u := ?_) rfl rfl (by kernel_rfl) (by kernel_rfl) (by kernel_rfl) (by kernel_rfl) (fun _ _ _ h => h) (by rfl) (fun wS hv => ?_) hS ?_
              rotate_left
              · clear hv
                go_simp
                all_goals with_reducible rfl
              try simp only [Act.put, List.setIfInBounds_toArray, List.set]
              refine until_take 4 (some 50) (u := ?_) rfl rfl (by kernel_rfl) (by kernel_rfl) (by kernel_rfl) (by kernel_rfl) (fun _ _ _ h => h) (by rfl) (fun wS hv => ?_) hS ?_
              rotate_left
              · clear hv
                go_simp
                all_goals with_reducible rfl
              try simp only [Act.put, List.setIfInBounds_toArray, List.set]
              refine until_take 5 (some 51) (u := ?_) rfl rfl (by kernel_rfl) (by kernel_rfl) (by kernel_rfl) (by kernel_rfl) (fun _ _ _ h => h) (by rfl) (fun wS hv => ?_) hS ?_
              rotate_left
              · clear hv
                go_simp
                all_goals with_reducible rfl
              try simp only [Act.put, List.setIfInBounds_toArray, List.set]
              refine until_take 6 (some 52) (u := ?_) rfl rfl (by kernel_rfl) (by kernel_rfl) (by kernel_rfl) (by kernel_rfl) (fun _ _ _ h => h) (by rfl) (fun wS hv => ?_) hS ?_
              rotate_left
              · obtain ⟨k1, k2⟩ := hv
                go_simp
                all_goals with_reducible rfl
              try simp only [Act.put, List.setIfInBounds_toArray, List.set]
              refine until_take 8 (some 54) (u := ?_) rfl rfl (by kernel_rfl) (by kernel_rfl) (by kernel_rfl) (by kernel_rfl) (fun _ _ _ h => h) (by rfl) (fun wS hv => ?_) hS ?_
              rotate_left
              · clear hv
                go_simp
                all_goals with_reducible rfl
              try simp only [Act.put, List.setIfInBounds_toArray, List.set]
              refine until_one 7 (by kernel_rfl) rfl (fun K hK => ?_)
              go_simp
              refine (safe_any _ g gm _ _ B _ k (HD1.out.drew 1) hk1).mono ?_
              rw [HH.out]
              rintro e w2 ⟨rfl, hb2⟩
              have X2 := Lib.hid (X1.out.drew.step hb2)
              have HD2 := Lib.hid ((HD1.out.drew 1).step hb2)
              have T2 := Lib.hid (T1.out.drew.trans (Touch.of_below (g := g) (gm := gm) hb2))
              rw [HZ.out]
              refine hK.out _ _ ⟨X2.out.cell 0, X2.out.cell 1⟩ (fun hS => ?_)
              clear hK K
              try simp only [Act.put, List.setIfInBounds_toArray, List.set]
              refine until_take 9 (some 55) (u := ?_) rfl rfl (by kernel_rfl) (by kernel_rfl) (by kernel_rfl) (by kernel_rfl) (fun _ _ _ h => h) (by rfl) (fun wS hv => ?_) hS ?_
              rotate_left
              · clear hv
                go_simp
                all_goals with_reducible rfl
              try simp only [Act.put, List.setIfInBounds_toArray, List.set]
              refine until_take 10 (some 56) (u := ?_) rfl rfl (by kernel_rfl) (by kernel_rfl) (by kernel_rfl) (by kernel_rfl) (fun _ _ _ h => h) (by rfl) (fun wS hv => ?_) hS ?_
              rotate_left
              · clear hv
                go_simp
                all_goals with_reducible rfl
              try simp only [Act.put, List.setIfInBounds_toArray, List.set]
              refine until_take 11 (some 57) (u := ?_) rfl rfl (by kernel_rfl) (by kernel_rfl) (by kernel_rfl) (by kernel_rfl) (fun _ _ _ h => h) (by rfl) (fun wS hv => ?_) hS ?_
              rotate_left
              · clear hv
                go_simp
                all_goals with_reducible rfl
              try simp only [Act.put, List.setIfInBounds_toArray, List.set]
              refine until_last (by kernel_rfl) rfl (by kernel_rfl) (fun K hK => ?_)
              have q0 := X2.out.frozen 1
              go_simp
              refine hK.out _ _ ?_
              clear hK K
              have hd3 := IsDev.setFar HD2.out X2.out (by simp [Value.ownBlock]; omega) 1 (str (X ++ Y))
              have t3 := Touch.setNew T2.out hwx 1 (str (X ++ Y))
              have X3 : Blk (w2.setCell ⟨x, 1, none⟩ (str (X ++ Y))) x 91 #[.int .i64 k, str (X ++ Y)] := X2.out.set_ 1 (str (X ++ Y))
              generalize w2.setCell ⟨x, 1, none⟩ (str (X ++ Y)) = w3 at *
              have x0 : w3.cell? ⟨x, 0, none⟩ = some (.int .i64 k) := X3.cell 0
              have x1 : w3.cell? ⟨x, 1, none⟩ = some (str (X ++ Y)) := X3.cell 1
              have HD4 := Lib.hid hd3
              have T4 := Lib.hid t3
              clear hd3 t3 X3 hS hci hXY
              go_wp2_with fail
              refine (keep_any _ g gm _ cap' B _ k (X ++ Y) HD4.out hk1 (by rw [HXY.out]; decide) (by unfold maxLen; omega)).mono ?_
              rintro e w4 ⟨rfl, hd5, t5⟩
              have t6 := T4.out.trans t5
              rw [← HS2.out] at hd5
              have HD5 := Lib.hid hd5
              have HT6 := Lib.hid t6
              clear HD4 T4 hd5 t5 t6 e1 e2 kcell x0 x1 HD2 T2 X2 HD1 T1 X1
              go_wp2
              go_roundw
              case rel => exact ⟨j + 1, cap' + 1, by omega, by go_num, by omega, HD5.out, HT6.out⟩
              case measure => simp [intOf]; omega
            · have hst2 : crashN ks torn cc d l (j + 1) = keepD (crashN ks torn cc d l j) k t := by
                rw [hst]
                unfold crash1
                rw [List.getElem?_eq_getElem hjk, hu, if_pos rfl, if_neg htorn]
              have HS2 := Lib.hid hst2
              have HD1 := Lib.hid hd1
              have T1 := Lib.hid t1
              clear hst hst2 hd hd1 t1 ht hx hu hcell hkc hso hzl c0 c1 c2 c3 c4 c5 c6 X1 hnn
              go_wp2_with fail
              refine (keep_any _ g gm _ cap' B _ k t HD1.out hk1 (by unfold maxLen; omega) (by unfold maxLen; omega)).mono ?_
              rintro e w2 ⟨rfl, hd3, t3⟩
              have t4 := T1.out.trans t3
              rw [← HS2.out] at hd3
              have HD3 := Lib.hid hd3
              have HT4 := Lib.hid t4
              clear HD1 T1 hd3 t3 t4 e1 e2 kcell
              go_wp2
              go_roundw
              case rel => exact ⟨j + 1, cap' + 1, by omega, by go_num, by omega, HD3.out, HT4.out⟩
              case measure => simp [intOf]; omega
        · have hst2 : crashN ks torn cc d l (j + 1) = crashN ks torn cc d l j := by
            rw [hst]
            unfold crash1
            rw [List.getElem?_eq_none (by omega)]
            rfl
          rw [← hst2] at hd1
          have HD1 := Lib.hid hd1
          have T1 := Lib.hid t1
          clear hst hst2 hd hd1 t1 ht hx hcell hso hzl c0 c1 c2 c3 c4 c5 c6 X1 hnn
          go_wp2_with fail
          go_roundw
          case rel => exact ⟨j + 1, cap', by omega, by go_num, by omega, HD1.out, T1.out⟩
          case measure => simp [intOf]; omega
    · have hjl : j = l.length := by omega
      subst hjl
      obtain ⟨-, -, e3, e4, e5, -⟩ := dev_cells hd
      have q2 := hd.1.frozen 2
      have q3 := hd.1.frozen 3
      have q4 := hd.1.frozen 4
      have HD2 := Lib.hid hd
      have HT := Lib.hid ht
      clear hd ht c0 c1 c2 c3 c4 c5 c6
      go_wp2
      go_end0
      have hd3 := IsDev.setWaits (v2 := .slice none 0 0) (L := []) ⟨HD2.out.1, HD2.out.2.1, OwnW.none _ _, HD2.out.2.2.2.1, HD2.out.2.2.2.2⟩
      have t3 := HT.out.trans (Touch.of_grown (g := g) (gm := gm) (v := .slice p l.length c) (upd_set wr g 2 (.slice none 0 0)) (.inl rfl))
      obtain ⟨hd4, t4⟩ := IsDev.set (i := 3) (u := .bool true) (d' := { crashN ks torn cc d l l.length with waits := [], on := true }) hd3 rfl rfl rfl
      obtain ⟨hd5, t5⟩ := IsDev.set (i := 4) (u := .bool false) (d' := { crashN ks torn cc d l l.length with waits := [], on := true, armed := false }) hd4 rfl rfl rfl
      exact ⟨rfl, cap', hcap, hd5, (t3.to_nil.trans t4).trans t5⟩

set_option maxRecDepth 100000 in
set_option maxHeartbeats 4000000 in
theorem crash_low (w : World) (g gm : Nat) (v kv : Value) (cap B : Nat) (d : Dev) (ks : List Bool) (torn cut : Int) (cc : Nat) (hcc : cc = 0) (hcl : cut < 0) (hd : IsDev w g gm v cap B d) (hkv : KeepIs w g gm v kv ks) (hs : SafeOk d) (hw : WaitOk d.n d.waits) (hn0 : d.n ≠ 0) (hn : cap + d.waits.length < 4611686018427) :
    Calls Try.prog 25 #[.pointer (some ⟨g, 0, none⟩), kv, .int .i64 torn, .int .i64 cut] w
      fun e w' => e = .returned (.tuple #[]) ∧ ∃ cap', cap' ≤ cap + d.waits.length ∧ IsDev w' g gm (.slice none 0 0) cap' B (crashD ks torn cc d) ∧ Touch g gm w v w' (.slice none 0 0) := by
  have HCC := Lib.hid hcc
  have hcc64 : cc ≤ 64 := by omega
  clear hcc
  have hc64 : cc ≤ 64 := by omega
  obtain ⟨l, hl⟩ : ∃ l, d.waits = l := ⟨_, rfl⟩
  unfold crashD
  rw [hl] at hw hn ⊢
  obtain ⟨hkl, kp, kc, rfl, hkcell⟩ := hkv
  have hkl' : ks.length < 9223372036854775808 := by unfold maxLen at hkl; omega
  have HKC := Lib.hid hkcell
  have HD := Lib.hid hd
  have HL := Lib.hid hl
  have HW := Lib.hid hw
  have HS := Lib.hid hs
  have hz : (d.n == 0) = false := by simpa using hn0
  obtain ⟨c0, c1, c2, c3, c4, c5, c6⟩ := dev_cells hd
  obtain ⟨p, c, hv⟩ := hd.2.2.1.form
  rw [hl] at hv
  subst hv
  clear hd hl hw hs hkcell
  go_enter Try.func25, Try.ntmps25
  go_wp2_with fail
  have hcc2 : (0 : Int) = (cc : Int) := by have := HCC.out; omega
  rw [hcc2]
  clear hcc2
  go_loopw [27] (fun i wr => ∃ (j cap' : Nat), j ≤ l.length ∧ i = .int .i64 j ∧ cap' ≤ cap + j ∧ IsDev wr g gm (.slice p l.length c) cap' B (crashN ks torn cc d l j) ∧ Touch g gm w (.slice p l.length c) wr (.slice p l.length c)) (fun i _ => l.length - (intOf i).toNat)
  case atStart => exact ⟨0, cap, Nat.zero_le _, (by rw [HCC.out]), by omega, HD.out, Touch.refl _ _ _ _⟩
  case round =>
    obtain ⟨j, cap', hj, rfl, hcap, hd, ht⟩ := hrel
    have hwt : (crashN ks torn cc d l j).waits = l := by rw [(crashN_n _ _ _ _ _ _).2.1, HL.out]
    by_cases hlt : j < l.length
    · have hst : crashN ks torn cc d l (j + 1) = crash1 ks torn cc (crashN ks torn cc d l j) j l[j] := crashN_succ (List.getElem?_eq_getElem hlt)
      obtain ⟨hk1, hk2, hk3⟩ := HW.out l[j] (List.getElem_mem hlt)
      have hso := crashN_safe (ks := ks) (torn := torn) HS.out hc64 HW.out j
      rcases hd.2.2.1.read with ⟨-, h2⟩ | ⟨gv, c', heq, -, hgv, -, -, hcell⟩
      · rw [hwt] at h2
        rw [h2] at hlt
        simp at hlt
      · rw [hwt] at hcell
        obtain ⟨e1, e2⟩ := hcell j hlt
        injection heq with hp hp1 hp2
        clear hp1 hp2
        subst hp
        rw [Nat.mul_comm] at e1 e2
        obtain ⟨⟨k, t⟩, hx⟩ : ∃ q, l[j] = q := ⟨_, rfl⟩
        rw [hx] at e1 e2 hst hk1 hk2 hk3
        simp only [] at e1 e2 hk1 hk2 hk3
        have hnn : hasD (crashN ks torn cc d l j).n k = true := by rw [(crashN_n _ _ _ _ _ _).1]; exact hk3
        have hzl := hso.safeD k
        have hd1 := hd.step ((Below.refl wr.heap.size wr).alloc (Nat.le_refl _) (.cells #[.int .i64 k, str t] 91))
        have t1 := ht.trans (Touch.of_below (g := g) (gm := gm) (v := .slice (some ⟨gv, 0, none⟩) l.length c) ((Below.refl wr.heap.size wr).alloc (Nat.le_refl _) (.cells #[.int .i64 k, str t] 91)))
        have hsz := ht.size
        have X1 := Lib.hid (Blk.new wr 91 #[.int .i64 k, str t])
        by_cases hjk : j < ks.length
        · obtain ⟨b, o, hkp, hbw, hkc⟩ := HKC.out (by omega)
          subst hkp
          have kcell : wr.cell? ⟨b, o + j, none⟩ = some (.bool ks[j]) := hkc wr _ ht j hjk
          have lt1 : b < wr.heap.size := Nat.lt_of_lt_of_le hbw ht.size
          obtain ⟨u, hu⟩ : ∃ u, ks[j] = u := ⟨_, rfl⟩
          rw [hu] at kcell
          cases u
          · skip
            have hst2 : crashN ks torn cc d l (j + 1) = crashN ks torn cc d l j := by
              rw [hst]
              unfold crash1
              rw [List.getElem?_eq_getElem hjk, hu]
              rfl
            rw [← hst2] at hd1
            have HD1 := Lib.hid hd1
            have T1 := Lib.hid t1
            clear hst hst2 hd hd1 t1 ht hx hu hcell hkc hso hzl c0 c1 c2 c3 c4 c5 c6 X1 hnn
            go_wp2_with fail
            go_roundw
            case rel => exact ⟨j + 1, cap', by omega, by go_num, by omega, HD1.out, T1.out⟩
            case measure => simp [intOf]; omega
          · by_cases htorn : (j : Int) = torn
            · subst htorn
              have hst2 : crashN ks (j : Int) cc d l (j + 1) = keepD (crashN ks (j : Int) cc d l j) k (tornS (crashN ks (j : Int) cc d l j) cc (k, t)) := by
                rw [hst]
                unfold crash1
                rw [List.getElem?_eq_getElem hjk, hu, if_pos rfl, if_pos rfl]
              unfold tornS at hst2
              obtain ⟨z, hz0⟩ : ∃ z, safeD (crashN ks (j : Int) cc d l j) k = z := ⟨_, rfl⟩
              simp only [] at hst2
              rw [hz0] at hst2 hzl
              obtain ⟨X, hX⟩ : ∃ X, List.take cc t = X := ⟨_, rfl⟩
              obtain ⟨Y, hY⟩ : ∃ Y, List.take (64 - cc) (List.drop cc z) = Y := ⟨_, rfl⟩
              have hci : (cc : Int) ≤ 64 := by omega
              have hzY : z.drop cc = Y := by rw [← hY, List.take_of_length_le]; rw [List.length_drop, hzl]; omega
              have hXY : ¬ 9223372036854775807 < X.length + Y.length := by rw [← hX, ← hzY, List.length_take, List.length_drop]; omega
              have hXYl : (X ++ Y).length = 64 := by rw [← hX, ← hzY, List.length_append, List.length_take, List.length_drop]; omega
              rw [hX, hzY] at hst2
              have HXY := Lib.hid hXYl
              clear hzY hXYl
              obtain ⟨D, hD⟩ : ∃ D, crashN ks (j : Int) cc d l j = D := ⟨_, rfl⟩
              rw [hD] at hst2 hd1 hz0 hnn
              have HS2 := Lib.hid hst2
              have HD1 := Lib.hid hd1
              have T1 := Lib.hid t1
              have HZ := Lib.hid hz0
              have HH := Lib.hid hnn
              clear hst hst2 hd hd1 t1 ht hx hu hcell hkc hso c0 c1 c2 c3 c4 c5 c6 hD hz0 hnn
              go_wp2_with fail
              have hwx := hsz
              have hgx := hgv
              generalize wr.alloc (.cells #[.int .i64 k, str t] 91) = w1 at *
              generalize wr.heap.size = x at *
              refine until_begin 12 (fun w' => w'.cell? ⟨x, 0, none⟩ = some (.int .i64 k) ∧ w'.cell? ⟨x, 1, none⟩ = some (str t)) (by kernel_rfl) ⟨X1.out.cell 0, X1.out.cell 1⟩ (fun hS => ?_)
              refine until_take 0 (some 46) (u := ?_) rfl rfl (by kernel_rfl) (by kernel_rfl) (by kernel_rfl) (by kernel_rfl) (fun _ _ _ h => h) (by rfl) (fun wS hv => ?_) hS ?_
              rotate_left
              · clear hv
                go_simp
                all_goals with_reducible rfl
              try simp only [Act.put, List.setIfInBounds_toArray, List.set]
              refine until_take 1 (some 47) (u := ?_) rfl rfl (by kernel_rfl) (by kernel_rfl) (by kernel_rfl) (by kernel_rfl) (fun _ _ _ h => h) (by rfl) (fun wS hv => ?_) hS ?_
              rotate_left
              · obtain ⟨k1, k2⟩ := hv
                go_simp
                all_goals with_reducible rfl
              try simp only [Act.put, List.setIfInBounds_toArray, List.set]
              refine until_take 2 (some 48) (u := ?_) rfl rfl (by kernel_rfl) (by kernel_rfl) (by kernel_rfl) (by kernel_rfl) (fun _ _ _ h => h) (by rfl) (fun wS hv => ?_) hS ?_
              rotate_left
              · clear hv
                go_simp
                all_goals with_reducible rfl
              try simp only [Act.put, List.setIfInBounds_toArray, List.set]
              refine until_take 3 (some 49) (u := ?_) rfl rfl (by kernel_rfl) (by kernel_rfl) (by kernel_rfl) (by kernel_rfl) (fun _ _ _ h => h) (by rfl) (fun wS hv => ?_) hS ?_
              rotate_left
              · clear hv
                go_simp
                all_goals with_reducible rfl
              try simp only [Act.put, List.setIfInBounds_toArray, List.set]
              refine until_take 4 (some 50) (u := ?_) rfl rfl (by kernel_rfl) (by kernel_rfl) (by kernel_rfl) (by kernel_rfl) (fun _ _ _ h => h) (by rfl) (fun wS hv => ?_) hS ?_
              rotate_left
              · clear hv
                go_simp
                all_goals with_reducible rfl
              try simp only [Act.put, List.setIfInBounds_toArray, List.set]
              refine until_take 5 (some 51) (u := ?_) rfl rfl (by kernel_rfl) (by kernel_rfl) (by kernel_rfl) (by kernel_rfl) (fun _ _ _ h => h) (by rfl) (fun wS hv => ?_) hS ?_
              rotate_left
              · clear hv
                go_simp
                all_goals with_reducible rfl
              try simp only [Act.put, List.setIfInBounds_toArray, List.set]
              refine until_take 6 (some 52) (u := ?_) rfl rfl (by kernel_rfl) (by kernel_rfl) (by kernel_rfl) (by kernel_rfl) (fun _ _ _ h => h) (by rfl) (fun wS hv => ?_) hS ?_
              rotate_left
              · obtain ⟨k1, k2⟩ := hv
                go_simp
                all_goals with_reducible rfl
              try simp only [Act.put, List.setIfInBounds_toArray, List.set]
              refine until_take 8 (some 54) (u := ?_) rfl rfl (by kernel_rfl) (by kernel_rfl) (by kernel_rfl) (by kernel_rfl) (fun _ _ _ h => h) (by rfl) (fun wS hv => ?_) hS ?_
              rotate_left
              · clear hv
                go_simp
                all_goals with_reducible rfl
              try simp only [Act.put, List.setIfInBounds_toArray, List.set]
              refine until_one 7 (by kernel_rfl) rfl (fun K hK => ?_)
              go_simp
              refine (safe_any _ g gm _ _ B _ k (HD1.out.drew 1) hk1).mono ?_
              rw [HH.out]
              rintro e w2 ⟨rfl, hb2⟩
              have X2 := Lib.hid (X1.out.drew.step hb2)
              have HD2 := Lib.hid ((HD1.out.drew 1).step hb2)
              have T2 := Lib.hid (T1.out.drew.trans (Touch.of_below (g := g) (gm := gm) hb2))
              rw [HZ.out]
              refine hK.out _ _ ⟨X2.out.cell 0, X2.out.cell 1⟩ (fun hS => ?_)
              clear hK K
              try simp only [Act.put, List.setIfInBounds_toArray, List.set]
              refine until_take 9 (some 55) (u := ?_) rfl rfl (by kernel_rfl) (by kernel_rfl) (by kernel_rfl) (by kernel_rfl) (fun _ _ _ h => h) (by rfl) (fun wS hv => ?_) hS ?_
              rotate_left
              · clear hv
                go_simp
                all_goals with_reducible rfl
              try simp only [Act.put, List.setIfInBounds_toArray, List.set]
              refine until_take 10 (some 56) (u := ?_) rfl rfl (by kernel_rfl) (by kernel_rfl) (by kernel_rfl) (by kernel_rfl) (fun _ _ _ h => h) (by rfl) (fun wS hv => ?_) hS ?_
              rotate_left
              · clear hv
                go_simp
                all_goals with_reducible rfl
              try simp only [Act.put, List.setIfInBounds_toArray, List.set]
              refine until_take 11 (some 57) (u := ?_) rfl rfl (by kernel_rfl) (by kernel_rfl) (by kernel_rfl) (by kernel_rfl) (fun _ _ _ h => h) (by rfl) (fun wS hv => ?_) hS ?_
              rotate_left
              · clear hv
                go_simp
                all_goals with_reducible rfl
              try simp only [Act.put, List.setIfInBounds_toArray, List.set]
              refine until_last (by kernel_rfl) rfl (by kernel_rfl) (fun K hK => ?_)
              have q0 := X2.out.frozen 1
              go_simp
              refine hK.out _ _ ?_
              clear hK K
              have hd3 := IsDev.setFar HD2.out X2.out (by simp [Value.ownBlock]; omega) 1 (str (X ++ Y))
              have t3 := Touch.setNew T2.out hwx 1 (str (X ++ Y))
              have X3 : Blk (w2.setCell ⟨x, 1, none⟩ (str (X ++ Y))) x 91 #[.int .i64 k, str (X ++ Y)] := X2.out.set_ 1 (str (X ++ Y))
              generalize w2.setCell ⟨x, 1, none⟩ (str (X ++ Y)) = w3 at *
              have x0 : w3.cell? ⟨x, 0, none⟩ = some (.int .i64 k) := X3.cell 0
              have x1 : w3.cell? ⟨x, 1, none⟩ = some (str (X ++ Y)) := X3.cell 1
              have HD4 := Lib.hid hd3
              have T4 := Lib.hid t3
              clear hd3 t3 X3 hS hci hXY
              go_wp2_with fail
              refine (keep_any _ g gm _ cap' B _ k (X ++ Y) HD4.out hk1 (by rw [HXY.out]; decide) (by unfold maxLen; omega)).mono ?_
              rintro e w4 ⟨rfl, hd5, t5⟩
              have t6 := T4.out.trans t5
              rw [← HS2.out] at hd5
              have HD5 := Lib.hid hd5
              have HT6 := Lib.hid t6
              clear HD4 T4 hd5 t5 t6 e1 e2 kcell x0 x1 HD2 T2 X2 HD1 T1 X1
              go_wp2
              go_roundw
              case rel => exact ⟨j + 1, cap' + 1, by omega, by go_num, by omega, HD5.out, HT6.out⟩
              case measure => simp [intOf]; omega
            · have hst2 : crashN ks torn cc d l (j + 1) = keepD (crashN ks torn cc d l j) k t := by
                rw [hst]
                unfold crash1
                rw [List.getElem?_eq_getElem hjk, hu, if_pos rfl, if_neg htorn]
              have HS2 := Lib.hid hst2
              have HD1 := Lib.hid hd1
              have T1 := Lib.hid t1
              clear hst hst2 hd hd1 t1 ht hx hu hcell hkc hso hzl c0 c1 c2 c3 c4 c5 c6 X1 hnn
              go_wp2_with fail
              refine (keep_any _ g gm _ cap' B _ k t HD1.out hk1 (by unfold maxLen; omega) (by unfold maxLen; omega)).mono ?_
              rintro e w2 ⟨rfl, hd3, t3⟩
              have t4 := T1.out.trans t3
              rw [← HS2.out] at hd3
              have HD3 := Lib.hid hd3
              have HT4 := Lib.hid t4
              clear HD1 T1 hd3 t3 t4 e1 e2 kcell
              go_wp2
              go_roundw
              case rel => exact ⟨j + 1, cap' + 1, by omega, by go_num, by omega, HD3.out, HT4.out⟩
              case measure => simp [intOf]; omega
        · have hst2 : crashN ks torn cc d l (j + 1) = crashN ks torn cc d l j := by
            rw [hst]
            unfold crash1
            rw [List.getElem?_eq_none (by omega)]
            rfl
          rw [← hst2] at hd1
          have HD1 := Lib.hid hd1
          have T1 := Lib.hid t1
          clear hst hst2 hd hd1 t1 ht hx hcell hso hzl c0 c1 c2 c3 c4 c5 c6 X1 hnn
          go_wp2_with fail
          go_roundw
          case rel => exact ⟨j + 1, cap', by omega, by go_num, by omega, HD1.out, T1.out⟩
          case measure => simp [intOf]; omega
    · have hjl : j = l.length := by omega
      subst hjl
      obtain ⟨-, -, e3, e4, e5, -⟩ := dev_cells hd
      have q2 := hd.1.frozen 2
      have q3 := hd.1.frozen 3
      have q4 := hd.1.frozen 4
      have HD2 := Lib.hid hd
      have HT := Lib.hid ht
      clear hd ht c0 c1 c2 c3 c4 c5 c6
      go_wp2
      go_end0
      have hd3 := IsDev.setWaits (v2 := .slice none 0 0) (L := []) ⟨HD2.out.1, HD2.out.2.1, OwnW.none _ _, HD2.out.2.2.2.1, HD2.out.2.2.2.2⟩
      have t3 := HT.out.trans (Touch.of_grown (g := g) (gm := gm) (v := .slice p l.length c) (upd_set wr g 2 (.slice none 0 0)) (.inl rfl))
      obtain ⟨hd4, t4⟩ := IsDev.set (i := 3) (u := .bool true) (d' := { crashN ks torn cc d l l.length with waits := [], on := true }) hd3 rfl rfl rfl
      obtain ⟨hd5, t5⟩ := IsDev.set (i := 4) (u := .bool false) (d' := { crashN ks torn cc d l l.length with waits := [], on := true, armed := false }) hd4 rfl rfl rfl
      exact ⟨rfl, cap', hcap, hd5, (t3.to_nil.trans t4).trans t5⟩

set_option maxRecDepth 100000 in
set_option maxHeartbeats 4000000 in
theorem crash_high (w : World) (g gm : Nat) (v kv : Value) (cap B : Nat) (d : Dev) (ks : List Bool) (torn cut : Int) (cc : Nat) (hcc : cc = 64) (hcl : 64 < cut) (hd : IsDev w g gm v cap B d) (hkv : KeepIs w g gm v kv ks) (hs : SafeOk d) (hw : WaitOk d.n d.waits) (hn0 : d.n ≠ 0) (hn : cap + d.waits.length < 4611686018427) :
    Calls Try.prog 25 #[.pointer (some ⟨g, 0, none⟩), kv, .int .i64 torn, .int .i64 cut] w
      fun e w' => e = .returned (.tuple #[]) ∧ ∃ cap', cap' ≤ cap + d.waits.length ∧ IsDev w' g gm (.slice none 0 0) cap' B (crashD ks torn cc d) ∧ Touch g gm w v w' (.slice none 0 0) := by
  have HCC := Lib.hid hcc
  have hcc64 : cc ≤ 64 := by omega
  clear hcc
  have hc64 : cc ≤ 64 := by omega
  obtain ⟨l, hl⟩ : ∃ l, d.waits = l := ⟨_, rfl⟩
  unfold crashD
  rw [hl] at hw hn ⊢
  obtain ⟨hkl, kp, kc, rfl, hkcell⟩ := hkv
  have hkl' : ks.length < 9223372036854775808 := by unfold maxLen at hkl; omega
  have HKC := Lib.hid hkcell
  have HD := Lib.hid hd
  have HL := Lib.hid hl
  have HW := Lib.hid hw
  have HS := Lib.hid hs
  have hz : (d.n == 0) = false := by simpa using hn0
  obtain ⟨c0, c1, c2, c3, c4, c5, c6⟩ := dev_cells hd
  obtain ⟨p, c, hv⟩ := hd.2.2.1.form
  rw [hl] at hv
  subst hv
  clear hd hl hw hs hkcell
  go_enter Try.func25, Try.ntmps25
  go_wp2_with fail
  have hcc2 : (64 : Int) = (cc : Int) := by have := HCC.out; omega
  rw [hcc2]
  clear hcc2
  go_loopw [27] (fun i wr => ∃ (j cap' : Nat), j ≤ l.length ∧ i = .int .i64 j ∧ cap' ≤ cap + j ∧ IsDev wr g gm (.slice p l.length c) cap' B (crashN ks torn cc d l j) ∧ Touch g gm w (.slice p l.length c) wr (.slice p l.length c)) (fun i _ => l.length - (intOf i).toNat)
  case atStart => exact ⟨0, cap, Nat.zero_le _, rfl, by omega, HD.out, Touch.refl _ _ _ _⟩
  case round =>
    obtain ⟨j, cap', hj, rfl, hcap, hd, ht⟩ := hrel
    have hwt : (crashN ks torn cc d l j).waits = l := by rw [(crashN_n _ _ _ _ _ _).2.1, HL.out]
    by_cases hlt : j < l.length
    · have hst : crashN ks torn cc d l (j + 1) = crash1 ks torn cc (crashN ks torn cc d l j) j l[j] := crashN_succ (List.getElem?_eq_getElem hlt)
      obtain ⟨hk1, hk2, hk3⟩ := HW.out l[j] (List.getElem_mem hlt)
      have hso := crashN_safe (ks := ks) (torn := torn) HS.out hc64 HW.out j
      rcases hd.2.2.1.read with ⟨-, h2⟩ | ⟨gv, c', heq, -, hgv, -, -, hcell⟩
      · rw [hwt] at h2
        rw [h2] at hlt
        simp at hlt
      · rw [hwt] at hcell
        obtain ⟨e1, e2⟩ := hcell j hlt
        injection heq with hp hp1 hp2
        clear hp1 hp2
        subst hp
        rw [Nat.mul_comm] at e1 e2
        obtain ⟨⟨k, t⟩, hx⟩ : ∃ q, l[j] = q := ⟨_, rfl⟩
        rw [hx] at e1 e2 hst hk1 hk2 hk3
        simp only [] at e1 e2 hk1 hk2 hk3
        have hnn : hasD (crashN ks torn cc d l j).n k = true := by rw [(crashN_n _ _ _ _ _ _).1]; exact hk3
        have hzl := hso.safeD k
        have hd1 := hd.step ((Below.refl wr.heap.size wr).alloc (Nat.le_refl _) (.cells #[.int .i64 k, str t] 91))
        have t1 := ht.trans (Touch.of_below (g := g) (gm := gm) (v := .slice (some ⟨gv, 0, none⟩) l.length c) ((Below.refl wr.heap.size wr).alloc (Nat.le_refl _) (.cells #[.int .i64 k, str t] 91)))
        have hsz := ht.size
        have X1 := Lib.hid (Blk.new wr 91 #[.int .i64 k, str t])
        by_cases hjk : j < ks.length
        · obtain ⟨b, o, hkp, hbw, hkc⟩ := HKC.out (by omega)
          subst hkp
          have kcell : wr.cell? ⟨b, o + j, none⟩ = some (.bool ks[j]) := hkc wr _ ht j hjk
          have lt1 : b < wr.heap.size := Nat.lt_of_lt_of_le hbw ht.size
          obtain ⟨u, hu⟩ : ∃ u, ks[j] = u := ⟨_, rfl⟩
          rw [hu] at kcell
          cases u
          · skip
            have hst2 : crashN ks torn cc d l (j + 1) = crashN ks torn cc d l j := by
              rw [hst]
              unfold crash1
              rw [List.getElem?_eq_getElem hjk, hu]
              rfl
            rw [← hst2] at hd1
            have HD1 := Lib.hid hd1
            have T1 := Lib.hid t1
            clear hst hst2 hd hd1 t1 ht hx hu hcell hkc hso hzl c0 c1 c2 c3 c4 c5 c6 X1 hnn
            go_wp2_with fail
            go_roundw
            case rel => exact ⟨j + 1, cap', by omega, by go_num, by omega, HD1.out, T1.out⟩
            case measure => simp [intOf]; omega
          · by_cases htorn : (j : Int) = torn
            · subst htorn
              have hst2 : crashN ks (j : Int) cc d l (j + 1) = keepD (crashN ks (j : Int) cc d l j) k (tornS (crashN ks (j : Int) cc d l j) cc (k, t)) := by
                rw [hst]
                unfold crash1
                rw [List.getElem?_eq_getElem hjk, hu, if_pos rfl, if_pos rfl]
              unfold tornS at hst2
              obtain ⟨z, hz0⟩ : ∃ z, safeD (crashN ks (j : Int) cc d l j) k = z := ⟨_, rfl⟩
              simp only [] at hst2
              rw [hz0] at hst2 hzl
              obtain ⟨X, hX⟩ : ∃ X, List.take cc t = X := ⟨_, rfl⟩
              obtain ⟨Y, hY⟩ : ∃ Y, List.take (64 - cc) (List.drop cc z) = Y := ⟨_, rfl⟩
              have hci : (cc : Int) ≤ 64 := by omega
              have hzY : z.drop cc = Y := by rw [← hY, List.take_of_length_le]; rw [List.length_drop, hzl]; omega
              have hXY : ¬ 9223372036854775807 < X.length + Y.length := by rw [← hX, ← hzY, List.length_take, List.length_drop]; omega
              have hXYl : (X ++ Y).length = 64 := by rw [← hX, ← hzY, List.length_append, List.length_take, List.length_drop]; omega
              rw [hX, hzY] at hst2
              have HXY := Lib.hid hXYl
              clear hzY hXYl
              obtain ⟨D, hD⟩ : ∃ D, crashN ks (j : Int) cc d l j = D := ⟨_, rfl⟩
              rw [hD] at hst2 hd1 hz0 hnn
              have HS2 := Lib.hid hst2
              have HD1 := Lib.hid hd1
              have T1 := Lib.hid t1
              have HZ := Lib.hid hz0
              have HH := Lib.hid hnn
              clear hst hst2 hd hd1 t1 ht hx hu hcell hkc hso c0 c1 c2 c3 c4 c5 c6 hD hz0 hnn
              go_wp2_with fail
              have hwx := hsz
              have hgx := hgv
              generalize wr.alloc (.cells #[.int .i64 k, str t] 91) = w1 at *
              generalize wr.heap.size = x at *
              refine until_begin 12 (fun w' => w'.cell? ⟨x, 0, none⟩ = some (.int .i64 k) ∧ w'.cell? ⟨x, 1, none⟩ = some (str t)) (by kernel_rfl) ⟨X1.out.cell 0, X1.out.cell 1⟩ (fun hS => ?_)
              refine until_take 0 (some 46) (u := ?_) rfl rfl (by kernel_rfl) (by kernel_rfl) (by kernel_rfl) (by kernel_rfl) (fun _ _ _ h => h) (by rfl) (fun wS hv => ?_) hS ?_
              rotate_left
              · clear hv
                go_simp
                all_goals with_reducible rfl
              try simp only [Act.put, List.setIfInBounds_toArray, List.set]
              refine until_take 1 (some 47) (u := ?_) rfl rfl (by kernel_rfl) (by kernel_rfl) (by kernel_rfl) (by kernel_rfl) (fun _ _ _ h => h) (by rfl) (fun wS hv => ?_) hS ?_
              rotate_left
              · obtain ⟨k1, k2⟩ := hv
                go_simp
                all_goals with_reducible rfl
              try simp only [Act.put, List.setIfInBounds_toArray, List.set]
              refine until_take 2 (some 48) (u := ?_) rfl rfl (by kernel_rfl) (by kernel_rfl) (by kernel_rfl) (by kernel_rfl) (fun _ _ _ h => h) (by rfl) (fun wS hv => ?_) hS ?_
              rotate_left
              · clear hv
                go_simp
                all_goals with_reducible rfl
              try simp only [Act.put, List.setIfInBounds_toArray, List.set]
              refine until_take 3 (some 49) (u := ?_) rfl rfl (by kernel_rfl) (by kernel_rfl) (by kernel_rfl) (by kernel_rfl) (fun _ _ _ h => h) (by rfl) (fun wS hv => ?_) hS ?_
              rotate_left
              · clear hv
                go_simp
                all_goals with_reducible rfl
              try simp only [Act.put, List.setIfInBounds_toArray, List.set]
              refine until_take 4 (some 50) (u := ?_) rfl rfl (by kernel_rfl) (by kernel_rfl) (by kernel_rfl) (by kernel_rfl) (fun _ _ _ h => h) (by rfl) (fun wS hv => ?_) hS ?_
              rotate_left
              · clear hv
                go_simp
                all_goals with_reducible rfl
              try simp only [Act.put, List.setIfInBounds_toArray, List.set]
              refine until_take 5 (some 51) (u := ?_) rfl rfl (by kernel_rfl) (by kernel_rfl) (by kernel_rfl) (by kernel_rfl) (fun _ _ _ h => h) (by rfl) (fun wS hv => ?_) hS ?_
              rotate_left
              · clear hv
                go_simp
                all_goals with_reducible rfl
              try simp only [Act.put, List.setIfInBounds_toArray, List.set]
              refine until_take 6 (some 52) (u := ?_) rfl rfl (by kernel_rfl) (by kernel_rfl) (by kernel_rfl) (by kernel_rfl) (fun _ _ _ h => h) (by rfl) (fun wS hv => ?_) hS ?_
              rotate_left
              · obtain ⟨k1, k2⟩ := hv
                go_simp
                all_goals with_reducible rfl
              try simp only [Act.put, List.setIfInBounds_toArray, List.set]
              refine until_take 8 (some 54) (u := ?_) rfl rfl (by kernel_rfl) (by kernel_rfl) (by kernel_rfl) (by kernel_rfl) (fun _ _ _ h => h) (by rfl) (fun wS hv => ?_) hS ?_
              rotate_left
              · clear hv
                go_simp
                all_goals with_reducible rfl
              try simp only [Act.put, List.setIfInBounds_toArray, List.set]
              refine until_one 7 (by kernel_rfl) rfl (fun K hK => ?_)
              go_simp
              refine (safe_any _ g gm _ _ B _ k (HD1.out.drew 1) hk1).mono ?_
              rw [HH.out]
              rintro e w2 ⟨rfl, hb2⟩
              have X2 := Lib.hid (X1.out.drew.step hb2)
              have HD2 := Lib.hid ((HD1.out.drew 1).step hb2)
              have T2 := Lib.hid (T1.out.drew.trans (Touch.of_below (g := g) (gm := gm) hb2))
              rw [HZ.out]
              refine hK.out _ _ ⟨X2.out.cell 0, X2.out.cell 1⟩ (fun hS => ?_)
              clear hK K
              try simp only [Act.put, List.setIfInBounds_toArray, List.set]
              refine until_take 9 (some 55) (u := ?_) rfl rfl (by kernel_rfl) (by kernel_rfl) (by kernel_rfl) (by kernel_rfl) (fun _ _ _ h => h) (by rfl) (fun wS hv => ?_) hS ?_
              rotate_left
              · clear hv
                go_simp
                all_goals with_reducible rfl
              try simp only [Act.put, List.setIfInBounds_toArray, List.set]
              refine until_take 10 (some 56) (u := ?_) rfl rfl (by kernel_rfl) (by kernel_rfl) (by kernel_rfl) (by kernel_rfl) (fun _ _ _ h => h) (by rfl) (fun wS hv => ?_) hS ?_
              rotate_left
              · clear hv
                go_simp
                all_goals with_reducible rfl
              try simp only [Act.put, List.setIfInBounds_toArray, List.set]
              refine until_take 11 (some 57) (u := ?_) rfl rfl (by kernel_rfl) (by kernel_rfl) (by kernel_rfl) (by kernel_rfl) (fun _ _ _ h => h) (by rfl) (fun wS hv => ?_) hS ?_
              rotate_left
              · clear hv
                go_simp
                all_goals with_reducible rfl
              try simp only [Act.put, List.setIfInBounds_toArray, List.set]
              refine until_last (by kernel_rfl) rfl (by kernel_rfl) (fun K hK => ?_)
              have q0 := X2.out.frozen 1
              go_simp
              refine hK.out _ _ ?_
              clear hK K
              have hd3 := IsDev.setFar HD2.out X2.out (by simp [Value.ownBlock]; omega) 1 (str (X ++ Y))
              have t3 := Touch.setNew T2.out hwx 1 (str (X ++ Y))
              have X3 : Blk (w2.setCell ⟨x, 1, none⟩ (str (X ++ Y))) x 91 #[.int .i64 k, str (X ++ Y)] := X2.out.set_ 1 (str (X ++ Y))
              generalize w2.setCell ⟨x, 1, none⟩ (str (X ++ Y)) = w3 at *
              have x0 : w3.cell? ⟨x, 0, none⟩ = some (.int .i64 k) := X3.cell 0
              have x1 : w3.cell? ⟨x, 1, none⟩ = some (str (X ++ Y)) := X3.cell 1
              have HD4 := Lib.hid hd3
              have T4 := Lib.hid t3
              clear hd3 t3 X3 hS hci hXY
              go_wp2_with fail
              refine (keep_any _ g gm _ cap' B _ k (X ++ Y) HD4.out hk1 (by rw [HXY.out]; decide) (by unfold maxLen; omega)).mono ?_
              rintro e w4 ⟨rfl, hd5, t5⟩
              have t6 := T4.out.trans t5
              rw [← HS2.out] at hd5
              have HD5 := Lib.hid hd5
              have HT6 := Lib.hid t6
              clear HD4 T4 hd5 t5 t6 e1 e2 kcell x0 x1 HD2 T2 X2 HD1 T1 X1
              go_wp2
              go_roundw
              case rel => exact ⟨j + 1, cap' + 1, by omega, by go_num, by omega, HD5.out, HT6.out⟩
              case measure => simp [intOf]; omega
            · have hst2 : crashN ks torn cc d l (j + 1) = keepD (crashN ks torn cc d l j) k t := by
                rw [hst]
                unfold crash1
                rw [List.getElem?_eq_getElem hjk, hu, if_pos rfl, if_neg htorn]
              have HS2 := Lib.hid hst2
              have HD1 := Lib.hid hd1
              have T1 := Lib.hid t1
              clear hst hst2 hd hd1 t1 ht hx hu hcell hkc hso hzl c0 c1 c2 c3 c4 c5 c6 X1 hnn
              go_wp2_with fail
              refine (keep_any _ g gm _ cap' B _ k t HD1.out hk1 (by unfold maxLen; omega) (by unfold maxLen; omega)).mono ?_
              rintro e w2 ⟨rfl, hd3, t3⟩
              have t4 := T1.out.trans t3
              rw [← HS2.out] at hd3
              have HD3 := Lib.hid hd3
              have HT4 := Lib.hid t4
              clear HD1 T1 hd3 t3 t4 e1 e2 kcell
              go_wp2
              go_roundw
              case rel => exact ⟨j + 1, cap' + 1, by omega, by go_num, by omega, HD3.out, HT4.out⟩
              case measure => simp [intOf]; omega
        · have hst2 : crashN ks torn cc d l (j + 1) = crashN ks torn cc d l j := by
            rw [hst]
            unfold crash1
            rw [List.getElem?_eq_none (by omega)]
            rfl
          rw [← hst2] at hd1
          have HD1 := Lib.hid hd1
          have T1 := Lib.hid t1
          clear hst hst2 hd hd1 t1 ht hx hcell hso hzl c0 c1 c2 c3 c4 c5 c6 X1 hnn
          go_wp2_with fail
          go_roundw
          case rel => exact ⟨j + 1, cap', by omega, by go_num, by omega, HD1.out, T1.out⟩
          case measure => simp [intOf]; omega
    · have hjl : j = l.length := by omega
      subst hjl
      obtain ⟨-, -, e3, e4, e5, -⟩ := dev_cells hd
      have q2 := hd.1.frozen 2
      have q3 := hd.1.frozen 3
      have q4 := hd.1.frozen 4
      have HD2 := Lib.hid hd
      have HT := Lib.hid ht
      clear hd ht c0 c1 c2 c3 c4 c5 c6
      go_wp2
      go_end0
      have hd3 := IsDev.setWaits (v2 := .slice none 0 0) (L := []) ⟨HD2.out.1, HD2.out.2.1, OwnW.none _ _, HD2.out.2.2.2.1, HD2.out.2.2.2.2⟩
      have t3 := HT.out.trans (Touch.of_grown (g := g) (gm := gm) (v := .slice p l.length c) (upd_set wr g 2 (.slice none 0 0)) (.inl rfl))
      obtain ⟨hd4, t4⟩ := IsDev.set (i := 3) (u := .bool true) (d' := { crashN ks torn cc d l l.length with waits := [], on := true }) hd3 rfl rfl rfl
      obtain ⟨hd5, t5⟩ := IsDev.set (i := 4) (u := .bool false) (d' := { crashN ks torn cc d l l.length with waits := [], on := true, armed := false }) hd4 rfl rfl rfl
      exact ⟨rfl, cap', hcap, hd5, (t3.to_nil.trans t4).trans t5⟩

theorem crash_any (w : World) (g gm : Nat) (v kv : Value) (cap B : Nat) (d : Dev) (ks : List Bool) (torn cut : Int) (hd : IsDev w g gm v cap B d) (hkv : KeepIs w g gm v kv ks) (hs : SafeOk d) (hw : WaitOk d.n d.waits) (hn0 : d.n ≠ 0) (hn : cap + d.waits.length < 4611686018427) :
    Calls Try.prog 25 #[.pointer (some ⟨g, 0, none⟩), kv, .int .i64 torn, .int .i64 cut] w
      fun e w' => e = .returned (.tuple #[]) ∧ ∃ cap', cap' ≤ cap + d.waits.length ∧ IsDev w' g gm (.slice none 0 0) cap' B (crashD ks torn (min (max cut 0) 64).toNat d) ∧ Touch g gm w v w' (.slice none 0 0) := by
  by_cases h0 : cut < 0
  · rw [show (min (max cut 0) 64).toNat = 0 by omega]
    exact crash_low w g gm v kv cap B d ks torn cut 0 rfl h0 hd hkv hs hw hn0 hn
  · by_cases h1 : cut ≤ 64
    · rw [show (min (max cut 0) 64).toNat = cut.toNat by omega]
      exact crash_mid w g gm v kv cap B d ks torn cut cut.toNat (by omega) (by omega) hd hkv hs hw hn0 hn
    · rw [show (min (max cut 0) 64).toNat = 64 by omega]
      exact crash_high w g gm v kv cap B d ks torn cut 64 rfl (by omega) hd hkv hs hw hn0 hn
set_option maxHeartbeats 800000 in
theorem crash_nil (w : World) (kv : Value) (torn cut : Int) :
    Calls Try.prog 25 #[.pointer none, kv, .int .i64 torn, .int .i64 cut] w fun e w' => e = .returned (.tuple #[]) ∧ w = w' := by
  go_enter Try.func25, Try.ntmps25
  go_wp2_with fail
  (try simp only [Exit.inBlock, Exit.then]); refine bodyPost_ret (results_none rfl _ _ _) rfl ?_
  exact ⟨rfl, rfl⟩
end Go.Proofs.Ytiighehibiijcaa

/-
  What Write of the document's device does, and Same of two rows of what waits. No conditions beside those in each theorem.
-/
import Derived.Test.YtiighehibiijcaaRefDevA
import Derived.Deep.QuietTactic
import Derived.BigQuiet
namespace Go.Proofs.Ytiighehibiijcaa
open Go.RowKit
set_option linter.unusedSimpArgs false
set_option linter.unnecessarySimpa false
set_option linter.unusedVariables false

def stepR (d : Dev) : Dev := if goesD d then stepD d else { d with on := false }
theorem stepR_waits (d : Dev) : (stepR d).waits = d.waits := by unfold stepR; split; exact stepD_waits d; rfl
theorem stepR_write (d : Dev) (k : Int) (s : List UInt8) : { stepR d with waits := d.waits ++ [(k, s)] } = writeD d k s := rfl
theorem stepR_safeL (d : Dev) : safeL (stepR d) = safeL d := by
  unfold stepR
  split
  · exact safeL_same (stepD_safe d) (stepD_n d)
  · exact safeL_same rfl rfl
set_option maxRecDepth 100000 in
set_option maxHeartbeats 3200000 in
theorem refWrite_any (w : World) (h : Nat) (sv rv : Value) (B : Nat) (d : Dev) (k : Int) (s : List UInt8) (hd : IsRef w h sv rv B d) (hok : OkD d) (hn0 : 0 ≤ d.n) (hn1 : d.n ≤ 4096) (hs63 : s.length ≤ 1000000) :
    Calls Try.prog 33 #[.pointer (some ⟨h, 0, none⟩), .int .i64 k, str s] w
      fun e w' => e = .returned (.int .i64 (writeE d k s)) ∧ ∃ rv', IsRef w' h sv rv' B (writeR d k s) ∧ RTouch h sv w rv w' rv' := by
  obtain ⟨i0, hi, hz0, hz1, hz2⟩ : ∃ i, Try.prog.info? 91 = some i ∧ i.zero = some (.agg #[.int .i64 0, .string ByteArray.empty]) ∧ i.size = 2 ∧ i.bytes = 24 := info_parts (by kernel_rfl)
  have HD := Lib.hid hd
  have OK := Lib.hid hok
  obtain ⟨c0, c1, c2, -⟩ := ref_cells hd
  obtain ⟨p, c, hsv⟩ := hd.2.1.len
  have hsl := safeL_length d
  have hwl := hok.2.2.2.2
  unfold writeE writeR
  obtain ⟨on, hon⟩ : ∃ u, d.on = u := ⟨_, rfl⟩
  rw [hon] at c2 ⊢
  have HON := Lib.hid hon
  clear hd hok hon
  subst hsv
  have hlen : ((safeL d).length : Int) = d.n := by omega
  cases on
  · clear hsl hlen
    go_enter Try.func33, Try.ntmps33
    go_wp2_with fail
    go_ret
    exact ⟨rfl, rv, HD.out, RTouch.refl _ _ _ _⟩
  · by_cases h0 : 0 ≤ k
    · have h0' : ¬ k < 0 := by omega
      by_cases h1 : k < d.n
      · have hu : hasD d.n k = true := by simp [hasD, h0, h1]
        rw [hu]
        have h1'' : ¬ ((safeL d).length : Int) ≤ k := by omega
        by_cases h64 : s.length = 64
        · have h64' : (s.length : Int) = 64 := by omega
          rw [if_pos h64, if_pos h64]
          simp only [if_true]
          clear hu h0 h1 hsl hlen h64
          obtain ⟨er, her⟩ : ∃ er, (if goesD d = true then (0 : Int) else 14) = er := ⟨_, rfl⟩
          rw [her]
          have HE := Lib.hid her
          clear her
          go_enter Try.func33, Try.ntmps33
          go_wp2_with fail
          refine (refStep_any _ h _ rv B d HD.out OK.out).mono ?_
          rw [HE.out]
          rintro e w1 ⟨rfl, hd1, t1⟩
          have HD1 := Lib.hid (show IsRef w1 h _ rv B (stepR d) from hd1)
          have T1 := Lib.hid t1
          clear hd1 t1 c0 c1 c2
          obtain ⟨d0, d1, -⟩ := ref_cells HD1.out
          have hB := HD1.out.2.2.2
          have lh := HD1.out.1.lt
          have hw1 : OwnW w1 B rv d.waits := by have := HD1.out.2.2.1; rwa [stepR_waits] at this
          have HW1 := Lib.hid hw1
          clear hw1
          go_wp2_with (at_builtin; refine wpList_append_lies _ rfl _ _ 37 rfl B 91 i0 (.agg #[.int .i64 0, .string ByteArray.empty]) 2 24 Try.underlying37 hi hz0 hz1 hz2 rfl (by decide) rv d.waits.length (wcells d.waits) rfl (HW1.out.alloc _) ⟨w1.heap.size, 0, none⟩ 1 1 [.int .i64 k, str s] rfl rfl (World.news_of_block (Blk.new w1 91 #[.int .i64 k, str s])) (by simp [Value.oneCell']) (by decide) (by unfold maxLen; omega) (by omega) (by simp; omega) _ rfl ?_; intro gv c2 w2 hown hgrow hat hlt; have HB2 := Lib.hid (Blk.grown (Blk.alloc HD1.out.1 (.cells #[.int .i64 k, str s] 91)) hgrow (OwnW.ne HW1.out HD1.out.1 (by decide)).symm); have q1 := HB2.out.frozen 1; have q2 := HB2.out.cell 1; have HOWN := Lib.hid hown; have HGROW := Lib.hid hgrow; have HAT := Lib.hid hat; clear hown hgrow hat)
          have HS2 := Lib.hid (OwnS.grown (OwnS.alloc HD1.out.2.1 (.cells #[.int .i64 k, str s] 91)) HGROW.out (by
            rcases hv : (Value.slice p (safeL d).length c).ownBlock with _ | i
            · exact .inl rfl
            · exact .inr (fun e => OwnS.apart HD1.out.2.1 HW1.out hv e.symm)))
          go_ret
          have hd3 := IsRef.setWaits (d := stepR d) HB2.out HS2.out (OwnW.push HOWN.out) hB
          rw [stepR_write] at hd3
          have t2 : RTouch h (.slice p (safeL d).length c) w1 rv (w1.alloc (.cells #[.int .i64 k, str s] 91)) rv := RTouch.of_below ((Below.refl _ _).alloc (Nat.le_refl _) _)
          have t3 : RTouch h (.slice p (safeL d).length c) w1 rv w2 (.slice (some ⟨gv, 0, none⟩) (d.waits.length + 1) c2) := t2.trans (RTouch.of_own HGROW.out (fun i hi => own_at (HAT.out.imp id (fun e => by rw [e])) hi))
          exact ⟨rfl, _, hd3, (T1.out.trans t3).trans (RTouch.of_grown (upd_set w2 h 1 _) (.inl rfl))⟩
        · have h64' : ¬ (s.length : Int) = 64 := by omega
          rw [if_neg h64, if_neg h64]
          simp only [if_true]
          clear hu h0 h1 hsl hlen
          go_enter Try.func33, Try.ntmps33
          go_wp2_with fail
          go_ret
          exact ⟨rfl, rv, HD.out, RTouch.refl _ _ _ _⟩
      · have hu : hasD d.n k = false := by simp [hasD, h0, h1]
        rw [hu]
        have h1' : ((safeL d).length : Int) ≤ k := by omega
        clear hu hsl hlen
        go_enter Try.func33, Try.ntmps33
        go_wp2_with fail
        go_ret
        exact ⟨rfl, rv, HD.out, RTouch.refl _ _ _ _⟩
    · have hu : hasD d.n k = false := by simp [hasD, h0]
      rw [hu]
      have h0' : k < 0 := by omega
      clear hu hsl hlen
      go_enter Try.func33, Try.ntmps33
      go_wp2_with fail
      go_ret
      exact ⟨rfl, rv, HD.out, RTouch.refl _ _ _ _⟩

/-! Same. -/
set_option maxRecDepth 100000 in
set_option maxHeartbeats 3200000 in
theorem refSame_any (w : World) (a b : Value) (B1 B2 : Nat) (l : List (Int × List UInt8)) (ha : OwnW w B1 a l) (hb : OwnW w B2 b l) :
    Calls Try.prog 34 #[a, b] w fun e w' => e = .returned (.bool true) ∧ Below w.heap.size w w' := by
  obtain ⟨p, c, rfl⟩ := ha.form
  obtain ⟨p2, c2, rfl⟩ := hb.form
  have HA := Lib.hid ha.read
  have HB := Lib.hid hb.read
  have hf := ha.fits
  unfold maxLen at hf
  clear ha hb
  go_enter Try.func34, Try.ntmps34
  go_wp2_with fail
  go_loopw [5] (fun i wr => ∃ j : Nat, j ≤ l.length ∧ i = .int .i64 j ∧ Below w.heap.size w wr) (fun i _ => l.length - (intOf i).toNat)
  case atStart => exact ⟨0, Nat.zero_le _, rfl, Below.refl _ _⟩
  case round =>
    obtain ⟨j, hj, rfl, hbl⟩ := hrel
    by_cases hlt : j < l.length
    · have hji : (j : Int) < (l.length : Int) := by omega
      rcases HA.out with ⟨-, h2⟩ | ⟨g1, q1, h1, -, hg1, -, -, hc1⟩
      · rw [h2] at hlt; simp at hlt
      · rcases HB.out with ⟨-, h3⟩ | ⟨g2, q2, h4, -, hg2, -, -, hc2⟩
        · rw [h3] at hlt; simp at hlt
        · injection h1 with h1 h1b h1c
          injection h4 with h4 h4b h4c
          clear h1b h1c h4b h4c
          subst h1
          subst h4
          obtain ⟨e1, e2⟩ := hc1 j hlt
          obtain ⟨e3, e4⟩ := hc2 j hlt
          rw [Nat.mul_comm] at e1 e2 e3 e4
          obtain ⟨⟨x, t⟩, hx⟩ : ∃ q, l[j] = q := ⟨_, rfl⟩
          rw [hx] at e1 e2 e3 e4
          simp only [] at e1 e2 e3 e4
          replace e1 := (hbl.cell (p := ⟨g1, j * 2, none⟩) hg1).trans e1
          replace e2 := (hbl.cell (p := ⟨g1, j * 2 + 1, none⟩) hg1).trans e2
          replace e3 := (hbl.cell (p := ⟨g2, j * 2, none⟩) hg2).trans e3
          replace e4 := (hbl.cell (p := ⟨g2, j * 2 + 1, none⟩) hg2).trans e4
          clear hx hc1 hc2 HA HB
          go_wp2
          go_quiet (fail)
          go_wp2
          go_roundw
          case rel => exact ⟨j + 1, by omega, by go_num, bel_step hbl ⟨rfl, rfl, rfl, Nat.le_refl _, fun _ _ => rfl⟩⟩
          case measure => simp [intOf]; omega
    · obtain rfl : j = l.length := by omega
      go_wp2_with fail
      go_ret
      exact ⟨rfl, hbl⟩
end Go.Proofs.Ytiighehibiijcaa

/-
  The walk of TlvSizes: it returns true for every field and texts. No conditions beside those in each theorem.
-/
import Derived.Test.YtjanmonoigpmcaaLaw01
import Derived.Test.YtjanmonoigpmcaaTlvAll
import Derived.Deep.RegionHeld3
import Derived.IntWalk
namespace Go.Proofs.Ytjanmonoigpmcaa
open Go.RowKit

/-- What a list's field holds. -/
def sumT : List (List UInt8) → Nat
  | [] => 0
  | s :: l => 4 + s.length + sumT l
theorem catT_length (c : Int) : ∀ l, (catT c l).length = sumT l := by
  intro l
  induction l with
  | nil => rfl
  | cons a l ih => simp only [catT, List.length_append, tText_length, ih, sumT]
theorem sumT_snoc (l : List (List UInt8)) (s : List UInt8) : sumT (l ++ [s]) = sumT l + (4 + s.length) := by
  induction l with
  | nil => simp [sumT]
  | cons a l ih => simp only [List.cons_append, sumT, ih]; omega
theorem sumT_le : ∀ (l : List (List UInt8)) (n : Nat), (∀ b ∈ l, b.length ≤ n) → sumT l ≤ (4 + n) * l.length := by
  intro l n
  induction l with
  | nil => intro _; simp [sumT]
  | cons a l ih =>
    intro h
    have ha := h a (by simp)
    have := ih (fun b hb => h b (by simp [hb]))
    simp only [sumT, List.length_cons, Nat.mul_add, Nat.mul_one]
    omega

theorem cells3 {w : World} {g : Nat} {t : TypeId} {x y z : Value} (h : Blk w g t #[x, y, z]) : w.cell? ⟨g, 0, none⟩ = some x ∧ w.cell? ⟨g, 1, none⟩ = some y ∧ w.cell? ⟨g, 2, none⟩ = some z := ⟨Blk.cell h 0, Blk.cell h 1, Blk.cell h 2⟩
theorem digs_div (m : Nat) (h : m < 256 ^ 8) (h0 : 0 < m) : (digs m).length = (digs (m / 256)).length + 1 := by
  rw [digs_step m h, if_neg (by omega)]
  simp
theorem tText_body (c : Int) (s : List UInt8) : List.drop 4 (tText c s) = s := rfl

theorem ReadS.step {w w' : World} {v : Value} {L : List (List UInt8)} (h : ReadS w v L) (hb : Below w.heap.size w w') : ReadS w' v L := by
  obtain ⟨p, cp, h1, h2, h3⟩ := h
  refine ⟨p, cp, h1, h2, fun h => ?_⟩
  obtain ⟨b, o, k1, k2, k3⟩ := h3 h
  exact ⟨b, o, k1, Nat.lt_of_lt_of_le k2 hb.size, fun i hi => (hb.cell (p := ⟨b, o + i, none⟩) k2).trans (k3 i hi)⟩

theorem keep3 {w w' : World} {g : Nat} {x y z v : Value} {M : List (List UInt8)} (hb : Below w.heap.size w w') (h : w.cell? ⟨g, 0, none⟩ = some x ∧ w.cell? ⟨g, 1, none⟩ = some y ∧ w.cell? ⟨g, 2, none⟩ = some z ∧ Hid (ReadS w v M)) :
    w'.cell? ⟨g, 0, none⟩ = some x ∧ w'.cell? ⟨g, 1, none⟩ = some y ∧ w'.cell? ⟨g, 2, none⟩ = some z ∧ Hid (ReadS w' v M) := by
  obtain ⟨h0, h1, h2, h3⟩ := h
  have hlt := World.block_lt_of_cell? w _ h0
  exact ⟨(hb.cell (p := ⟨g, 0, none⟩) hlt).trans h0, (hb.cell (p := ⟨g, 1, none⟩) hlt).trans h1, (hb.cell (p := ⟨g, 2, none⟩) hlt).trans h2, Lib.hid (ReadS.step h3.out hb)⟩

set_option maxRecDepth 100000 in
set_option maxHeartbeats 1600000 in
theorem tlvSizes_walk (c : Int) (n : Nat) (s : List UInt8) (c0 : 0 ≤ c) (c1 : c ≤ 255) (hn : n < 256 ^ 8) (v : Value) (L : List (List UInt8)) (w : World) (hv : ReadS w v L) :
    Calls Try.prog 4 #[.agg #[.int .u8 c, .int .u64 n, str s], v] w fun e w' => e = .returned (.bool true) ∧ Below w.heap.size w w' := by
  have Hn := Lib.hid hn
  clear hn
  obtain ⟨S, hS⟩ : ∃ S, s.take 200 = S := ⟨_, rfl⟩
  have hSl : S.length ≤ 200 := by rw [← hS, List.length_take]; omega
  have HS := Lib.hid hS
  obtain ⟨M, hM⟩ : ∃ M, few30 L 8 = M := ⟨_, rfl⟩
  have hMl : M.length ≤ 8 := by rw [← hM]; exact few30_most L
  have hMs : sumT M ≤ 34 * M.length := by rw [← hM]; exact sumT_le _ 30 (few30_le L 8)
  have HM := Lib.hid hM
  have HV := Lib.hid hv
  clear hS hM hv
  go_enter Try.func4, Try.ntmps4
  go_wp2_with fail
  have F0 := Lib.hid (Blk.new w 24 #[.int .u8 c, .int .u64 n, str s])
  have hb0 := (Below.refl w.heap.size w).alloc (Nat.le_refl _) (.cells #[.int .u8 c, .int .u64 n, str s] 24)
  refine (awake01_any _).mono ?_
  rintro e w1 ⟨rfl, hb1⟩
  have hb1' := bel_step hb0 hb1
  have F1 := Lib.hid (Blk.step F0.out hb1)
  obtain ⟨d0, d1, d2⟩ := cells3 F1.out
  clear hb1 F0 hb0
  go_wp2_with fail
  refine (short01_any s 200 _).mono ?_
  rw [HS.out]
  rintro e w2 ⟨rfl, rfl⟩
  go_wp2_with fail
  refine (few01_any v L _ (by
    obtain ⟨p, cp, h1, h2, h3⟩ := HV.out
    refine ⟨p, cp, h1, h2, fun h => ?_⟩
    obtain ⟨b, o, k1, k2, k3⟩ := h3 h
    have := hb1'.size
    exact ⟨b, o, k1, by omega, fun i hi => (hb1'.cell (p := ⟨b, o + i, none⟩) k2).trans (k3 i hi)⟩)).mono ?_
  rw [HM.out]
  rintro e w3 ⟨v3, rfl, hown, hb3⟩
  have hb3' := bel_step hb1' hb3
  have F3 := Lib.hid (Blk.step F1.out hb3)
  have HR := Lib.hid hown.reads
  obtain ⟨p3, cp3, rfl, hmax3, hc3⟩ := hown.reads
  have HC3 := Lib.hid hc3
  clear d0 d1 d2 hown F1 hc3
  obtain ⟨d0, d1, d2⟩ := cells3 F3.out
  go_wp2_with fail
  clear d0 d1 d2
  go_loopw [8, 9] (fun cn k wr => ∃ (m a : Nat), m ≤ n ∧ k = .int .u64 m ∧ cn = .int .i64 a ∧ a + (digs m).length = 4 + (digs n).length ∧ wr = w3) (fun _ k _ => (intOf k).toNat)
  case atStart => exact ⟨n, 4, Nat.le_refl _, rfl, rfl, rfl, rfl⟩
  case round =>
    obtain ⟨m, a, hm, rfl, rfl, hsum, rfl⟩ := hrel
    have Hsum := Lib.hid hsum
    clear hsum
    rcases Nat.eq_zero_or_pos m with h0 | h0
    · subst h0
      have ha : a = 4 + (digs n).length := by have := Hsum.out; rw [show digs 0 = [] from digsF_zero 8] at this; simpa using this
      have hd8 := digs_length n
      go_wp2_with fail
      go_loopw [10, 11] (fun al k w4 => ∃ j : Nat, j ≤ M.length ∧ k = .int .i64 j ∧ al = .int .i64 (4 + sumT (M.take j) : Nat) ∧ w4 = wr) (fun _ k _ => M.length - (intOf k).toNat)
      case atStart => exact ⟨0, Nat.zero_le _, rfl, rfl, rfl⟩
      case round =>
        obtain ⟨j, hj, rfl, rfl, rfl⟩ := hrel
        have hjm := few30_most L
        by_cases hlt : j < M.length
        · obtain ⟨b, o, rfl, hbw, hcell⟩ := HC3.out (by omega)
          have c1' := hcell j hlt
          have Hstep := Lib.hid (show sumT (M.take (j + 1)) = sumT (M.take j) + (4 + M[j].length) by rw [List.take_succ_eq_append_getElem hlt, sumT_snoc])
          have hAl : M[j].length ≤ 30 := few30_le L 8 M[j] (by rw [HM.out]; exact List.getElem_mem hlt)
          have hTl : sumT (M.take j) ≤ 34 * j := by
            have := sumT_le (M.take j) 30 (fun b hb => few30_le L 8 b (by rw [HM.out]; exact List.mem_of_mem_take hb))
            rw [List.length_take] at this
            omega
          obtain ⟨A, hA⟩ : ∃ A, M[j] = A := ⟨_, rfl⟩
          rw [hA] at c1' Hstep hAl
          clear hA hcell
          go_wp2
          go_roundw
          case rel => exact ⟨j + 1, by omega, by go_num, by rw [Hstep.out]; go_num, trivial⟩
          case measure => simp [intOf]; omega
        · obtain rfl : j = M.length := by omega
          rw [List.take_length]
          obtain ⟨d0, d1, d2⟩ := cells3 F3.out
          have hnl := tNum_length c n
          have hal : (tAll c M).length = 4 + sumT M := by unfold tAll; rw [tText_length, catT_length]
          have htl := tText_length c S
          have HB := Lib.hid (show List.take ((tText c S).length - 4) (List.drop 4 (tText c S)) = S by rw [tText_body, List.take_of_length_le]; omega)
          obtain ⟨T, hT⟩ : ∃ T, tText c S = T := ⟨_, rfl⟩
          obtain ⟨T0, T1, T2, T3, hTT⟩ : ∃ a b d e, T = a :: b :: d :: e :: S := ⟨_, _, _, _, hT.symm⟩
          have ht0 : (T0.toNat : Int) = c := by
            have : T0 = byt c := by rw [← hT] at hTT; injection hTT with h1 h2; exact h1.symm
            rw [this, byt_toNat c c0 c1]
          rw [hTT] at hT
          have HT := Lib.hid hT
          clear hT htl HB
          have Hnl := Lib.hid hnl
          have Hal := Lib.hid hal
          clear hnl hal
          subst hTT
          go_wp2_with fail
          refine (text_any c S _ c0 c1 (by omega)).mono ?_
          rw [HT.out]
          rintro e w4 ⟨rfl, hb4⟩
          have hb4' := bel_step hb3' hb4
          have F4 := Lib.hid (Blk.step F3.out hb4)
          have HR4 := Lib.hid (HR.out.step hb4)
          clear d0 d1 d2
          obtain ⟨d0, d1, d2⟩ := cells3 F4.out
          go_wp2_with fail
          have hlt4 : w.heap.size < w4.heap.size := Blk.lt F4.out
          clear d0 d1 d2
          obtain ⟨d0, d1, d2⟩ := cells3 F4.out
          have hw1 : IntKind.i64.wrap (4 + (S.length : Int)) = 4 + S.length := IntWalk.i64_in _ (by omega)
          have hg1 : ((S.length : Int) + 1 + 1 + 1 + 1 == 4 + (S.length : Int)) = true := by simp; omega
          have hs4 : (4 : Int) ≤ (S.length : Int) + 1 + 1 + 1 + 1 := by omega
          have hs4' : 4 ≤ S.length + 1 + 1 + 1 + 1 := by omega
          have hnl := Hnl.out
          have hal := Hal.out
          go_region_held3 (fun w' => w'.cell? ⟨w.heap.size, 0, none⟩ = some (.int .u8 c) ∧ w'.cell? ⟨w.heap.size, 1, none⟩ = some (.int .u64 n) ∧ w'.cell? ⟨w.heap.size, 2, none⟩ = some (str s) ∧ Hid (ReadS w' (.slice p3 M.length cp3) M)) (first | assumption | exact keep3 hb5 ‹_› | exact keep3 hb6 ‹_› | exact ⟨d0, d1, d2, HR4⟩) (first | (go_at_call 18; refine (num_any c n _ c0 c1 Hn.out).mono ?_; rintro e w5 ⟨rfl, hb5⟩) | (go_at_call 20; refine (tlvAll_any c _ M _ (by obtain ⟨-, -, -, hR⟩ := ‹_ ∧ _ ∧ _ ∧ Hid (ReadS _ _ _)›; exact hR.out) c0 c1 (by rw [catT_length]; omega)).mono ?_; rintro e w6 ⟨rfl, hb6⟩))
          all_goals
            go_wp2
            go_ret
            exact ⟨rfl, bel_step (bel_step hb4'.drew hb5) hb6⟩
    · have hstep := digs_div m (Nat.lt_of_le_of_lt hm Hn.out) h0
      have hd8 := digs_length n
      have hs2 := Hsum.out
      have hm64 : (m : Int) ≤ 18446744073709551615 := by have := Hn.out; omega
      go_wp2
      go_roundw
      case rel => exact ⟨m / 256, a + 1, by omega, by go_num, by go_num, by omega, trivial⟩
      case measure => simp [intOf]; omega
end Go.Proofs.Ytjanmonoigpmcaa

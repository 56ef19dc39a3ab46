/-
  What eight and number of the document's marks return. No conditions beside those in each theorem.
  What Pack of the document's marks returns. For numbers that are not below 0.
  What Unpack and Newest of the document's marks return. For sectors within the reach.
  The document's device as memory holds it: the same plain device; what its step, Read and Arm do. No conditions beside those in each theorem.
  What Write of the document's device does, and Same of two rows of what waits. No conditions beside those in each theorem.
  What the document's Take and All return: as the program's; and its Same. For texts within the reach.
  What the document's own reader's Text returns, and how it leaves the reader. For texts within the reach.
-/
import Derived.Test.YtiighehibiijcaaMg6
import Derived.Deep.QuietTactic
import Derived.BigQuiet
namespace Go.Proofs.Ytiighehibiijcaa
open Go.RowKit
set_option linter.unusedSimpArgs false
set_option linter.unnecessarySimpa false
set_option linter.unusedVariables false

/-- A number's eight bytes. -/
def eightL (n : Int) : List UInt8 := (List.range 8).map fun i => byteR n (7 - i)
theorem eightL_length (n : Int) : (eightL n).length = 8 := by simp [eightL]
theorem eightL_take (n : Int) {k : Nat} (hk : k ≤ 7) : (eightL n).take (7 - k + 1) = (eightL n).take (7 - k) ++ [byteR n k] := by
  rw [List.take_succ_eq_append_getElem (by rw [eightL_length]; omega)]
  simp only [eightL, List.getElem_map, List.getElem_range]
  rw [show 7 - (7 - k) = k by omega]
theorem eightL_max (n : Int) : eightL (max n 0) = eightL n := by
  unfold eightL byteR
  rw [show max (max n 0) 0 = max n 0 by omega]
theorem eight_pos (n : Int) (h0 : 0 ≤ n) (w : World) : Calls Try.prog 80 #[.int .i64 n] w fun e w' => e = .returned (str (eightL n)) ∧ Below w.heap.size w w' := by
  have hneg : ¬ n < 0 := by omega
  go_enter Try.func80, Try.ntmps80
  go_wp2_with fail
  go_loopw [3, 4] (fun s i wr => ((i = .int .i64 (-1) ∧ s = str (eightL n)) ∨ (∃ k : Nat, k ≤ 7 ∧ i = .int .i64 (k : Int) ∧ s = str ((eightL n).take (7 - k)))) ∧ Below w.heap.size w wr) (fun _ i _ => (intOf i + 1).toNat)
  case atStart => exact ⟨.inr ⟨7, by omega, rfl, rfl⟩, Below.refl _ _⟩
  case round =>
    obtain ⟨⟨rfl, rfl⟩ | ⟨k, hk, rfl, rfl⟩, hb⟩ := hrel
    · go_wp2
      go_ret
      exact ⟨rfl, hb⟩
    · have HB := Lib.hid hb
      clear hb
      have hv : n / 2 ^ (8 * k) % 256 = ((byteR n k).toNat : Int) := by
        have := byteR_if n k
        rw [if_neg (by omega)] at this
        exact this
      have kc := run_str_one (P := Try.prog) wr 40 9 5 5 ((byteR n k).toNat : Int) (by omega) (by have := (byteR n k).toNat_lt; omega) Try.underlying40 Try.underlying5 Try.underlying9
      rw [byt_of] at kc
      have hl : ((eightL n).take (7 - k)).length = 7 - k := by rw [List.length_take, eightL_length]; omega
      have hk0 : 0 ≤ (k : Int) := by omega
      have hsh : (8 * (k : Int)).toNat = 8 * k := by omega
      go_wp2_with fail
      have ht := eightL_take n hk
      go_roundw
      case rel =>
        refine ⟨?_, HB.out.alloc HB.out.size _⟩
        rcases k with _ | k
        · left
          refine ⟨rfl, ?_⟩
          have h8 : (eightL n).take (7 - 0 + 1) = eightL n := List.take_of_length_le (by rw [eightL_length]; omega)
          rw [h8] at ht
          rw [ht]; rfl
        · right
          refine ⟨k, by omega, by rw [show (((k + 1 : Nat) : Int) - 1) = (k : Int) by omega], ?_⟩
          rw [show 7 - k = 7 - (k + 1) + 1 by omega, ht]
      case measure => simp [intOf]
/-- A number of eight bytes; below 0: it is above 2^40. -/
def numR (t : List UInt8) : Int := if val t ≤ 1099511627776 then (val t : Int) else -1
theorem val_take_le : ∀ (m : Nat) (t : List UInt8), val (t.take m) ≤ val t := by
  intro m t
  rcases Nat.lt_or_ge m t.length with h | h
  · obtain ⟨d, hd⟩ : ∃ d, t.length = m + d := ⟨t.length - m, by omega⟩
    clear h
    induction d generalizing m t with
    | zero => rw [List.take_of_length_le (by omega)]; exact Nat.le_refl _
    | succ d ih =>
      rcases List.eq_nil_or_concat t with rfl | ⟨l, c, rfl⟩
      · simp at hd
      · rw [List.concat_eq_append] at hd ⊢
        rw [List.take_append_of_le_length (by simp at hd; omega), val_snoc]
        have := ih m l (by simp at hd; omega)
        omega
  · rw [List.take_of_length_le h]; exact Nat.le_refl _
theorem number_any (t : List UInt8) (h8 : t.length = 8) (w : World) : Calls Try.prog 90 #[str t] w fun e w' => e = .returned (.int .i64 (numR t)) ∧ w = w' := by
  obtain ⟨R, hR⟩ : ∃ R, numR t = R := ⟨_, rfl⟩
  have HR := Lib.hid hR
  rw [hR]
  clear hR
  go_enter Try.func90, Try.ntmps90
  go_wp2_with fail
  go_loopw [3, 4] (fun n i wr => ∃ k : Nat, k ≤ 8 ∧ i = .int .i64 (k : Int) ∧ n = .int .i64 ((val (t.take k) : Nat) : Int) ∧ val (t.take k) ≤ 1099511627776 ∧ w = wr) (fun _ i _ => 8 - (intOf i).toNat)
  case atStart => exact ⟨0, by omega, rfl, rfl, by simp [val], rfl⟩
  case round =>
    obtain ⟨k, hk, rfl, rfl, hv, rfl⟩ := hrel
    by_cases hlt : k < 8
    · have hki : (k : Int) < 8 := by omega
      have hkt : k < t.length := by omega
      have hs := List.take_succ_eq_append_getElem hkt
      have hv2 : val (t.take (k + 1)) = val (t.take k) * 256 + t[k].toNat := by rw [hs, val_snoc]
      have hc := t[k].toNat_lt
      obtain ⟨V, hV⟩ : ∃ V, val (t.take k) = V := ⟨_, rfl⟩
      obtain ⟨c, hcc⟩ : ∃ c, t[k].toNat = c := ⟨_, rfl⟩
      rw [hV] at hv hv2 ⊢
      rw [hcc] at hv2 hc
      have HVV := Lib.hid hv2
      by_cases hbig : 1099511627776 < V * 256 + c
      · have hb1 : (1099511627776 : Int) < (V : Int) * 256 + (c : Int) := by omega
        have hno : R = -1 := by
          have h1 := HR.out
          have h2 := val_take_le (k + 1) t
          unfold numR at h1
          rw [if_neg (by omega)] at h1
          exact h1.symm
        subst hno
        clear hs hv2 hV
        go_wp2_with fail
        go_ret
        exact ⟨rfl, rfl⟩
      · have hb1 : ¬ (1099511627776 : Int) < (V : Int) * 256 + (c : Int) := by omega
        clear hs hv2 hV
        go_wp2_with fail
        go_roundw
        case rel => exact ⟨k + 1, by omega, by go_num, by rw [HVV.out]; go_num, by rw [HVV.out]; omega, trivial⟩
        case measure => simp [intOf]; omega
    · obtain rfl : k = 8 := by omega
      rw [List.take_of_length_le (by omega)] at hv ⊢
      have hno : R = (val t : Int) := by
        have h1 := HR.out
        unfold numR at h1
        rw [if_pos hv] at h1
        exact h1.symm
      subst hno
      go_wp2_with fail
      go_ret
      exact ⟨rfl, rfl⟩
end Go.Proofs.Ytiighehibiijcaa

namespace Go.Proofs.Ytiighehibiijcaa
open Go.RowKit
set_option linter.unusedSimpArgs false
set_option linter.unnecessarySimpa false
set_option linter.unusedVariables false

def zero32 : List UInt8 := List.replicate 32 0
def row32 : Array Value := ((List.replicate 32 (0 : Int)).map (Value.int .u8)).toArray
theorem make32 (w : World) : (Instr.makeSlice 40 (.int .i64 32) (.int .i64 32)).run Try.prog w = .ok (.slice (some ⟨w.heap.size, 0, none⟩) 32 32) (w.alloc (.cells row32 5)) := by kernel_rfl
theorem conv32 {w : World} {z : Nat} (hz : Blk w z 5 row32) : (convert 40 9 (.slice (some ⟨z, 0, none⟩) 32 32)).run Try.prog w = .ok (str zero32) w := by
  have := run_convert_bytes_back (P := Try.prog) w 40 9 5 ⟨z, 0, none⟩ 32 zero32 Try.underlying40 Try.underlying5 Try.underlying9 (by
    intro j hj
    have hj' : j < 32 := by simpa [zero32] using hj
    rw [Addr.add_mid, Nat.zero_add, hz.cell j]
    have h0 : ∀ h : j < zero32.length, zero32[j]'h = 0 := fun h => List.getElem_replicate h
    simp only [h0]
    unfold row32
    rw [List.getElem?_toArray, List.getElem?_map, List.getElem?_replicate, if_pos hj']
    rfl)
  simpa [zero32] using this
theorem packS_eight (e b c : Int) : eightL e ++ eightL b ++ eightL c ++ zero32 ++ eightL e = packS e b c := by
  refine List.ext_getElem? fun i => ?_
  by_cases hi : i < 64
  · have hp : (packS e b c)[i]? = some (packAt (markN e b c) 3 0 (if i < 56 then i else i - 56)) := by
      unfold packS
      by_cases h5 : i < 56
      · rw [if_pos h5, List.getElem?_append_left (by rw [List.length_take, packL_length]; omega), List.getElem?_take_of_lt h5, List.getElem?_eq_getElem (by rw [packL_length]; omega), packL_at]
      · rw [if_neg h5, List.getElem?_append_right (by rw [List.length_take, packL_length]; omega), List.length_take, packL_length, List.getElem?_take_of_lt (by omega), List.getElem?_eq_getElem (by rw [packL_length]; omega), packL_at]
        rw [show i - min 56 64 = i - 56 by omega]
    have he : ∀ (n : Int) (k : Nat), k < 8 → (eightL n)[k]? = some (byteR n (7 - k)) := by
      intro n k hk
      rw [List.getElem?_eq_getElem (by rw [eightL_length]; exact hk)]
      simp only [eightL, List.getElem_map, List.getElem_range]
    rw [hp]
    unfold packAt
    have l1 := eightL_length e
    have l2 := eightL_length b
    have l3 := eightL_length c
    have l4 : zero32.length = 32 := rfl
    by_cases a1 : i < 8
    · rw [List.getElem?_append_left (by simp only [List.length_append]; omega), List.getElem?_append_left (by simp only [List.length_append]; omega), List.getElem?_append_left (by simp only [List.length_append]; omega), List.getElem?_append_left (by omega), he e i a1]
      rw [if_pos (show i < 56 by omega), if_pos (by omega), show i / 8 = 0 by omega, show i % 8 = i by omega]; rfl
    · by_cases a2 : i < 16
      · rw [List.getElem?_append_left (by simp only [List.length_append]; omega), List.getElem?_append_left (by simp only [List.length_append]; omega), List.getElem?_append_left (by simp only [List.length_append]; omega), List.getElem?_append_right (by omega), l1, he b _ (by omega)]
        rw [if_pos (show i < 56 by omega), if_pos (by omega), show i / 8 = 1 by omega, show i % 8 = i - 8 by omega]; rfl
      · by_cases a3 : i < 24
        · rw [List.getElem?_append_left (by simp only [List.length_append]; omega), List.getElem?_append_left (by simp only [List.length_append]; omega), List.getElem?_append_right (by simp only [List.length_append]; omega), List.length_append, l1, l2, he c _ (by omega)]
          rw [if_pos (show i < 56 by omega), if_pos (by omega), show i / 8 = 2 by omega, show i % 8 = i - (8 + 8) by omega]; rfl
        · by_cases a4 : i < 56
          · rw [List.getElem?_append_left (by simp only [List.length_append]; omega), List.getElem?_append_right (by simp only [List.length_append]; omega)]
            simp only [List.length_append, l1, l2, l3]
            rw [if_pos a4, if_neg (by omega)]
            unfold zero32
            rw [List.getElem?_replicate, if_pos (by omega)]
          · rw [List.getElem?_append_right (by simp only [List.length_append]; omega)]
            simp only [List.length_append, l1, l2, l3, l4]
            rw [he e _ (by omega), if_neg a4, if_pos (by omega), show (i - 56) / 8 = 0 by omega, show (i - 56) % 8 = i - 56 by omega]; rfl
  · rw [List.getElem?_eq_none (by simp only [List.length_append, eightL_length]; show 8 + 8 + 8 + 32 + 8 ≤ i; omega), List.getElem?_eq_none (by unfold packS; rw [List.length_append, List.length_take, List.length_take, packL_length]; omega)]

set_option maxRecDepth 100000 in
set_option maxHeartbeats 8000000 in
theorem refPack_any (e b c : Int) (e0 : 0 ≤ e) (b0 : 0 ≤ b) (c0 : 0 ≤ c) (w : World) :
    Calls Try.prog 71 #[.agg #[.int .i64 e, .int .i64 b, .int .i64 c]] w fun e' w' => e' = .returned (str (packS e b c)) ∧ Below w.heap.size w w' := by
  have hpk := packS_eight e b c
  obtain ⟨S0, hS0⟩ : ∃ s, eightL e = s := ⟨_, rfl⟩
  obtain ⟨S1, hS1⟩ : ∃ s, eightL b = s := ⟨_, rfl⟩
  obtain ⟨S2, hS2⟩ : ∃ s, eightL c = s := ⟨_, rfl⟩
  have l0 : S0.length = 8 := by rw [← hS0, eightL_length]
  have l1 : S1.length = 8 := by rw [← hS1, eightL_length]
  have l2 : S2.length = 8 := by rw [← hS2, eightL_length]
  have l3 : zero32.length = 32 := rfl
  rw [hS0, hS1, hS2] at hpk
  have HPK := Lib.hid (show packS e b c = S0 ++ (S1 ++ (S2 ++ (zero32 ++ S0))) by rw [← hpk]; simp only [List.append_assoc])
  have HS0 := Lib.hid hS0
  have HS1 := Lib.hid hS1
  have HS2 := Lib.hid hS2
  clear hpk hS0 hS1 hS2
  go_enter Try.func71, Try.ntmps71
  go_wp2_with fail
  have HM := Lib.hid ((Blk.new w 62 #[.int .i64 e, .int .i64 b, .int .i64 c]).drew)
  have HB := Lib.hid (((Below.refl w.heap.size w).alloc (Nat.le_refl _) (.cells #[.int .i64 e, .int .i64 b, .int .i64 c] 62)).drew)
  obtain ⟨bm, hbm⟩ : ∃ q, w.heap.size = q := ⟨_, rfl⟩
  rw [hbm] at HM
  try rw [hbm]
  generalize w.alloc (.cells #[.int .i64 e, .int .i64 b, .int .i64 c] 62) = w0 at HM HB ⊢
  refine until_begin 19 (fun w' => w'.cell? ⟨bm, 0, none⟩ = some (.int .i64 e) ∧ w'.cell? ⟨bm, 1, none⟩ = some (.int .i64 b) ∧ w'.cell? ⟨bm, 2, none⟩ = some (.int .i64 c)) (by kernel_rfl) ⟨HM.out.cell 0, HM.out.cell 1, HM.out.cell 2⟩ (fun hS => ?_)
  generalize w0.drew = wc at HM HB hS ⊢
  refine until_take 0 (some 3) (u := ?_) rfl rfl (by kernel_rfl) (by kernel_rfl) (by kernel_rfl) (by kernel_rfl) (fun _ _ _ h => h) (by rfl) (fun wS hv => ?_) hS ?_
  rotate_left
  · clear hv
    go_simp
    all_goals with_reducible rfl
  try simp only [Act.put, List.setIfInBounds_toArray, List.set]
  refine until_take 1 (some 4) (u := ?_) rfl rfl (by kernel_rfl) (by kernel_rfl) (by kernel_rfl) (by kernel_rfl) (fun _ _ _ h => h) (by rfl) (fun wS hv => ?_) hS ?_
  rotate_left
  · obtain ⟨k1, k2, k3⟩ := hv
    go_simp
    all_goals with_reducible rfl
  try simp only [Act.put, List.setIfInBounds_toArray, List.set]
  refine until_take 3 (some 6) (u := ?_) rfl rfl (by kernel_rfl) (by kernel_rfl) (by kernel_rfl) (by kernel_rfl) (fun _ _ _ h => h) (by rfl) (fun wS hv => ?_) hS ?_
  rotate_left
  · clear hv
    go_simp
    all_goals with_reducible rfl
  try simp only [Act.put, List.setIfInBounds_toArray, List.set]
  refine until_take 4 (some 7) (u := ?_) rfl rfl (by kernel_rfl) (by kernel_rfl) (by kernel_rfl) (by kernel_rfl) (fun _ _ _ h => h) (by rfl) (fun wS hv => ?_) hS ?_
  rotate_left
  · obtain ⟨k1, k2, k3⟩ := hv
    go_simp
    all_goals with_reducible rfl
  try simp only [Act.put, List.setIfInBounds_toArray, List.set]
  refine until_take 7 (some 10) (u := ?_) rfl rfl (by kernel_rfl) (by kernel_rfl) (by kernel_rfl) (by kernel_rfl) (fun _ _ _ h => h) (by rfl) (fun wS hv => ?_) hS ?_
  rotate_left
  · clear hv
    go_simp
    all_goals with_reducible rfl
  try simp only [Act.put, List.setIfInBounds_toArray, List.set]
  refine until_take 8 (some 11) (u := ?_) rfl rfl (by kernel_rfl) (by kernel_rfl) (by kernel_rfl) (by kernel_rfl) (fun _ _ _ h => h) (by rfl) (fun wS hv => ?_) hS ?_
  rotate_left
  · obtain ⟨k1, k2, k3⟩ := hv
    go_simp
    all_goals with_reducible rfl
  try simp only [Act.put, List.setIfInBounds_toArray, List.set]
  refine until_take 14 (some 17) (u := ?_) rfl rfl (by kernel_rfl) (by kernel_rfl) (by kernel_rfl) (by kernel_rfl) (fun _ _ _ h => h) (by rfl) (fun wS hv => ?_) hS ?_
  rotate_left
  · clear hv
    go_simp
    all_goals with_reducible rfl
  try simp only [Act.put, List.setIfInBounds_toArray, List.set]
  refine until_take 15 (some 18) (u := ?_) rfl rfl (by kernel_rfl) (by kernel_rfl) (by kernel_rfl) (by kernel_rfl) (fun _ _ _ h => h) (by rfl) (fun wS hv => ?_) hS ?_
  rotate_left
  · obtain ⟨k1, k2, k3⟩ := hv
    go_simp
    all_goals with_reducible rfl
  try simp only [Act.put, List.setIfInBounds_toArray, List.set]
  refine until_two 2 11 (by kernel_rfl) rfl rfl (fun K hK => ?_) (fun K hK => ?_)
  · go_simp
    refine (eight_pos e e0 _).mono ?_
    rw [HS0.out]
    rintro ev wc ⟨rfl, hbc⟩
    replace HM := Lib.hid (HM.out.step hbc)
    replace HB := Lib.hid (bel_step HB.out hbc)
    clear hbc
    refine hK.out _ _ ⟨HM.out.cell 0, HM.out.cell 1, HM.out.cell 2⟩ (fun hS => ?_)
    clear hK K
    try simp only [Act.put, List.setIfInBounds_toArray, List.set]
    refine until_two 5 11 (by kernel_rfl) rfl rfl (fun K hK => ?_) (fun K hK => ?_)
    · go_simp
      refine (eight_pos b b0 _).mono ?_
      rw [HS1.out]
      rintro ev wc ⟨rfl, hbc⟩
      replace HM := Lib.hid (HM.out.step hbc)
      replace HB := Lib.hid (bel_step HB.out hbc)
      clear hbc
      refine hK.out _ _ ⟨HM.out.cell 0, HM.out.cell 1, HM.out.cell 2⟩ (fun hS => ?_)
      clear hK K
      try simp only [Act.put, List.setIfInBounds_toArray, List.set]
      refine until_take 6 (some 9) (u := ?_) rfl rfl (by kernel_rfl) (by kernel_rfl) (by kernel_rfl) (by kernel_rfl) (fun _ _ _ h => h) (by rfl) (fun wS hv => ?_) hS ?_
      rotate_left
      · clear hv
        go_simp
        all_goals with_reducible rfl
      try simp only [Act.put, List.setIfInBounds_toArray, List.set]
      refine until_two 9 11 (by kernel_rfl) rfl rfl (fun K hK => ?_) (fun K hK => ?_)
      · go_simp
        refine (eight_pos c c0 _).mono ?_
        rw [HS2.out]
        rintro ev wc ⟨rfl, hbc⟩
        replace HM := Lib.hid (HM.out.step hbc)
        replace HB := Lib.hid (bel_step HB.out hbc)
        clear hbc
        refine hK.out _ _ ⟨HM.out.cell 0, HM.out.cell 1, HM.out.cell 2⟩ (fun hS => ?_)
        clear hK K
        try simp only [Act.put, List.setIfInBounds_toArray, List.set]
        refine until_take 10 (some 13) (u := ?_) rfl rfl (by kernel_rfl) (by kernel_rfl) (by kernel_rfl) (by kernel_rfl) (fun _ _ _ h => h) (by rfl) (fun wS hv => ?_) hS ?_
        rotate_left
        · clear hv
          go_simp
          all_goals with_reducible rfl
        try simp only [Act.put, List.setIfInBounds_toArray, List.set]
        refine until_two 11 16 (by kernel_rfl) rfl rfl (fun K hK => ?_) (fun K hK => ?_)
        · refine step_value (d := some 14) (by rfl) rfl (r := .slice (some ⟨wc.heap.size, 0, none⟩) 32 32) (w1 := wc.alloc (.cells row32 5)) (by have hmk := make32 wc; go_simp) ?_
          have hbc : Below wc.heap.size wc (wc.alloc (.cells row32 5)) := (Below.refl _ _).alloc (Nat.le_refl _) _
          have HZ := Lib.hid (Blk.new wc 5 row32)
          replace HM := Lib.hid (HM.out.step hbc)
          replace HB := Lib.hid (bel_step HB.out hbc)
          clear hbc
          obtain ⟨bz, hbz⟩ : ∃ q, wc.heap.size = q := ⟨_, rfl⟩
          rw [hbz] at HZ ⊢
          clear hbz
          generalize wc.alloc (.cells row32 5) = wc at HZ HM HB ⊢
          refine hK.out _ _ ⟨HM.out.cell 0, HM.out.cell 1, HM.out.cell 2⟩ (fun hS => ?_)
          clear hK K
          try simp only [Act.put, List.setIfInBounds_toArray, List.set]
          refine until_two 12 16 (by kernel_rfl) rfl rfl (fun K hK => ?_) (fun K hK => ?_)
          · refine step_value (d := some 15) (by rfl) rfl (r := str zero32) (w1 := wc) (by have hcv := conv32 HZ.out; go_simp) ?_
            refine hK.out _ _ hS (fun hS => ?_)
            clear hK K
            try simp only [Act.put, List.setIfInBounds_toArray, List.set]
            refine until_take 13 (some 16) (u := ?_) rfl rfl (by kernel_rfl) (by kernel_rfl) (by kernel_rfl) (by kernel_rfl) (fun _ _ _ h => h) (by rfl) (fun wS hv => ?_) hS ?_
            rotate_left
            · clear hv
              go_simp
              all_goals with_reducible rfl
            try simp only [Act.put, List.setIfInBounds_toArray, List.set]
            refine until_one 16 (by kernel_rfl) rfl (fun K hK => ?_)
            go_simp
            refine (eight_pos e e0 _).mono ?_
            rw [HS0.out]
            rintro ev wc ⟨rfl, hbc⟩
            replace HM := Lib.hid (HM.out.step hbc)
            replace HB := Lib.hid (bel_step HB.out hbc)
            clear hbc
            refine hK.out _ _ ⟨HM.out.cell 0, HM.out.cell 1, HM.out.cell 2⟩ (fun hS => ?_)
            clear hK K
            try simp only [Act.put, List.setIfInBounds_toArray, List.set]
            refine until_take 17 (some 20) (u := ?_) rfl rfl (by kernel_rfl) (by kernel_rfl) (by kernel_rfl) (by kernel_rfl) (fun _ _ _ h => h) (by rfl) (fun wS hv => ?_) hS ?_
            rotate_left
            · clear hv
              go_simp
              all_goals with_reducible rfl
            try simp only [Act.put, List.setIfInBounds_toArray, List.set]
            refine until_take 18 (some 2) (u := ?_) rfl rfl (by kernel_rfl) (by kernel_rfl) (by kernel_rfl) (by kernel_rfl) (fun _ _ _ h => h) (by rfl) (fun wS hv => ?_) hS ?_
            rotate_left
            · clear hv
              go_simp
              all_goals with_reducible rfl
            try simp only [Act.put, List.setIfInBounds_toArray, List.set]
            refine until_done (by kernel_rfl) ?_
            clear hS
            go_wp2_with fail
            go_ret
            exact ⟨by rw [HPK.out]; rfl, HB.out⟩
          · go_simp
            refine (eight_pos e e0 _).mono ?_
            rw [HS0.out]
            rintro ev wc ⟨rfl, hbc⟩
            replace HM := Lib.hid (HM.out.step hbc)
            replace HB := Lib.hid (bel_step HB.out hbc)
            replace HZ := Lib.hid (HZ.out.step hbc)
            clear hbc
            refine hK.out _ _ ⟨HM.out.cell 0, HM.out.cell 1, HM.out.cell 2⟩ (fun hS => ?_)
            clear hK K
            try simp only [Act.put, List.setIfInBounds_toArray, List.set]
            refine until_one 12 (by kernel_rfl) rfl (fun K hK => ?_)
            refine step_value (d := some 15) (by rfl) rfl (r := str zero32) (w1 := wc) (by have hcv := conv32 HZ.out; go_simp) ?_
            refine hK.out _ _ hS (fun hS => ?_)
            clear hK K
            try simp only [Act.put, List.setIfInBounds_toArray, List.set]
            refine until_take 13 (some 16) (u := ?_) rfl rfl (by kernel_rfl) (by kernel_rfl) (by kernel_rfl) (by kernel_rfl) (fun _ _ _ h => h) (by rfl) (fun wS hv => ?_) hS ?_
            rotate_left
            · clear hv
              go_simp
              all_goals with_reducible rfl
            try simp only [Act.put, List.setIfInBounds_toArray, List.set]
            refine until_take 17 (some 20) (u := ?_) rfl rfl (by kernel_rfl) (by kernel_rfl) (by kernel_rfl) (by kernel_rfl) (fun _ _ _ h => h) (by rfl) (fun wS hv => ?_) hS ?_
            rotate_left
            · clear hv
              go_simp
              all_goals with_reducible rfl
            try simp only [Act.put, List.setIfInBounds_toArray, List.set]
            refine until_take 18 (some 2) (u := ?_) rfl rfl (by kernel_rfl) (by kernel_rfl) (by kernel_rfl) (by kernel_rfl) (fun _ _ _ h => h) (by rfl) (fun wS hv => ?_) hS ?_
            rotate_left
            · clear hv
              go_simp
              all_goals with_reducible rfl
            try simp only [Act.put, List.setIfInBounds_toArray, List.set]
            refine until_done (by kernel_rfl) ?_
            clear hS
            go_wp2_with fail
            go_ret
            exact ⟨by rw [HPK.out]; rfl, HB.out⟩
        · go_simp
          refine (eight_pos e e0 _).mono ?_
          rw [HS0.out]
          rintro ev wc ⟨rfl, hbc⟩
          replace HM := Lib.hid (HM.out.step hbc)
          replace HB := Lib.hid (bel_step HB.out hbc)
          clear hbc
          refine hK.out _ _ ⟨HM.out.cell 0, HM.out.cell 1, HM.out.cell 2⟩ (fun hS => ?_)
          clear hK K
          try simp only [Act.put, List.setIfInBounds_toArray, List.set]
          refine until_one 11 (by kernel_rfl) rfl (fun K hK => ?_)
          refine step_value (d := some 14) (by rfl) rfl (r := .slice (some ⟨wc.heap.size, 0, none⟩) 32 32) (w1 := wc.alloc (.cells row32 5)) (by have hmk := make32 wc; go_simp) ?_
          have hbc : Below wc.heap.size wc (wc.alloc (.cells row32 5)) := (Below.refl _ _).alloc (Nat.le_refl _) _
          have HZ := Lib.hid (Blk.new wc 5 row32)
          replace HM := Lib.hid (HM.out.step hbc)
          replace HB := Lib.hid (bel_step HB.out hbc)
          clear hbc
          obtain ⟨bz, hbz⟩ : ∃ q, wc.heap.size = q := ⟨_, rfl⟩
          rw [hbz] at HZ ⊢
          clear hbz
          generalize wc.alloc (.cells row32 5) = wc at HZ HM HB ⊢
          refine hK.out _ _ ⟨HM.out.cell 0, HM.out.cell 1, HM.out.cell 2⟩ (fun hS => ?_)
          clear hK K
          try simp only [Act.put, List.setIfInBounds_toArray, List.set]
          refine until_one 12 (by kernel_rfl) rfl (fun K hK => ?_)
          refine step_value (d := some 15) (by rfl) rfl (r := str zero32) (w1 := wc) (by have hcv := conv32 HZ.out; go_simp) ?_
          refine hK.out _ _ hS (fun hS => ?_)
          clear hK K
          try simp only [Act.put, List.setIfInBounds_toArray, List.set]
          refine until_take 13 (some 16) (u := ?_) rfl rfl (by kernel_rfl) (by kernel_rfl) (by kernel_rfl) (by kernel_rfl) (fun _ _ _ h => h) (by rfl) (fun wS hv => ?_) hS ?_
          rotate_left
          · clear hv
            go_simp
            all_goals with_reducible rfl
          try simp only [Act.put, List.setIfInBounds_toArray, List.set]
          refine until_take 17 (some 20) (u := ?_) rfl rfl (by kernel_rfl) (by kernel_rfl) (by kernel_rfl) (by kernel_rfl) (fun _ _ _ h => h) (by rfl) (fun wS hv => ?_) hS ?_
          rotate_left
          · clear hv
            go_simp
            all_goals with_reducible rfl
          try simp only [Act.put, List.setIfInBounds_toArray, List.set]
          refine until_take 18 (some 2) (u := ?_) rfl rfl (by kernel_rfl) (by kernel_rfl) (by kernel_rfl) (by kernel_rfl) (fun _ _ _ h => h) (by rfl) (fun wS hv => ?_) hS ?_
          rotate_left
          · clear hv
            go_simp
            all_goals with_reducible rfl
          try simp only [Act.put, List.setIfInBounds_toArray, List.set]
          refine until_done (by kernel_rfl) ?_
          clear hS
          go_wp2_with fail
          go_ret
          exact ⟨by rw [HPK.out]; rfl, HB.out⟩
      · refine step_value (d := some 14) (by rfl) rfl (r := .slice (some ⟨wc.heap.size, 0, none⟩) 32 32) (w1 := wc.alloc (.cells row32 5)) (by have hmk := make32 wc; go_simp) ?_
        have hbc : Below wc.heap.size wc (wc.alloc (.cells row32 5)) := (Below.refl _ _).alloc (Nat.le_refl _) _
        have HZ := Lib.hid (Blk.new wc 5 row32)
        replace HM := Lib.hid (HM.out.step hbc)
        replace HB := Lib.hid (bel_step HB.out hbc)
        clear hbc
        obtain ⟨bz, hbz⟩ : ∃ q, wc.heap.size = q := ⟨_, rfl⟩
        rw [hbz] at HZ ⊢
        clear hbz
        generalize wc.alloc (.cells row32 5) = wc at HZ HM HB ⊢
        refine hK.out _ _ ⟨HM.out.cell 0, HM.out.cell 1, HM.out.cell 2⟩ (fun hS => ?_)
        clear hK K
        try simp only [Act.put, List.setIfInBounds_toArray, List.set]
        refine until_two 9 12 (by kernel_rfl) rfl rfl (fun K hK => ?_) (fun K hK => ?_)
        · go_simp
          refine (eight_pos c c0 _).mono ?_
          rw [HS2.out]
          rintro ev wc ⟨rfl, hbc⟩
          replace HM := Lib.hid (HM.out.step hbc)
          replace HB := Lib.hid (bel_step HB.out hbc)
          replace HZ := Lib.hid (HZ.out.step hbc)
          clear hbc
          refine hK.out _ _ ⟨HM.out.cell 0, HM.out.cell 1, HM.out.cell 2⟩ (fun hS => ?_)
          clear hK K
          try simp only [Act.put, List.setIfInBounds_toArray, List.set]
          refine until_take 10 (some 13) (u := ?_) rfl rfl (by kernel_rfl) (by kernel_rfl) (by kernel_rfl) (by kernel_rfl) (fun _ _ _ h => h) (by rfl) (fun wS hv => ?_) hS ?_
          rotate_left
          · clear hv
            go_simp
            all_goals with_reducible rfl
          try simp only [Act.put, List.setIfInBounds_toArray, List.set]
          refine until_two 12 16 (by kernel_rfl) rfl rfl (fun K hK => ?_) (fun K hK => ?_)
          · refine step_value (d := some 15) (by rfl) rfl (r := str zero32) (w1 := wc) (by have hcv := conv32 HZ.out; go_simp) ?_
            refine hK.out _ _ hS (fun hS => ?_)
            clear hK K
            try simp only [Act.put, List.setIfInBounds_toArray, List.set]
            refine until_take 13 (some 16) (u := ?_) rfl rfl (by kernel_rfl) (by kernel_rfl) (by kernel_rfl) (by kernel_rfl) (fun _ _ _ h => h) (by rfl) (fun wS hv => ?_) hS ?_
            rotate_left
            · clear hv
              go_simp
              all_goals with_reducible rfl
            try simp only [Act.put, List.setIfInBounds_toArray, List.set]
            refine until_one 16 (by kernel_rfl) rfl (fun K hK => ?_)
            go_simp
            refine (eight_pos e e0 _).mono ?_
            rw [HS0.out]
            rintro ev wc ⟨rfl, hbc⟩
            replace HM := Lib.hid (HM.out.step hbc)
            replace HB := Lib.hid (bel_step HB.out hbc)
            clear hbc
            refine hK.out _ _ ⟨HM.out.cell 0, HM.out.cell 1, HM.out.cell 2⟩ (fun hS => ?_)
            clear hK K
            try simp only [Act.put, List.setIfInBounds_toArray, List.set]
            refine until_take 17 (some 20) (u := ?_) rfl rfl (by kernel_rfl) (by kernel_rfl) (by kernel_rfl) (by kernel_rfl) (fun _ _ _ h => h) (by rfl) (fun wS hv => ?_) hS ?_
            rotate_left
            · clear hv
              go_simp
              all_goals with_reducible rfl
            try simp only [Act.put, List.setIfInBounds_toArray, List.set]
            refine until_take 18 (some 2) (u := ?_) rfl rfl (by kernel_rfl) (by kernel_rfl) (by kernel_rfl) (by kernel_rfl) (fun _ _ _ h => h) (by rfl) (fun wS hv => ?_) hS ?_
            rotate_left
            · clear hv
              go_simp
              all_goals with_reducible rfl
            try simp only [Act.put, List.setIfInBounds_toArray, List.set]
            refine until_done (by kernel_rfl) ?_
            clear hS
            go_wp2_with fail
            go_ret
            exact ⟨by rw [HPK.out]; rfl, HB.out⟩
          · go_simp
            refine (eight_pos e e0 _).mono ?_
            rw [HS0.out]
            rintro ev wc ⟨rfl, hbc⟩
            replace HM := Lib.hid (HM.out.step hbc)
            replace HB := Lib.hid (bel_step HB.out hbc)
            replace HZ := Lib.hid (HZ.out.step hbc)
            clear hbc
            refine hK.out _ _ ⟨HM.out.cell 0, HM.out.cell 1, HM.out.cell 2⟩ (fun hS => ?_)
            clear hK K
            try simp only [Act.put, List.setIfInBounds_toArray, List.set]
            refine until_one 12 (by kernel_rfl) rfl (fun K hK => ?_)
            refine step_value (d := some 15) (by rfl) rfl (r := str zero32) (w1 := wc) (by have hcv := conv32 HZ.out; go_simp) ?_
            refine hK.out _ _ hS (fun hS => ?_)
            clear hK K
            try simp only [Act.put, List.setIfInBounds_toArray, List.set]
            refine until_take 13 (some 16) (u := ?_) rfl rfl (by kernel_rfl) (by kernel_rfl) (by kernel_rfl) (by kernel_rfl) (fun _ _ _ h => h) (by rfl) (fun wS hv => ?_) hS ?_
            rotate_left
            · clear hv
              go_simp
              all_goals with_reducible rfl
            try simp only [Act.put, List.setIfInBounds_toArray, List.set]
            refine until_take 17 (some 20) (u := ?_) rfl rfl (by kernel_rfl) (by kernel_rfl) (by kernel_rfl) (by kernel_rfl) (fun _ _ _ h => h) (by rfl) (fun wS hv => ?_) hS ?_
            rotate_left
            · clear hv
              go_simp
              all_goals with_reducible rfl
            try simp only [Act.put, List.setIfInBounds_toArray, List.set]
            refine until_take 18 (some 2) (u := ?_) rfl rfl (by kernel_rfl) (by kernel_rfl) (by kernel_rfl) (by kernel_rfl) (fun _ _ _ h => h) (by rfl) (fun wS hv => ?_) hS ?_
            rotate_left
            · clear hv
              go_simp
              all_goals with_reducible rfl
            try simp only [Act.put, List.setIfInBounds_toArray, List.set]
            refine until_done (by kernel_rfl) ?_
            clear hS
            go_wp2_with fail
            go_ret
            exact ⟨by rw [HPK.out]; rfl, HB.out⟩
        · refine step_value (d := some 15) (by rfl) rfl (r := str zero32) (w1 := wc) (by have hcv := conv32 HZ.out; go_simp) ?_
          refine hK.out _ _ hS (fun hS => ?_)
          clear hK K
          try simp only [Act.put, List.setIfInBounds_toArray, List.set]
          refine until_one 9 (by kernel_rfl) rfl (fun K hK => ?_)
          go_simp
          refine (eight_pos c c0 _).mono ?_
          rw [HS2.out]
          rintro ev wc ⟨rfl, hbc⟩
          replace HM := Lib.hid (HM.out.step hbc)
          replace HB := Lib.hid (bel_step HB.out hbc)
          clear hbc
          refine hK.out _ _ ⟨HM.out.cell 0, HM.out.cell 1, HM.out.cell 2⟩ (fun hS => ?_)
          clear hK K
          try simp only [Act.put, List.setIfInBounds_toArray, List.set]
          refine until_take 10 (some 13) (u := ?_) rfl rfl (by kernel_rfl) (by kernel_rfl) (by kernel_rfl) (by kernel_rfl) (fun _ _ _ h => h) (by rfl) (fun wS hv => ?_) hS ?_
          rotate_left
          · clear hv
            go_simp
            all_goals with_reducible rfl
          try simp only [Act.put, List.setIfInBounds_toArray, List.set]
          refine until_take 13 (some 16) (u := ?_) rfl rfl (by kernel_rfl) (by kernel_rfl) (by kernel_rfl) (by kernel_rfl) (fun _ _ _ h => h) (by rfl) (fun wS hv => ?_) hS ?_
          rotate_left
          · clear hv
            go_simp
            all_goals with_reducible rfl
          try simp only [Act.put, List.setIfInBounds_toArray, List.set]
          refine until_one 16 (by kernel_rfl) rfl (fun K hK => ?_)
          go_simp
          refine (eight_pos e e0 _).mono ?_
          rw [HS0.out]
          rintro ev wc ⟨rfl, hbc⟩
          replace HM := Lib.hid (HM.out.step hbc)
          replace HB := Lib.hid (bel_step HB.out hbc)
          clear hbc
          refine hK.out _ _ ⟨HM.out.cell 0, HM.out.cell 1, HM.out.cell 2⟩ (fun hS => ?_)
          clear hK K
          try simp only [Act.put, List.setIfInBounds_toArray, List.set]
          refine until_take 17 (some 20) (u := ?_) rfl rfl (by kernel_rfl) (by kernel_rfl) (by kernel_rfl) (by kernel_rfl) (fun _ _ _ h => h) (by rfl) (fun wS hv => ?_) hS ?_
          rotate_left
          · clear hv
            go_simp
            all_goals with_reducible rfl
          try simp only [Act.put, List.setIfInBounds_toArray, List.set]
          refine until_take 18 (some 2) (u := ?_) rfl rfl (by kernel_rfl) (by kernel_rfl) (by kernel_rfl) (by kernel_rfl) (fun _ _ _ h => h) (by rfl) (fun wS hv => ?_) hS ?_
          rotate_left
          · clear hv
            go_simp
            all_goals with_reducible rfl
          try simp only [Act.put, List.setIfInBounds_toArray, List.set]
          refine until_done (by kernel_rfl) ?_
          clear hS
          go_wp2_with fail
          go_ret
          exact ⟨by rw [HPK.out]; rfl, HB.out⟩
    · refine step_value (d := some 14) (by rfl) rfl (r := .slice (some ⟨wc.heap.size, 0, none⟩) 32 32) (w1 := wc.alloc (.cells row32 5)) (by have hmk := make32 wc; go_simp) ?_
      have hbc : Below wc.heap.size wc (wc.alloc (.cells row32 5)) := (Below.refl _ _).alloc (Nat.le_refl _) _
      have HZ := Lib.hid (Blk.new wc 5 row32)
      replace HM := Lib.hid (HM.out.step hbc)
      replace HB := Lib.hid (bel_step HB.out hbc)
      clear hbc
      obtain ⟨bz, hbz⟩ : ∃ q, wc.heap.size = q := ⟨_, rfl⟩
      rw [hbz] at HZ ⊢
      clear hbz
      generalize wc.alloc (.cells row32 5) = wc at HZ HM HB ⊢
      refine hK.out _ _ ⟨HM.out.cell 0, HM.out.cell 1, HM.out.cell 2⟩ (fun hS => ?_)
      clear hK K
      try simp only [Act.put, List.setIfInBounds_toArray, List.set]
      refine until_two 5 12 (by kernel_rfl) rfl rfl (fun K hK => ?_) (fun K hK => ?_)
      · go_simp
        refine (eight_pos b b0 _).mono ?_
        rw [HS1.out]
        rintro ev wc ⟨rfl, hbc⟩
        replace HM := Lib.hid (HM.out.step hbc)
        replace HB := Lib.hid (bel_step HB.out hbc)
        replace HZ := Lib.hid (HZ.out.step hbc)
        clear hbc
        refine hK.out _ _ ⟨HM.out.cell 0, HM.out.cell 1, HM.out.cell 2⟩ (fun hS => ?_)
        clear hK K
        try simp only [Act.put, List.setIfInBounds_toArray, List.set]
        refine until_take 6 (some 9) (u := ?_) rfl rfl (by kernel_rfl) (by kernel_rfl) (by kernel_rfl) (by kernel_rfl) (fun _ _ _ h => h) (by rfl) (fun wS hv => ?_) hS ?_
        rotate_left
        · clear hv
          go_simp
          all_goals with_reducible rfl
        try simp only [Act.put, List.setIfInBounds_toArray, List.set]
        refine until_two 9 12 (by kernel_rfl) rfl rfl (fun K hK => ?_) (fun K hK => ?_)
        · go_simp
          refine (eight_pos c c0 _).mono ?_
          rw [HS2.out]
          rintro ev wc ⟨rfl, hbc⟩
          replace HM := Lib.hid (HM.out.step hbc)
          replace HB := Lib.hid (bel_step HB.out hbc)
          replace HZ := Lib.hid (HZ.out.step hbc)
          clear hbc
          refine hK.out _ _ ⟨HM.out.cell 0, HM.out.cell 1, HM.out.cell 2⟩ (fun hS => ?_)
          clear hK K
          try simp only [Act.put, List.setIfInBounds_toArray, List.set]
          refine until_take 10 (some 13) (u := ?_) rfl rfl (by kernel_rfl) (by kernel_rfl) (by kernel_rfl) (by kernel_rfl) (fun _ _ _ h => h) (by rfl) (fun wS hv => ?_) hS ?_
          rotate_left
          · clear hv
            go_simp
            all_goals with_reducible rfl
          try simp only [Act.put, List.setIfInBounds_toArray, List.set]
          refine until_two 12 16 (by kernel_rfl) rfl rfl (fun K hK => ?_) (fun K hK => ?_)
          · refine step_value (d := some 15) (by rfl) rfl (r := str zero32) (w1 := wc) (by have hcv := conv32 HZ.out; go_simp) ?_
            refine hK.out _ _ hS (fun hS => ?_)
            clear hK K
            try simp only [Act.put, List.setIfInBounds_toArray, List.set]
            refine until_take 13 (some 16) (u := ?_) rfl rfl (by kernel_rfl) (by kernel_rfl) (by kernel_rfl) (by kernel_rfl) (fun _ _ _ h => h) (by rfl) (fun wS hv => ?_) hS ?_
            rotate_left
            · clear hv
              go_simp
              all_goals with_reducible rfl
            try simp only [Act.put, List.setIfInBounds_toArray, List.set]
            refine until_one 16 (by kernel_rfl) rfl (fun K hK => ?_)
            go_simp
            refine (eight_pos e e0 _).mono ?_
            rw [HS0.out]
            rintro ev wc ⟨rfl, hbc⟩
            replace HM := Lib.hid (HM.out.step hbc)
            replace HB := Lib.hid (bel_step HB.out hbc)
            clear hbc
            refine hK.out _ _ ⟨HM.out.cell 0, HM.out.cell 1, HM.out.cell 2⟩ (fun hS => ?_)
            clear hK K
            try simp only [Act.put, List.setIfInBounds_toArray, List.set]
            refine until_take 17 (some 20) (u := ?_) rfl rfl (by kernel_rfl) (by kernel_rfl) (by kernel_rfl) (by kernel_rfl) (fun _ _ _ h => h) (by rfl) (fun wS hv => ?_) hS ?_
            rotate_left
            · clear hv
              go_simp
              all_goals with_reducible rfl
            try simp only [Act.put, List.setIfInBounds_toArray, List.set]
            refine until_take 18 (some 2) (u := ?_) rfl rfl (by kernel_rfl) (by kernel_rfl) (by kernel_rfl) (by kernel_rfl) (fun _ _ _ h => h) (by rfl) (fun wS hv => ?_) hS ?_
            rotate_left
            · clear hv
              go_simp
              all_goals with_reducible rfl
            try simp only [Act.put, List.setIfInBounds_toArray, List.set]
            refine until_done (by kernel_rfl) ?_
            clear hS
            go_wp2_with fail
            go_ret
            exact ⟨by rw [HPK.out]; rfl, HB.out⟩
          · go_simp
            refine (eight_pos e e0 _).mono ?_
            rw [HS0.out]
            rintro ev wc ⟨rfl, hbc⟩
            replace HM := Lib.hid (HM.out.step hbc)
            replace HB := Lib.hid (bel_step HB.out hbc)
            replace HZ := Lib.hid (HZ.out.step hbc)
            clear hbc
            refine hK.out _ _ ⟨HM.out.cell 0, HM.out.cell 1, HM.out.cell 2⟩ (fun hS => ?_)
            clear hK K
            try simp only [Act.put, List.setIfInBounds_toArray, List.set]
            refine until_one 12 (by kernel_rfl) rfl (fun K hK => ?_)
            refine step_value (d := some 15) (by rfl) rfl (r := str zero32) (w1 := wc) (by have hcv := conv32 HZ.out; go_simp) ?_
            refine hK.out _ _ hS (fun hS => ?_)
            clear hK K
            try simp only [Act.put, List.setIfInBounds_toArray, List.set]
            refine until_take 13 (some 16) (u := ?_) rfl rfl (by kernel_rfl) (by kernel_rfl) (by kernel_rfl) (by kernel_rfl) (fun _ _ _ h => h) (by rfl) (fun wS hv => ?_) hS ?_
            rotate_left
            · clear hv
              go_simp
              all_goals with_reducible rfl
            try simp only [Act.put, List.setIfInBounds_toArray, List.set]
            refine until_take 17 (some 20) (u := ?_) rfl rfl (by kernel_rfl) (by kernel_rfl) (by kernel_rfl) (by kernel_rfl) (fun _ _ _ h => h) (by rfl) (fun wS hv => ?_) hS ?_
            rotate_left
            · clear hv
              go_simp
              all_goals with_reducible rfl
            try simp only [Act.put, List.setIfInBounds_toArray, List.set]
            refine until_take 18 (some 2) (u := ?_) rfl rfl (by kernel_rfl) (by kernel_rfl) (by kernel_rfl) (by kernel_rfl) (fun _ _ _ h => h) (by rfl) (fun wS hv => ?_) hS ?_
            rotate_left
            · clear hv
              go_simp
              all_goals with_reducible rfl
            try simp only [Act.put, List.setIfInBounds_toArray, List.set]
            refine until_done (by kernel_rfl) ?_
            clear hS
            go_wp2_with fail
            go_ret
            exact ⟨by rw [HPK.out]; rfl, HB.out⟩
        · refine step_value (d := some 15) (by rfl) rfl (r := str zero32) (w1 := wc) (by have hcv := conv32 HZ.out; go_simp) ?_
          refine hK.out _ _ hS (fun hS => ?_)
          clear hK K
          try simp only [Act.put, List.setIfInBounds_toArray, List.set]
          refine until_one 9 (by kernel_rfl) rfl (fun K hK => ?_)
          go_simp
          refine (eight_pos c c0 _).mono ?_
          rw [HS2.out]
          rintro ev wc ⟨rfl, hbc⟩
          replace HM := Lib.hid (HM.out.step hbc)
          replace HB := Lib.hid (bel_step HB.out hbc)
          clear hbc
          refine hK.out _ _ ⟨HM.out.cell 0, HM.out.cell 1, HM.out.cell 2⟩ (fun hS => ?_)
          clear hK K
          try simp only [Act.put, List.setIfInBounds_toArray, List.set]
          refine until_take 10 (some 13) (u := ?_) rfl rfl (by kernel_rfl) (by kernel_rfl) (by kernel_rfl) (by kernel_rfl) (fun _ _ _ h => h) (by rfl) (fun wS hv => ?_) hS ?_
          rotate_left
          · clear hv
            go_simp
            all_goals with_reducible rfl
          try simp only [Act.put, List.setIfInBounds_toArray, List.set]
          refine until_take 13 (some 16) (u := ?_) rfl rfl (by kernel_rfl) (by kernel_rfl) (by kernel_rfl) (by kernel_rfl) (fun _ _ _ h => h) (by rfl) (fun wS hv => ?_) hS ?_
          rotate_left
          · clear hv
            go_simp
            all_goals with_reducible rfl
          try simp only [Act.put, List.setIfInBounds_toArray, List.set]
          refine until_one 16 (by kernel_rfl) rfl (fun K hK => ?_)
          go_simp
          refine (eight_pos e e0 _).mono ?_
          rw [HS0.out]
          rintro ev wc ⟨rfl, hbc⟩
          replace HM := Lib.hid (HM.out.step hbc)
          replace HB := Lib.hid (bel_step HB.out hbc)
          clear hbc
          refine hK.out _ _ ⟨HM.out.cell 0, HM.out.cell 1, HM.out.cell 2⟩ (fun hS => ?_)
          clear hK K
          try simp only [Act.put, List.setIfInBounds_toArray, List.set]
          refine until_take 17 (some 20) (u := ?_) rfl rfl (by kernel_rfl) (by kernel_rfl) (by kernel_rfl) (by kernel_rfl) (fun _ _ _ h => h) (by rfl) (fun wS hv => ?_) hS ?_
          rotate_left
          · clear hv
            go_simp
            all_goals with_reducible rfl
          try simp only [Act.put, List.setIfInBounds_toArray, List.set]
          refine until_take 18 (some 2) (u := ?_) rfl rfl (by kernel_rfl) (by kernel_rfl) (by kernel_rfl) (by kernel_rfl) (fun _ _ _ h => h) (by rfl) (fun wS hv => ?_) hS ?_
          rotate_left
          · clear hv
            go_simp
            all_goals with_reducible rfl
          try simp only [Act.put, List.setIfInBounds_toArray, List.set]
          refine until_done (by kernel_rfl) ?_
          clear hS
          go_wp2_with fail
          go_ret
          exact ⟨by rw [HPK.out]; rfl, HB.out⟩
      · refine step_value (d := some 15) (by rfl) rfl (r := str zero32) (w1 := wc) (by have hcv := conv32 HZ.out; go_simp) ?_
        refine hK.out _ _ hS (fun hS => ?_)
        clear hK K
        try simp only [Act.put, List.setIfInBounds_toArray, List.set]
        refine until_one 5 (by kernel_rfl) rfl (fun K hK => ?_)
        go_simp
        refine (eight_pos b b0 _).mono ?_
        rw [HS1.out]
        rintro ev wc ⟨rfl, hbc⟩
        replace HM := Lib.hid (HM.out.step hbc)
        replace HB := Lib.hid (bel_step HB.out hbc)
        clear hbc
        refine hK.out _ _ ⟨HM.out.cell 0, HM.out.cell 1, HM.out.cell 2⟩ (fun hS => ?_)
        clear hK K
        try simp only [Act.put, List.setIfInBounds_toArray, List.set]
        refine until_take 6 (some 9) (u := ?_) rfl rfl (by kernel_rfl) (by kernel_rfl) (by kernel_rfl) (by kernel_rfl) (fun _ _ _ h => h) (by rfl) (fun wS hv => ?_) hS ?_
        rotate_left
        · clear hv
          go_simp
          all_goals with_reducible rfl
        try simp only [Act.put, List.setIfInBounds_toArray, List.set]
        refine until_one 9 (by kernel_rfl) rfl (fun K hK => ?_)
        go_simp
        refine (eight_pos c c0 _).mono ?_
        rw [HS2.out]
        rintro ev wc ⟨rfl, hbc⟩
        replace HM := Lib.hid (HM.out.step hbc)
        replace HB := Lib.hid (bel_step HB.out hbc)
        clear hbc
        refine hK.out _ _ ⟨HM.out.cell 0, HM.out.cell 1, HM.out.cell 2⟩ (fun hS => ?_)
        clear hK K
        try simp only [Act.put, List.setIfInBounds_toArray, List.set]
        refine until_take 10 (some 13) (u := ?_) rfl rfl (by kernel_rfl) (by kernel_rfl) (by kernel_rfl) (by kernel_rfl) (fun _ _ _ h => h) (by rfl) (fun wS hv => ?_) hS ?_
        rotate_left
        · clear hv
          go_simp
          all_goals with_reducible rfl
        try simp only [Act.put, List.setIfInBounds_toArray, List.set]
        refine until_take 13 (some 16) (u := ?_) rfl rfl (by kernel_rfl) (by kernel_rfl) (by kernel_rfl) (by kernel_rfl) (fun _ _ _ h => h) (by rfl) (fun wS hv => ?_) hS ?_
        rotate_left
        · clear hv
          go_simp
          all_goals with_reducible rfl
        try simp only [Act.put, List.setIfInBounds_toArray, List.set]
        refine until_one 16 (by kernel_rfl) rfl (fun K hK => ?_)
        go_simp
        refine (eight_pos e e0 _).mono ?_
        rw [HS0.out]
        rintro ev wc ⟨rfl, hbc⟩
        replace HM := Lib.hid (HM.out.step hbc)
        replace HB := Lib.hid (bel_step HB.out hbc)
        clear hbc
        refine hK.out _ _ ⟨HM.out.cell 0, HM.out.cell 1, HM.out.cell 2⟩ (fun hS => ?_)
        clear hK K
        try simp only [Act.put, List.setIfInBounds_toArray, List.set]
        refine until_take 17 (some 20) (u := ?_) rfl rfl (by kernel_rfl) (by kernel_rfl) (by kernel_rfl) (by kernel_rfl) (fun _ _ _ h => h) (by rfl) (fun wS hv => ?_) hS ?_
        rotate_left
        · clear hv
          go_simp
          all_goals with_reducible rfl
        try simp only [Act.put, List.setIfInBounds_toArray, List.set]
        refine until_take 18 (some 2) (u := ?_) rfl rfl (by kernel_rfl) (by kernel_rfl) (by kernel_rfl) (by kernel_rfl) (fun _ _ _ h => h) (by rfl) (fun wS hv => ?_) hS ?_
        rotate_left
        · clear hv
          go_simp
          all_goals with_reducible rfl
        try simp only [Act.put, List.setIfInBounds_toArray, List.set]
        refine until_done (by kernel_rfl) ?_
        clear hS
        go_wp2_with fail
        go_ret
        exact ⟨by rw [HPK.out]; rfl, HB.out⟩
  · refine step_value (d := some 14) (by rfl) rfl (r := .slice (some ⟨wc.heap.size, 0, none⟩) 32 32) (w1 := wc.alloc (.cells row32 5)) (by have hmk := make32 wc; go_simp) ?_
    have hbc : Below wc.heap.size wc (wc.alloc (.cells row32 5)) := (Below.refl _ _).alloc (Nat.le_refl _) _
    have HZ := Lib.hid (Blk.new wc 5 row32)
    replace HM := Lib.hid (HM.out.step hbc)
    replace HB := Lib.hid (bel_step HB.out hbc)
    clear hbc
    obtain ⟨bz, hbz⟩ : ∃ q, wc.heap.size = q := ⟨_, rfl⟩
    rw [hbz] at HZ ⊢
    clear hbz
    generalize wc.alloc (.cells row32 5) = wc at HZ HM HB ⊢
    refine hK.out _ _ ⟨HM.out.cell 0, HM.out.cell 1, HM.out.cell 2⟩ (fun hS => ?_)
    clear hK K
    try simp only [Act.put, List.setIfInBounds_toArray, List.set]
    refine until_two 2 12 (by kernel_rfl) rfl rfl (fun K hK => ?_) (fun K hK => ?_)
    · go_simp
      refine (eight_pos e e0 _).mono ?_
      rw [HS0.out]
      rintro ev wc ⟨rfl, hbc⟩
      replace HM := Lib.hid (HM.out.step hbc)
      replace HB := Lib.hid (bel_step HB.out hbc)
      replace HZ := Lib.hid (HZ.out.step hbc)
      clear hbc
      refine hK.out _ _ ⟨HM.out.cell 0, HM.out.cell 1, HM.out.cell 2⟩ (fun hS => ?_)
      clear hK K
      try simp only [Act.put, List.setIfInBounds_toArray, List.set]
      refine until_two 5 12 (by kernel_rfl) rfl rfl (fun K hK => ?_) (fun K hK => ?_)
      · go_simp
        refine (eight_pos b b0 _).mono ?_
        rw [HS1.out]
        rintro ev wc ⟨rfl, hbc⟩
        replace HM := Lib.hid (HM.out.step hbc)
        replace HB := Lib.hid (bel_step HB.out hbc)
        replace HZ := Lib.hid (HZ.out.step hbc)
        clear hbc
        refine hK.out _ _ ⟨HM.out.cell 0, HM.out.cell 1, HM.out.cell 2⟩ (fun hS => ?_)
        clear hK K
        try simp only [Act.put, List.setIfInBounds_toArray, List.set]
        refine until_take 6 (some 9) (u := ?_) rfl rfl (by kernel_rfl) (by kernel_rfl) (by kernel_rfl) (by kernel_rfl) (fun _ _ _ h => h) (by rfl) (fun wS hv => ?_) hS ?_
        rotate_left
        · clear hv
          go_simp
          all_goals with_reducible rfl
        try simp only [Act.put, List.setIfInBounds_toArray, List.set]
        refine until_two 9 12 (by kernel_rfl) rfl rfl (fun K hK => ?_) (fun K hK => ?_)
        · go_simp
          refine (eight_pos c c0 _).mono ?_
          rw [HS2.out]
          rintro ev wc ⟨rfl, hbc⟩
          replace HM := Lib.hid (HM.out.step hbc)
          replace HB := Lib.hid (bel_step HB.out hbc)
          replace HZ := Lib.hid (HZ.out.step hbc)
          clear hbc
          refine hK.out _ _ ⟨HM.out.cell 0, HM.out.cell 1, HM.out.cell 2⟩ (fun hS => ?_)
          clear hK K
          try simp only [Act.put, List.setIfInBounds_toArray, List.set]
          refine until_take 10 (some 13) (u := ?_) rfl rfl (by kernel_rfl) (by kernel_rfl) (by kernel_rfl) (by kernel_rfl) (fun _ _ _ h => h) (by rfl) (fun wS hv => ?_) hS ?_
          rotate_left
          · clear hv
            go_simp
            all_goals with_reducible rfl
          try simp only [Act.put, List.setIfInBounds_toArray, List.set]
          refine until_two 12 16 (by kernel_rfl) rfl rfl (fun K hK => ?_) (fun K hK => ?_)
          · refine step_value (d := some 15) (by rfl) rfl (r := str zero32) (w1 := wc) (by have hcv := conv32 HZ.out; go_simp) ?_
            refine hK.out _ _ hS (fun hS => ?_)
            clear hK K
            try simp only [Act.put, List.setIfInBounds_toArray, List.set]
            refine until_take 13 (some 16) (u := ?_) rfl rfl (by kernel_rfl) (by kernel_rfl) (by kernel_rfl) (by kernel_rfl) (fun _ _ _ h => h) (by rfl) (fun wS hv => ?_) hS ?_
            rotate_left
            · clear hv
              go_simp
              all_goals with_reducible rfl
            try simp only [Act.put, List.setIfInBounds_toArray, List.set]
            refine until_one 16 (by kernel_rfl) rfl (fun K hK => ?_)
            go_simp
            refine (eight_pos e e0 _).mono ?_
            rw [HS0.out]
            rintro ev wc ⟨rfl, hbc⟩
            replace HM := Lib.hid (HM.out.step hbc)
            replace HB := Lib.hid (bel_step HB.out hbc)
            clear hbc
            refine hK.out _ _ ⟨HM.out.cell 0, HM.out.cell 1, HM.out.cell 2⟩ (fun hS => ?_)
            clear hK K
            try simp only [Act.put, List.setIfInBounds_toArray, List.set]
            refine until_take 17 (some 20) (u := ?_) rfl rfl (by kernel_rfl) (by kernel_rfl) (by kernel_rfl) (by kernel_rfl) (fun _ _ _ h => h) (by rfl) (fun wS hv => ?_) hS ?_
            rotate_left
            · clear hv
              go_simp
              all_goals with_reducible rfl
            try simp only [Act.put, List.setIfInBounds_toArray, List.set]
            refine until_take 18 (some 2) (u := ?_) rfl rfl (by kernel_rfl) (by kernel_rfl) (by kernel_rfl) (by kernel_rfl) (fun _ _ _ h => h) (by rfl) (fun wS hv => ?_) hS ?_
            rotate_left
            · clear hv
              go_simp
              all_goals with_reducible rfl
            try simp only [Act.put, List.setIfInBounds_toArray, List.set]
            refine until_done (by kernel_rfl) ?_
            clear hS
            go_wp2_with fail
            go_ret
            exact ⟨by rw [HPK.out]; rfl, HB.out⟩
          · go_simp
            refine (eight_pos e e0 _).mono ?_
            rw [HS0.out]
            rintro ev wc ⟨rfl, hbc⟩
            replace HM := Lib.hid (HM.out.step hbc)
            replace HB := Lib.hid (bel_step HB.out hbc)
            replace HZ := Lib.hid (HZ.out.step hbc)
            clear hbc
            refine hK.out _ _ ⟨HM.out.cell 0, HM.out.cell 1, HM.out.cell 2⟩ (fun hS => ?_)
            clear hK K
            try simp only [Act.put, List.setIfInBounds_toArray, List.set]
            refine until_one 12 (by kernel_rfl) rfl (fun K hK => ?_)
            refine step_value (d := some 15) (by rfl) rfl (r := str zero32) (w1 := wc) (by have hcv := conv32 HZ.out; go_simp) ?_
            refine hK.out _ _ hS (fun hS => ?_)
            clear hK K
            try simp only [Act.put, List.setIfInBounds_toArray, List.set]
            refine until_take 13 (some 16) (u := ?_) rfl rfl (by kernel_rfl) (by kernel_rfl) (by kernel_rfl) (by kernel_rfl) (fun _ _ _ h => h) (by rfl) (fun wS hv => ?_) hS ?_
            rotate_left
            · clear hv
              go_simp
              all_goals with_reducible rfl
            try simp only [Act.put, List.setIfInBounds_toArray, List.set]
            refine until_take 17 (some 20) (u := ?_) rfl rfl (by kernel_rfl) (by kernel_rfl) (by kernel_rfl) (by kernel_rfl) (fun _ _ _ h => h) (by rfl) (fun wS hv => ?_) hS ?_
            rotate_left
            · clear hv
              go_simp
              all_goals with_reducible rfl
            try simp only [Act.put, List.setIfInBounds_toArray, List.set]
            refine until_take 18 (some 2) (u := ?_) rfl rfl (by kernel_rfl) (by kernel_rfl) (by kernel_rfl) (by kernel_rfl) (fun _ _ _ h => h) (by rfl) (fun wS hv => ?_) hS ?_
            rotate_left
            · clear hv
              go_simp
              all_goals with_reducible rfl
            try simp only [Act.put, List.setIfInBounds_toArray, List.set]
            refine until_done (by kernel_rfl) ?_
            clear hS
            go_wp2_with fail
            go_ret
            exact ⟨by rw [HPK.out]; rfl, HB.out⟩
        · refine step_value (d := some 15) (by rfl) rfl (r := str zero32) (w1 := wc) (by have hcv := conv32 HZ.out; go_simp) ?_
          refine hK.out _ _ hS (fun hS => ?_)
          clear hK K
          try simp only [Act.put, List.setIfInBounds_toArray, List.set]
          refine until_one 9 (by kernel_rfl) rfl (fun K hK => ?_)
          go_simp
          refine (eight_pos c c0 _).mono ?_
          rw [HS2.out]
          rintro ev wc ⟨rfl, hbc⟩
          replace HM := Lib.hid (HM.out.step hbc)
          replace HB := Lib.hid (bel_step HB.out hbc)
          clear hbc
          refine hK.out _ _ ⟨HM.out.cell 0, HM.out.cell 1, HM.out.cell 2⟩ (fun hS => ?_)
          clear hK K
          try simp only [Act.put, List.setIfInBounds_toArray, List.set]
          refine until_take 10 (some 13) (u := ?_) rfl rfl (by kernel_rfl) (by kernel_rfl) (by kernel_rfl) (by kernel_rfl) (fun _ _ _ h => h) (by rfl) (fun wS hv => ?_) hS ?_
          rotate_left
          · clear hv
            go_simp
            all_goals with_reducible rfl
          try simp only [Act.put, List.setIfInBounds_toArray, List.set]
          refine until_take 13 (some 16) (u := ?_) rfl rfl (by kernel_rfl) (by kernel_rfl) (by kernel_rfl) (by kernel_rfl) (fun _ _ _ h => h) (by rfl) (fun wS hv => ?_) hS ?_
          rotate_left
          · clear hv
            go_simp
            all_goals with_reducible rfl
          try simp only [Act.put, List.setIfInBounds_toArray, List.set]
          refine until_one 16 (by kernel_rfl) rfl (fun K hK => ?_)
          go_simp
          refine (eight_pos e e0 _).mono ?_
          rw [HS0.out]
          rintro ev wc ⟨rfl, hbc⟩
          replace HM := Lib.hid (HM.out.step hbc)
          replace HB := Lib.hid (bel_step HB.out hbc)
          clear hbc
          refine hK.out _ _ ⟨HM.out.cell 0, HM.out.cell 1, HM.out.cell 2⟩ (fun hS => ?_)
          clear hK K
          try simp only [Act.put, List.setIfInBounds_toArray, List.set]
          refine until_take 17 (some 20) (u := ?_) rfl rfl (by kernel_rfl) (by kernel_rfl) (by kernel_rfl) (by kernel_rfl) (fun _ _ _ h => h) (by rfl) (fun wS hv => ?_) hS ?_
          rotate_left
          · clear hv
            go_simp
            all_goals with_reducible rfl
          try simp only [Act.put, List.setIfInBounds_toArray, List.set]
          refine until_take 18 (some 2) (u := ?_) rfl rfl (by kernel_rfl) (by kernel_rfl) (by kernel_rfl) (by kernel_rfl) (fun _ _ _ h => h) (by rfl) (fun wS hv => ?_) hS ?_
          rotate_left
          · clear hv
            go_simp
            all_goals with_reducible rfl
          try simp only [Act.put, List.setIfInBounds_toArray, List.set]
          refine until_done (by kernel_rfl) ?_
          clear hS
          go_wp2_with fail
          go_ret
          exact ⟨by rw [HPK.out]; rfl, HB.out⟩
      · refine step_value (d := some 15) (by rfl) rfl (r := str zero32) (w1 := wc) (by have hcv := conv32 HZ.out; go_simp) ?_
        refine hK.out _ _ hS (fun hS => ?_)
        clear hK K
        try simp only [Act.put, List.setIfInBounds_toArray, List.set]
        refine until_one 5 (by kernel_rfl) rfl (fun K hK => ?_)
        go_simp
        refine (eight_pos b b0 _).mono ?_
        rw [HS1.out]
        rintro ev wc ⟨rfl, hbc⟩
        replace HM := Lib.hid (HM.out.step hbc)
        replace HB := Lib.hid (bel_step HB.out hbc)
        clear hbc
        refine hK.out _ _ ⟨HM.out.cell 0, HM.out.cell 1, HM.out.cell 2⟩ (fun hS => ?_)
        clear hK K
        try simp only [Act.put, List.setIfInBounds_toArray, List.set]
        refine until_take 6 (some 9) (u := ?_) rfl rfl (by kernel_rfl) (by kernel_rfl) (by kernel_rfl) (by kernel_rfl) (fun _ _ _ h => h) (by rfl) (fun wS hv => ?_) hS ?_
        rotate_left
        · clear hv
          go_simp
          all_goals with_reducible rfl
        try simp only [Act.put, List.setIfInBounds_toArray, List.set]
        refine until_one 9 (by kernel_rfl) rfl (fun K hK => ?_)
        go_simp
        refine (eight_pos c c0 _).mono ?_
        rw [HS2.out]
        rintro ev wc ⟨rfl, hbc⟩
        replace HM := Lib.hid (HM.out.step hbc)
        replace HB := Lib.hid (bel_step HB.out hbc)
        clear hbc
        refine hK.out _ _ ⟨HM.out.cell 0, HM.out.cell 1, HM.out.cell 2⟩ (fun hS => ?_)
        clear hK K
        try simp only [Act.put, List.setIfInBounds_toArray, List.set]
        refine until_take 10 (some 13) (u := ?_) rfl rfl (by kernel_rfl) (by kernel_rfl) (by kernel_rfl) (by kernel_rfl) (fun _ _ _ h => h) (by rfl) (fun wS hv => ?_) hS ?_
        rotate_left
        · clear hv
          go_simp
          all_goals with_reducible rfl
        try simp only [Act.put, List.setIfInBounds_toArray, List.set]
        refine until_take 13 (some 16) (u := ?_) rfl rfl (by kernel_rfl) (by kernel_rfl) (by kernel_rfl) (by kernel_rfl) (fun _ _ _ h => h) (by rfl) (fun wS hv => ?_) hS ?_
        rotate_left
        · clear hv
          go_simp
          all_goals with_reducible rfl
        try simp only [Act.put, List.setIfInBounds_toArray, List.set]
        refine until_one 16 (by kernel_rfl) rfl (fun K hK => ?_)
        go_simp
        refine (eight_pos e e0 _).mono ?_
        rw [HS0.out]
        rintro ev wc ⟨rfl, hbc⟩
        replace HM := Lib.hid (HM.out.step hbc)
        replace HB := Lib.hid (bel_step HB.out hbc)
        clear hbc
        refine hK.out _ _ ⟨HM.out.cell 0, HM.out.cell 1, HM.out.cell 2⟩ (fun hS => ?_)
        clear hK K
        try simp only [Act.put, List.setIfInBounds_toArray, List.set]
        refine until_take 17 (some 20) (u := ?_) rfl rfl (by kernel_rfl) (by kernel_rfl) (by kernel_rfl) (by kernel_rfl) (fun _ _ _ h => h) (by rfl) (fun wS hv => ?_) hS ?_
        rotate_left
        · clear hv
          go_simp
          all_goals with_reducible rfl
        try simp only [Act.put, List.setIfInBounds_toArray, List.set]
        refine until_take 18 (some 2) (u := ?_) rfl rfl (by kernel_rfl) (by kernel_rfl) (by kernel_rfl) (by kernel_rfl) (fun _ _ _ h => h) (by rfl) (fun wS hv => ?_) hS ?_
        rotate_left
        · clear hv
          go_simp
          all_goals with_reducible rfl
        try simp only [Act.put, List.setIfInBounds_toArray, List.set]
        refine until_done (by kernel_rfl) ?_
        clear hS
        go_wp2_with fail
        go_ret
        exact ⟨by rw [HPK.out]; rfl, HB.out⟩
    · refine step_value (d := some 15) (by rfl) rfl (r := str zero32) (w1 := wc) (by have hcv := conv32 HZ.out; go_simp) ?_
      refine hK.out _ _ hS (fun hS => ?_)
      clear hK K
      try simp only [Act.put, List.setIfInBounds_toArray, List.set]
      refine until_one 2 (by kernel_rfl) rfl (fun K hK => ?_)
      go_simp
      refine (eight_pos e e0 _).mono ?_
      rw [HS0.out]
      rintro ev wc ⟨rfl, hbc⟩
      replace HM := Lib.hid (HM.out.step hbc)
      replace HB := Lib.hid (bel_step HB.out hbc)
      clear hbc
      refine hK.out _ _ ⟨HM.out.cell 0, HM.out.cell 1, HM.out.cell 2⟩ (fun hS => ?_)
      clear hK K
      try simp only [Act.put, List.setIfInBounds_toArray, List.set]
      refine until_one 5 (by kernel_rfl) rfl (fun K hK => ?_)
      go_simp
      refine (eight_pos b b0 _).mono ?_
      rw [HS1.out]
      rintro ev wc ⟨rfl, hbc⟩
      replace HM := Lib.hid (HM.out.step hbc)
      replace HB := Lib.hid (bel_step HB.out hbc)
      clear hbc
      refine hK.out _ _ ⟨HM.out.cell 0, HM.out.cell 1, HM.out.cell 2⟩ (fun hS => ?_)
      clear hK K
      try simp only [Act.put, List.setIfInBounds_toArray, List.set]
      refine until_take 6 (some 9) (u := ?_) rfl rfl (by kernel_rfl) (by kernel_rfl) (by kernel_rfl) (by kernel_rfl) (fun _ _ _ h => h) (by rfl) (fun wS hv => ?_) hS ?_
      rotate_left
      · clear hv
        go_simp
        all_goals with_reducible rfl
      try simp only [Act.put, List.setIfInBounds_toArray, List.set]
      refine until_one 9 (by kernel_rfl) rfl (fun K hK => ?_)
      go_simp
      refine (eight_pos c c0 _).mono ?_
      rw [HS2.out]
      rintro ev wc ⟨rfl, hbc⟩
      replace HM := Lib.hid (HM.out.step hbc)
      replace HB := Lib.hid (bel_step HB.out hbc)
      clear hbc
      refine hK.out _ _ ⟨HM.out.cell 0, HM.out.cell 1, HM.out.cell 2⟩ (fun hS => ?_)
      clear hK K
      try simp only [Act.put, List.setIfInBounds_toArray, List.set]
      refine until_take 10 (some 13) (u := ?_) rfl rfl (by kernel_rfl) (by kernel_rfl) (by kernel_rfl) (by kernel_rfl) (fun _ _ _ h => h) (by rfl) (fun wS hv => ?_) hS ?_
      rotate_left
      · clear hv
        go_simp
        all_goals with_reducible rfl
      try simp only [Act.put, List.setIfInBounds_toArray, List.set]
      refine until_take 13 (some 16) (u := ?_) rfl rfl (by kernel_rfl) (by kernel_rfl) (by kernel_rfl) (by kernel_rfl) (fun _ _ _ h => h) (by rfl) (fun wS hv => ?_) hS ?_
      rotate_left
      · clear hv
        go_simp
        all_goals with_reducible rfl
      try simp only [Act.put, List.setIfInBounds_toArray, List.set]
      refine until_one 16 (by kernel_rfl) rfl (fun K hK => ?_)
      go_simp
      refine (eight_pos e e0 _).mono ?_
      rw [HS0.out]
      rintro ev wc ⟨rfl, hbc⟩
      replace HM := Lib.hid (HM.out.step hbc)
      replace HB := Lib.hid (bel_step HB.out hbc)
      clear hbc
      refine hK.out _ _ ⟨HM.out.cell 0, HM.out.cell 1, HM.out.cell 2⟩ (fun hS => ?_)
      clear hK K
      try simp only [Act.put, List.setIfInBounds_toArray, List.set]
      refine until_take 17 (some 20) (u := ?_) rfl rfl (by kernel_rfl) (by kernel_rfl) (by kernel_rfl) (by kernel_rfl) (fun _ _ _ h => h) (by rfl) (fun wS hv => ?_) hS ?_
      rotate_left
      · clear hv
        go_simp
        all_goals with_reducible rfl
      try simp only [Act.put, List.setIfInBounds_toArray, List.set]
      refine until_take 18 (some 2) (u := ?_) rfl rfl (by kernel_rfl) (by kernel_rfl) (by kernel_rfl) (by kernel_rfl) (fun _ _ _ h => h) (by rfl) (fun wS hv => ?_) hS ?_
      rotate_left
      · clear hv
        go_simp
        all_goals with_reducible rfl
      try simp only [Act.put, List.setIfInBounds_toArray, List.set]
      refine until_done (by kernel_rfl) ?_
      clear hS
      go_wp2_with fail
      go_ret
      exact ⟨by rw [HPK.out]; rfl, HB.out⟩
end Go.Proofs.Ytiighehibiijcaa

namespace Go.Proofs.Ytiighehibiijcaa
open Go.RowKit
set_option linter.unusedSimpArgs false
set_option linter.unnecessarySimpa false
set_option linter.unusedVariables false

theorem numR_neg {t : List UInt8} : numR t < 0 ↔ ¬ val t ≤ 1099511627776 := by
  unfold numR
  split <;> omega
theorem numR_pos {t : List UInt8} (h : ¬ numR t < 0) : val t ≤ 1099511627776 ∧ numR t = (val t : Int) := by
  unfold numR at h ⊢
  split at h
  · rename_i hv
    rw [if_pos hv]
    exact ⟨hv, rfl⟩
  · omega
theorem unpack_bad {s : List UInt8} (h : numR (numT s 0) < 0 ∨ numR (numT s 1) < 0 ∨ numR (numT s 2) < 0) : unpackR s = ((0, 0, 0), false) := by
  unfold unpackR NumsFit numAt
  rw [if_neg]
  rintro ⟨⟨_, h0, h1, h2⟩, _⟩
  rcases h with h | h | h
  · exact numR_neg.1 h h0
  · exact numR_neg.1 h h1
  · exact numR_neg.1 h h2
theorem unpack_good {s : List UInt8} (h64 : s.length = 64) (h0 : ¬ numR (numT s 0) < 0) (h1 : ¬ numR (numT s 1) < 0) (h2 : ¬ numR (numT s 2) < 0) (hp : packS (numR (numT s 0)) (numR (numT s 1)) (numR (numT s 2)) = s) :
    unpackR s = ((numR (numT s 0), numR (numT s 1), numR (numT s 2)), true) := by
  obtain ⟨a0, b0⟩ := numR_pos h0
  obtain ⟨a1, b1⟩ := numR_pos h1
  obtain ⟨a2, b2⟩ := numR_pos h2
  rw [b0, b1, b2] at hp ⊢
  unfold unpackR NumsFit numAt
  rw [if_pos ⟨⟨h64, a0, a1, a2⟩, hp⟩]
theorem unpack_other {s : List UInt8} (hp : packS (numR (numT s 0)) (numR (numT s 1)) (numR (numT s 2)) ≠ s) : unpackR s = ((0, 0, 0), false) := by
  by_cases h : numR (numT s 0) < 0 ∨ numR (numT s 1) < 0 ∨ numR (numT s 2) < 0
  · exact unpack_bad h
  · obtain ⟨a0, b0⟩ := numR_pos (fun e => h (.inl e))
    obtain ⟨a1, b1⟩ := numR_pos (fun e => h (.inr (.inl e)))
    obtain ⟨a2, b2⟩ := numR_pos (fun e => h (.inr (.inr e)))
    rw [b0, b1, b2] at hp
    unfold unpackR NumsFit numAt
    rw [if_neg (fun e => hp e.2)]

set_option maxRecDepth 100000 in
set_option maxHeartbeats 8000000 in
theorem refUnpack_any (s : List UInt8) (w : World) (e0 b0 c0 : Int) (ok : Bool) (hu : unpackR s = ((e0, b0, c0), ok)) :
    Calls Try.prog 77 #[str s] w fun e w' => e = .returned (.tuple #[.agg #[.int .i64 e0, .int .i64 b0, .int .i64 c0], .bool ok]) ∧ Below w.heap.size w w' := by
  have HU := Lib.hid hu
  clear hu
  go_enter Try.func77, Try.ntmps77
  by_cases h64 : s.length = 64
  · have h64c : (s.length != 64) = false := by simpa using h64
    have h64b : (s.length == 64) = true := by simpa using h64
    obtain ⟨n0, hn0⟩ : ∃ n, numR (numT s 0) = n := ⟨_, rfl⟩
    obtain ⟨n1, hn1⟩ : ∃ n, numR (numT s 1) = n := ⟨_, rfl⟩
    obtain ⟨n2, hn2⟩ : ∃ n, numR (numT s 2) = n := ⟨_, rfl⟩
    have HF := Lib.hid (show (n0 < 0 ∨ n1 < 0 ∨ n2 < 0) → unpackR s = ((0, 0, 0), false) by rw [← hn0, ← hn1, ← hn2]; exact unpack_bad)
    have HT := Lib.hid (show ¬ n0 < 0 → ¬ n1 < 0 → ¬ n2 < 0 → packS n0 n1 n2 = s → unpackR s = ((n0, n1, n2), true) by rw [← hn0, ← hn1, ← hn2]; exact unpack_good h64)
    have HX := Lib.hid (show packS n0 n1 n2 ≠ s → unpackR s = ((0, 0, 0), false) by rw [← hn0, ← hn1, ← hn2]; exact unpack_other)
    have HN0 := Lib.hid hn0
    have HN1 := Lib.hid hn1
    have HN2 := Lib.hid hn2
    have HT0 := Lib.hid (show List.take 8 s = numT s 0 by unfold numT; rw [Nat.zero_mul, List.drop_zero])
    have HT1 := Lib.hid (show List.take (16 - 8) (List.drop 8 s) = numT s 1 from rfl)
    have HT2 := Lib.hid (show List.take (24 - 16) (List.drop 16 s) = numT s 2 from rfl)
    have HL0 := Lib.hid (numT_length h64 (show 0 < 3 by omega))
    have HL1 := Lib.hid (numT_length h64 (show 1 < 3 by omega))
    have HL2 := Lib.hid (numT_length h64 (show 2 < 3 by omega))
    clear hn0 hn1 hn2
    go_wp2_with fail
    have HY1 := Lib.hid (Blk.new w 62 zeroMark)
    have HB1 := Lib.hid ((Below.refl w.heap.size w).alloc (Nat.le_refl _) (.cells zeroMark 62))
    obtain ⟨gm, hgm⟩ : ∃ q, w.heap.size = q := ⟨_, rfl⟩
    have HG := Lib.hid (show w.heap.size ≤ gm by omega)
    rw [hgm] at HY1 ⊢
    clear hgm
    change Code.wp _ _ _ _ (w.alloc (.cells zeroMark 62))
    generalize w.alloc (.cells zeroMark 62) = w1 at HY1 HB1 ⊢
    refine until_begin 11 (fun _ => True) (by kernel_rfl) trivial (fun hS => ?_)
    refine until_take 0 (some 9) (u := ?_) rfl rfl (by kernel_rfl) (by kernel_rfl) (by kernel_rfl) (by kernel_rfl) (fun _ _ _ h => h) (by rfl) (fun wS hv => ?_) hS ?_
    rotate_left
    · clear hv
      go_simp
      all_goals with_reducible rfl
    try simp only [Act.put, List.setIfInBounds_toArray, List.set]
    refine until_take 1 (some 10) (u := ?_) rfl rfl (by kernel_rfl) (by kernel_rfl) (by kernel_rfl) (by kernel_rfl) (fun _ _ _ h => h) (by rfl) (fun wS hv => ?_) hS ?_
    rotate_left
    · clear hv
      go_simp
      all_goals with_reducible rfl
    try simp only [Act.put, List.setIfInBounds_toArray, List.set]
    refine until_take 3 (some 12) (u := ?_) rfl rfl (by kernel_rfl) (by kernel_rfl) (by kernel_rfl) (by kernel_rfl) (fun _ _ _ h => h) (by rfl) (fun wS hv => ?_) hS ?_
    rotate_left
    · clear hv
      go_simp
      all_goals with_reducible rfl
    try simp only [Act.put, List.setIfInBounds_toArray, List.set]
    refine until_take 4 (some 13) (u := ?_) rfl rfl (by kernel_rfl) (by kernel_rfl) (by kernel_rfl) (by kernel_rfl) (fun _ _ _ h => h) (by rfl) (fun wS hv => ?_) hS ?_
    rotate_left
    · clear hv
      go_simp
      all_goals with_reducible rfl
    try simp only [Act.put, List.setIfInBounds_toArray, List.set]
    refine until_take 6 (some 15) (u := ?_) rfl rfl (by kernel_rfl) (by kernel_rfl) (by kernel_rfl) (by kernel_rfl) (fun _ _ _ h => h) (by rfl) (fun wS hv => ?_) hS ?_
    rotate_left
    · clear hv
      go_simp
      all_goals with_reducible rfl
    try simp only [Act.put, List.setIfInBounds_toArray, List.set]
    refine until_take 7 (some 16) (u := ?_) rfl rfl (by kernel_rfl) (by kernel_rfl) (by kernel_rfl) (by kernel_rfl) (fun _ _ _ h => h) (by rfl) (fun wS hv => ?_) hS ?_
    rotate_left
    · clear hv
      go_simp
      all_goals with_reducible rfl
    try simp only [Act.put, List.setIfInBounds_toArray, List.set]
    refine until_two 2 10 (by kernel_rfl) rfl rfl (fun K hK => ?_) (fun K hK => ?_)
    · go_simp
      rw [HT0.out]
      refine (number_any _ HL0.out _).mono ?_
      rw [HN0.out]
      rintro ev wx ⟨rfl, rfl⟩
      refine hK.out _ _ trivial (fun hS => ?_)
      clear hK K
      try simp only [Act.put, List.setIfInBounds_toArray, List.set]
      refine until_two 5 10 (by kernel_rfl) rfl rfl (fun K hK => ?_) (fun K hK => ?_)
      · go_simp
        rw [HT1.out]
        refine (number_any _ HL1.out _).mono ?_
        rw [HN1.out]
        rintro ev wx ⟨rfl, rfl⟩
        refine hK.out _ _ trivial (fun hS => ?_)
        clear hK K
        try simp only [Act.put, List.setIfInBounds_toArray, List.set]
        refine until_two 8 10 (by kernel_rfl) rfl rfl (fun K hK => ?_) (fun K hK => ?_)
        · go_simp
          rw [HT2.out]
          refine (number_any _ HL2.out _).mono ?_
          rw [HN2.out]
          rintro ev wx ⟨rfl, rfl⟩
          refine hK.out _ _ trivial (fun hS => ?_)
          clear hK K
          try simp only [Act.put, List.setIfInBounds_toArray, List.set]
          refine until_take 9 (some 18) (u := ?_) rfl rfl (by kernel_rfl) (by kernel_rfl) (by kernel_rfl) (by kernel_rfl) (fun _ _ _ h => h) (by rfl) (fun wS hv => ?_) hS ?_
          rotate_left
          · clear hv
            go_simp
            all_goals with_reducible rfl
          try simp only [Act.put, List.setIfInBounds_toArray, List.set]
          refine until_one 10 (by kernel_rfl) rfl (fun K hK => ?_)
          go_simp
          refine hK.out _ _ trivial (fun hS => ?_)
          clear hK K
          try simp only [Act.put, List.setIfInBounds_toArray, List.set]
          refine until_last (by kernel_rfl) rfl (by kernel_rfl) (fun K hK => ?_)
          go_simp
          refine hK.out _ _ ?_
          clear hK K hS
          have HM2 := Lib.hid ((Blk.new w1 62 #[.int .i64 n0, .int .i64 n1, .int .i64 n2]).drew)
          have HY2 := Lib.hid ((HY1.out.alloc (.cells #[.int .i64 n0, .int .i64 n1, .int .i64 n2] 62)).drew)
          have HB2 := Lib.hid ((HB1.out.alloc HB1.out.size (.cells #[.int .i64 n0, .int .i64 n1, .int .i64 n2] 62)).drew)
          have hne : w1.heap.size ≠ gm := Nat.ne_of_gt HY1.out.lt
          obtain ⟨gn, hgn⟩ : ∃ q, w1.heap.size = q := ⟨_, rfl⟩
          rw [hgn] at HM2 hne ⊢
          clear hgn
          change Exit.then _ _ _ _ (w1.alloc (.cells #[.int .i64 n0, .int .i64 n1, .int .i64 n2] 62)).drew
          generalize (w1.alloc (.cells #[.int .i64 n0, .int .i64 n1, .int .i64 n2] 62)).drew = w2 at HM2 HY2 HB2 ⊢
          obtain ⟨m0, m1, m2, -, -, -⟩ := cells3 HM2.out
          obtain ⟨y0, y1, y2, f0, f1, f2⟩ := cells3 HY2.out
          by_cases g0 : n0 < 0
          · have HBAD := Lib.hid (HF.out (.inl g0))
            go_wp2_with fail
            have hun := HU.out
            rw [HBAD.out] at hun
            simp only [Prod.mk.injEq] at hun
            obtain ⟨⟨rfl, rfl, rfl⟩, rfl⟩ := hun
            have hb4 := ((HB2.out.setCell (p := ⟨gm, 0, none⟩) HG.out (.int .i64 0)).setCell (p := ⟨gm, 1, none⟩) HG.out (.int .i64 0)).setCell (p := ⟨gm, 2, none⟩) HG.out (.int .i64 0)
            refine bodyPost_ret (results_cellrow_tmp rfl _ _ gm 62 zeroMark _ rfl (((HY2.out.set_ 0 _).set_ 1 _).set_ 2 _) Try.underlying62 rfl (by kernel_rfl)) rfl ?_
            exact ⟨rfl, hb4⟩
          · by_cases g1 : n1 < 0
            · have HBAD := Lib.hid (HF.out (.inr (.inl g1)))
              go_wp2_with fail
              have hun := HU.out
              rw [HBAD.out] at hun
              simp only [Prod.mk.injEq] at hun
              obtain ⟨⟨rfl, rfl, rfl⟩, rfl⟩ := hun
              have hb4 := ((HB2.out.setCell (p := ⟨gm, 0, none⟩) HG.out (.int .i64 0)).setCell (p := ⟨gm, 1, none⟩) HG.out (.int .i64 0)).setCell (p := ⟨gm, 2, none⟩) HG.out (.int .i64 0)
              refine bodyPost_ret (results_cellrow_tmp rfl _ _ gm 62 zeroMark _ rfl (((HY2.out.set_ 0 _).set_ 1 _).set_ 2 _) Try.underlying62 rfl (by kernel_rfl)) rfl ?_
              exact ⟨rfl, hb4⟩
            · by_cases g2 : n2 < 0
              · have HBAD := Lib.hid (HF.out (.inr (.inr g2)))
                go_wp2_with fail
                have hun := HU.out
                rw [HBAD.out] at hun
                simp only [Prod.mk.injEq] at hun
                obtain ⟨⟨rfl, rfl, rfl⟩, rfl⟩ := hun
                have hb4 := ((HB2.out.setCell (p := ⟨gm, 0, none⟩) HG.out (.int .i64 0)).setCell (p := ⟨gm, 1, none⟩) HG.out (.int .i64 0)).setCell (p := ⟨gm, 2, none⟩) HG.out (.int .i64 0)
                refine bodyPost_ret (results_cellrow_tmp rfl _ _ gm 62 zeroMark _ rfl (((HY2.out.set_ 0 _).set_ 1 _).set_ 2 _) Try.underlying62 rfl (by kernel_rfl)) rfl ?_
                exact ⟨rfl, hb4⟩
              · obtain ⟨P, hP⟩ : ∃ P, packS n0 n1 n2 = P := ⟨_, rfl⟩
                have HP := Lib.hid hP
                clear hP
                have lM := HM2.out.lt
                have lY := HY2.out.lt
                go_wp2_with fail
                refine (refPack_any n0 n1 n2 (by omega) (by omega) (by omega) _).mono ?_
                rw [HP.out]
                rintro ev w3 ⟨rfl, hb3⟩
                have HM3 := Lib.hid (HM2.out.step hb3)
                have HY3 := Lib.hid (HY2.out.step hb3)
                have HB3 := Lib.hid (bel_step HB2.out hb3)
                clear hb3 m0 m1 m2 y0 y1 y2 f0 f1 f2
                obtain ⟨m0, m1, m2, -, -, -⟩ := cells3 HM3.out
                obtain ⟨y0, y1, y2, f0, f1, f2⟩ := cells3 HY3.out
                by_cases hps : P = s
                · have q1 : (P != s) = false := by simpa using hps
                  have q2 : (P == s) = true := by simpa using hps
                  have hun := HU.out
                  rw [HT.out (by omega) (by omega) (by omega) (by rw [HP.out]; exact hps)] at hun
                  simp only [Prod.mk.injEq] at hun
                  obtain ⟨⟨rfl, rfl, rfl⟩, rfl⟩ := hun
                  clear hps
                  go_wp2_with fail
                  have hb4 := ((HB3.out.setCell (p := ⟨gm, 0, none⟩) HG.out (.int .i64 n0)).setCell (p := ⟨gm, 1, none⟩) HG.out (.int .i64 n1)).setCell (p := ⟨gm, 2, none⟩) HG.out (.int .i64 n2)
                  refine bodyPost_ret (results_cellrow_tmp rfl _ _ gm 62 #[.int .i64 n0, .int .i64 n1, .int .i64 n2] _ rfl (((HY3.out.set_ 0 _).set_ 1 _).set_ 2 _) Try.underlying62 rfl (by kernel_rfl)) rfl ?_
                  exact ⟨rfl, hb4⟩
                · have q1 : (P != s) = true := by simpa using hps
                  have q2 : (P == s) = false := by simpa using hps
                  have HBAD := Lib.hid (HX.out (by rw [HP.out]; exact hps))
                  clear hps
                  go_wp2_with fail
                  have hun := HU.out
                  rw [HBAD.out] at hun
                  simp only [Prod.mk.injEq] at hun
                  obtain ⟨⟨rfl, rfl, rfl⟩, rfl⟩ := hun
                  have hb4 := ((HB3.out.setCell (p := ⟨gm, 0, none⟩) HG.out (.int .i64 0)).setCell (p := ⟨gm, 1, none⟩) HG.out (.int .i64 0)).setCell (p := ⟨gm, 2, none⟩) HG.out (.int .i64 0)
                  refine bodyPost_ret (results_cellrow_tmp rfl _ _ gm 62 zeroMark _ rfl (((HY3.out.set_ 0 _).set_ 1 _).set_ 2 _) Try.underlying62 rfl (by kernel_rfl)) rfl ?_
                  exact ⟨rfl, hb4⟩
        · go_simp
          refine hK.out _ _ trivial (fun hS => ?_)
          clear hK K
          try simp only [Act.put, List.setIfInBounds_toArray, List.set]
          refine until_one 8 (by kernel_rfl) rfl (fun K hK => ?_)
          go_simp
          rw [HT2.out]
          refine (number_any _ HL2.out _).mono ?_
          rw [HN2.out]
          rintro ev wx ⟨rfl, rfl⟩
          refine hK.out _ _ trivial (fun hS => ?_)
          clear hK K
          try simp only [Act.put, List.setIfInBounds_toArray, List.set]
          refine until_take 9 (some 18) (u := ?_) rfl rfl (by kernel_rfl) (by kernel_rfl) (by kernel_rfl) (by kernel_rfl) (fun _ _ _ h => h) (by rfl) (fun wS hv => ?_) hS ?_
          rotate_left
          · clear hv
            go_simp
            all_goals with_reducible rfl
          try simp only [Act.put, List.setIfInBounds_toArray, List.set]
          refine until_last (by kernel_rfl) rfl (by kernel_rfl) (fun K hK => ?_)
          go_simp
          refine hK.out _ _ ?_
          clear hK K hS
          have HM2 := Lib.hid ((Blk.new w1 62 #[.int .i64 n0, .int .i64 n1, .int .i64 n2]).drew)
          have HY2 := Lib.hid ((HY1.out.alloc (.cells #[.int .i64 n0, .int .i64 n1, .int .i64 n2] 62)).drew)
          have HB2 := Lib.hid ((HB1.out.alloc HB1.out.size (.cells #[.int .i64 n0, .int .i64 n1, .int .i64 n2] 62)).drew)
          have hne : w1.heap.size ≠ gm := Nat.ne_of_gt HY1.out.lt
          obtain ⟨gn, hgn⟩ : ∃ q, w1.heap.size = q := ⟨_, rfl⟩
          rw [hgn] at HM2 hne ⊢
          clear hgn
          change Exit.then _ _ _ _ (w1.alloc (.cells #[.int .i64 n0, .int .i64 n1, .int .i64 n2] 62)).drew
          generalize (w1.alloc (.cells #[.int .i64 n0, .int .i64 n1, .int .i64 n2] 62)).drew = w2 at HM2 HY2 HB2 ⊢
          obtain ⟨m0, m1, m2, -, -, -⟩ := cells3 HM2.out
          obtain ⟨y0, y1, y2, f0, f1, f2⟩ := cells3 HY2.out
          by_cases g0 : n0 < 0
          · have HBAD := Lib.hid (HF.out (.inl g0))
            go_wp2_with fail
            have hun := HU.out
            rw [HBAD.out] at hun
            simp only [Prod.mk.injEq] at hun
            obtain ⟨⟨rfl, rfl, rfl⟩, rfl⟩ := hun
            have hb4 := ((HB2.out.setCell (p := ⟨gm, 0, none⟩) HG.out (.int .i64 0)).setCell (p := ⟨gm, 1, none⟩) HG.out (.int .i64 0)).setCell (p := ⟨gm, 2, none⟩) HG.out (.int .i64 0)
            refine bodyPost_ret (results_cellrow_tmp rfl _ _ gm 62 zeroMark _ rfl (((HY2.out.set_ 0 _).set_ 1 _).set_ 2 _) Try.underlying62 rfl (by kernel_rfl)) rfl ?_
            exact ⟨rfl, hb4⟩
          · by_cases g1 : n1 < 0
            · have HBAD := Lib.hid (HF.out (.inr (.inl g1)))
              go_wp2_with fail
              have hun := HU.out
              rw [HBAD.out] at hun
              simp only [Prod.mk.injEq] at hun
              obtain ⟨⟨rfl, rfl, rfl⟩, rfl⟩ := hun
              have hb4 := ((HB2.out.setCell (p := ⟨gm, 0, none⟩) HG.out (.int .i64 0)).setCell (p := ⟨gm, 1, none⟩) HG.out (.int .i64 0)).setCell (p := ⟨gm, 2, none⟩) HG.out (.int .i64 0)
              refine bodyPost_ret (results_cellrow_tmp rfl _ _ gm 62 zeroMark _ rfl (((HY2.out.set_ 0 _).set_ 1 _).set_ 2 _) Try.underlying62 rfl (by kernel_rfl)) rfl ?_
              exact ⟨rfl, hb4⟩
            · by_cases g2 : n2 < 0
              · have HBAD := Lib.hid (HF.out (.inr (.inr g2)))
                go_wp2_with fail
                have hun := HU.out
                rw [HBAD.out] at hun
                simp only [Prod.mk.injEq] at hun
                obtain ⟨⟨rfl, rfl, rfl⟩, rfl⟩ := hun
                have hb4 := ((HB2.out.setCell (p := ⟨gm, 0, none⟩) HG.out (.int .i64 0)).setCell (p := ⟨gm, 1, none⟩) HG.out (.int .i64 0)).setCell (p := ⟨gm, 2, none⟩) HG.out (.int .i64 0)
                refine bodyPost_ret (results_cellrow_tmp rfl _ _ gm 62 zeroMark _ rfl (((HY2.out.set_ 0 _).set_ 1 _).set_ 2 _) Try.underlying62 rfl (by kernel_rfl)) rfl ?_
                exact ⟨rfl, hb4⟩
              · obtain ⟨P, hP⟩ : ∃ P, packS n0 n1 n2 = P := ⟨_, rfl⟩
                have HP := Lib.hid hP
                clear hP
                have lM := HM2.out.lt
                have lY := HY2.out.lt
                go_wp2_with fail
                refine (refPack_any n0 n1 n2 (by omega) (by omega) (by omega) _).mono ?_
                rw [HP.out]
                rintro ev w3 ⟨rfl, hb3⟩
                have HM3 := Lib.hid (HM2.out.step hb3)
                have HY3 := Lib.hid (HY2.out.step hb3)
                have HB3 := Lib.hid (bel_step HB2.out hb3)
                clear hb3 m0 m1 m2 y0 y1 y2 f0 f1 f2
                obtain ⟨m0, m1, m2, -, -, -⟩ := cells3 HM3.out
                obtain ⟨y0, y1, y2, f0, f1, f2⟩ := cells3 HY3.out
                by_cases hps : P = s
                · have q1 : (P != s) = false := by simpa using hps
                  have q2 : (P == s) = true := by simpa using hps
                  have hun := HU.out
                  rw [HT.out (by omega) (by omega) (by omega) (by rw [HP.out]; exact hps)] at hun
                  simp only [Prod.mk.injEq] at hun
                  obtain ⟨⟨rfl, rfl, rfl⟩, rfl⟩ := hun
                  clear hps
                  go_wp2_with fail
                  have hb4 := ((HB3.out.setCell (p := ⟨gm, 0, none⟩) HG.out (.int .i64 n0)).setCell (p := ⟨gm, 1, none⟩) HG.out (.int .i64 n1)).setCell (p := ⟨gm, 2, none⟩) HG.out (.int .i64 n2)
                  refine bodyPost_ret (results_cellrow_tmp rfl _ _ gm 62 #[.int .i64 n0, .int .i64 n1, .int .i64 n2] _ rfl (((HY3.out.set_ 0 _).set_ 1 _).set_ 2 _) Try.underlying62 rfl (by kernel_rfl)) rfl ?_
                  exact ⟨rfl, hb4⟩
                · have q1 : (P != s) = true := by simpa using hps
                  have q2 : (P == s) = false := by simpa using hps
                  have HBAD := Lib.hid (HX.out (by rw [HP.out]; exact hps))
                  clear hps
                  go_wp2_with fail
                  have hun := HU.out
                  rw [HBAD.out] at hun
                  simp only [Prod.mk.injEq] at hun
                  obtain ⟨⟨rfl, rfl, rfl⟩, rfl⟩ := hun
                  have hb4 := ((HB3.out.setCell (p := ⟨gm, 0, none⟩) HG.out (.int .i64 0)).setCell (p := ⟨gm, 1, none⟩) HG.out (.int .i64 0)).setCell (p := ⟨gm, 2, none⟩) HG.out (.int .i64 0)
                  refine bodyPost_ret (results_cellrow_tmp rfl _ _ gm 62 zeroMark _ rfl (((HY3.out.set_ 0 _).set_ 1 _).set_ 2 _) Try.underlying62 rfl (by kernel_rfl)) rfl ?_
                  exact ⟨rfl, hb4⟩
      · go_simp
        refine hK.out _ _ trivial (fun hS => ?_)
        clear hK K
        try simp only [Act.put, List.setIfInBounds_toArray, List.set]
        refine until_one 5 (by kernel_rfl) rfl (fun K hK => ?_)
        go_simp
        rw [HT1.out]
        refine (number_any _ HL1.out _).mono ?_
        rw [HN1.out]
        rintro ev wx ⟨rfl, rfl⟩
        refine hK.out _ _ trivial (fun hS => ?_)
        clear hK K
        try simp only [Act.put, List.setIfInBounds_toArray, List.set]
        refine until_one 8 (by kernel_rfl) rfl (fun K hK => ?_)
        go_simp
        rw [HT2.out]
        refine (number_any _ HL2.out _).mono ?_
        rw [HN2.out]
        rintro ev wx ⟨rfl, rfl⟩
        refine hK.out _ _ trivial (fun hS => ?_)
        clear hK K
        try simp only [Act.put, List.setIfInBounds_toArray, List.set]
        refine until_take 9 (some 18) (u := ?_) rfl rfl (by kernel_rfl) (by kernel_rfl) (by kernel_rfl) (by kernel_rfl) (fun _ _ _ h => h) (by rfl) (fun wS hv => ?_) hS ?_
        rotate_left
        · clear hv
          go_simp
          all_goals with_reducible rfl
        try simp only [Act.put, List.setIfInBounds_toArray, List.set]
        refine until_last (by kernel_rfl) rfl (by kernel_rfl) (fun K hK => ?_)
        go_simp
        refine hK.out _ _ ?_
        clear hK K hS
        have HM2 := Lib.hid ((Blk.new w1 62 #[.int .i64 n0, .int .i64 n1, .int .i64 n2]).drew)
        have HY2 := Lib.hid ((HY1.out.alloc (.cells #[.int .i64 n0, .int .i64 n1, .int .i64 n2] 62)).drew)
        have HB2 := Lib.hid ((HB1.out.alloc HB1.out.size (.cells #[.int .i64 n0, .int .i64 n1, .int .i64 n2] 62)).drew)
        have hne : w1.heap.size ≠ gm := Nat.ne_of_gt HY1.out.lt
        obtain ⟨gn, hgn⟩ : ∃ q, w1.heap.size = q := ⟨_, rfl⟩
        rw [hgn] at HM2 hne ⊢
        clear hgn
        change Exit.then _ _ _ _ (w1.alloc (.cells #[.int .i64 n0, .int .i64 n1, .int .i64 n2] 62)).drew
        generalize (w1.alloc (.cells #[.int .i64 n0, .int .i64 n1, .int .i64 n2] 62)).drew = w2 at HM2 HY2 HB2 ⊢
        obtain ⟨m0, m1, m2, -, -, -⟩ := cells3 HM2.out
        obtain ⟨y0, y1, y2, f0, f1, f2⟩ := cells3 HY2.out
        by_cases g0 : n0 < 0
        · have HBAD := Lib.hid (HF.out (.inl g0))
          go_wp2_with fail
          have hun := HU.out
          rw [HBAD.out] at hun
          simp only [Prod.mk.injEq] at hun
          obtain ⟨⟨rfl, rfl, rfl⟩, rfl⟩ := hun
          have hb4 := ((HB2.out.setCell (p := ⟨gm, 0, none⟩) HG.out (.int .i64 0)).setCell (p := ⟨gm, 1, none⟩) HG.out (.int .i64 0)).setCell (p := ⟨gm, 2, none⟩) HG.out (.int .i64 0)
          refine bodyPost_ret (results_cellrow_tmp rfl _ _ gm 62 zeroMark _ rfl (((HY2.out.set_ 0 _).set_ 1 _).set_ 2 _) Try.underlying62 rfl (by kernel_rfl)) rfl ?_
          exact ⟨rfl, hb4⟩
        · by_cases g1 : n1 < 0
          · have HBAD := Lib.hid (HF.out (.inr (.inl g1)))
            go_wp2_with fail
            have hun := HU.out
            rw [HBAD.out] at hun
            simp only [Prod.mk.injEq] at hun
            obtain ⟨⟨rfl, rfl, rfl⟩, rfl⟩ := hun
            have hb4 := ((HB2.out.setCell (p := ⟨gm, 0, none⟩) HG.out (.int .i64 0)).setCell (p := ⟨gm, 1, none⟩) HG.out (.int .i64 0)).setCell (p := ⟨gm, 2, none⟩) HG.out (.int .i64 0)
            refine bodyPost_ret (results_cellrow_tmp rfl _ _ gm 62 zeroMark _ rfl (((HY2.out.set_ 0 _).set_ 1 _).set_ 2 _) Try.underlying62 rfl (by kernel_rfl)) rfl ?_
            exact ⟨rfl, hb4⟩
          · by_cases g2 : n2 < 0
            · have HBAD := Lib.hid (HF.out (.inr (.inr g2)))
              go_wp2_with fail
              have hun := HU.out
              rw [HBAD.out] at hun
              simp only [Prod.mk.injEq] at hun
              obtain ⟨⟨rfl, rfl, rfl⟩, rfl⟩ := hun
              have hb4 := ((HB2.out.setCell (p := ⟨gm, 0, none⟩) HG.out (.int .i64 0)).setCell (p := ⟨gm, 1, none⟩) HG.out (.int .i64 0)).setCell (p := ⟨gm, 2, none⟩) HG.out (.int .i64 0)
              refine bodyPost_ret (results_cellrow_tmp rfl _ _ gm 62 zeroMark _ rfl (((HY2.out.set_ 0 _).set_ 1 _).set_ 2 _) Try.underlying62 rfl (by kernel_rfl)) rfl ?_
              exact ⟨rfl, hb4⟩
            · obtain ⟨P, hP⟩ : ∃ P, packS n0 n1 n2 = P := ⟨_, rfl⟩
              have HP := Lib.hid hP
              clear hP
              have lM := HM2.out.lt
              have lY := HY2.out.lt
              go_wp2_with fail
              refine (refPack_any n0 n1 n2 (by omega) (by omega) (by omega) _).mono ?_
              rw [HP.out]
              rintro ev w3 ⟨rfl, hb3⟩
              have HM3 := Lib.hid (HM2.out.step hb3)
              have HY3 := Lib.hid (HY2.out.step hb3)
              have HB3 := Lib.hid (bel_step HB2.out hb3)
              clear hb3 m0 m1 m2 y0 y1 y2 f0 f1 f2
              obtain ⟨m0, m1, m2, -, -, -⟩ := cells3 HM3.out
              obtain ⟨y0, y1, y2, f0, f1, f2⟩ := cells3 HY3.out
              by_cases hps : P = s
              · have q1 : (P != s) = false := by simpa using hps
                have q2 : (P == s) = true := by simpa using hps
                have hun := HU.out
                rw [HT.out (by omega) (by omega) (by omega) (by rw [HP.out]; exact hps)] at hun
                simp only [Prod.mk.injEq] at hun
                obtain ⟨⟨rfl, rfl, rfl⟩, rfl⟩ := hun
                clear hps
                go_wp2_with fail
                have hb4 := ((HB3.out.setCell (p := ⟨gm, 0, none⟩) HG.out (.int .i64 n0)).setCell (p := ⟨gm, 1, none⟩) HG.out (.int .i64 n1)).setCell (p := ⟨gm, 2, none⟩) HG.out (.int .i64 n2)
                refine bodyPost_ret (results_cellrow_tmp rfl _ _ gm 62 #[.int .i64 n0, .int .i64 n1, .int .i64 n2] _ rfl (((HY3.out.set_ 0 _).set_ 1 _).set_ 2 _) Try.underlying62 rfl (by kernel_rfl)) rfl ?_
                exact ⟨rfl, hb4⟩
              · have q1 : (P != s) = true := by simpa using hps
                have q2 : (P == s) = false := by simpa using hps
                have HBAD := Lib.hid (HX.out (by rw [HP.out]; exact hps))
                clear hps
                go_wp2_with fail
                have hun := HU.out
                rw [HBAD.out] at hun
                simp only [Prod.mk.injEq] at hun
                obtain ⟨⟨rfl, rfl, rfl⟩, rfl⟩ := hun
                have hb4 := ((HB3.out.setCell (p := ⟨gm, 0, none⟩) HG.out (.int .i64 0)).setCell (p := ⟨gm, 1, none⟩) HG.out (.int .i64 0)).setCell (p := ⟨gm, 2, none⟩) HG.out (.int .i64 0)
                refine bodyPost_ret (results_cellrow_tmp rfl _ _ gm 62 zeroMark _ rfl (((HY3.out.set_ 0 _).set_ 1 _).set_ 2 _) Try.underlying62 rfl (by kernel_rfl)) rfl ?_
                exact ⟨rfl, hb4⟩
    · go_simp
      refine hK.out _ _ trivial (fun hS => ?_)
      clear hK K
      try simp only [Act.put, List.setIfInBounds_toArray, List.set]
      refine until_one 2 (by kernel_rfl) rfl (fun K hK => ?_)
      go_simp
      rw [HT0.out]
      refine (number_any _ HL0.out _).mono ?_
      rw [HN0.out]
      rintro ev wx ⟨rfl, rfl⟩
      refine hK.out _ _ trivial (fun hS => ?_)
      clear hK K
      try simp only [Act.put, List.setIfInBounds_toArray, List.set]
      refine until_one 5 (by kernel_rfl) rfl (fun K hK => ?_)
      go_simp
      rw [HT1.out]
      refine (number_any _ HL1.out _).mono ?_
      rw [HN1.out]
      rintro ev wx ⟨rfl, rfl⟩
      refine hK.out _ _ trivial (fun hS => ?_)
      clear hK K
      try simp only [Act.put, List.setIfInBounds_toArray, List.set]
      refine until_one 8 (by kernel_rfl) rfl (fun K hK => ?_)
      go_simp
      rw [HT2.out]
      refine (number_any _ HL2.out _).mono ?_
      rw [HN2.out]
      rintro ev wx ⟨rfl, rfl⟩
      refine hK.out _ _ trivial (fun hS => ?_)
      clear hK K
      try simp only [Act.put, List.setIfInBounds_toArray, List.set]
      refine until_take 9 (some 18) (u := ?_) rfl rfl (by kernel_rfl) (by kernel_rfl) (by kernel_rfl) (by kernel_rfl) (fun _ _ _ h => h) (by rfl) (fun wS hv => ?_) hS ?_
      rotate_left
      · clear hv
        go_simp
        all_goals with_reducible rfl
      try simp only [Act.put, List.setIfInBounds_toArray, List.set]
      refine until_last (by kernel_rfl) rfl (by kernel_rfl) (fun K hK => ?_)
      go_simp
      refine hK.out _ _ ?_
      clear hK K hS
      have HM2 := Lib.hid ((Blk.new w1 62 #[.int .i64 n0, .int .i64 n1, .int .i64 n2]).drew)
      have HY2 := Lib.hid ((HY1.out.alloc (.cells #[.int .i64 n0, .int .i64 n1, .int .i64 n2] 62)).drew)
      have HB2 := Lib.hid ((HB1.out.alloc HB1.out.size (.cells #[.int .i64 n0, .int .i64 n1, .int .i64 n2] 62)).drew)
      have hne : w1.heap.size ≠ gm := Nat.ne_of_gt HY1.out.lt
      obtain ⟨gn, hgn⟩ : ∃ q, w1.heap.size = q := ⟨_, rfl⟩
      rw [hgn] at HM2 hne ⊢
      clear hgn
      change Exit.then _ _ _ _ (w1.alloc (.cells #[.int .i64 n0, .int .i64 n1, .int .i64 n2] 62)).drew
      generalize (w1.alloc (.cells #[.int .i64 n0, .int .i64 n1, .int .i64 n2] 62)).drew = w2 at HM2 HY2 HB2 ⊢
      obtain ⟨m0, m1, m2, -, -, -⟩ := cells3 HM2.out
      obtain ⟨y0, y1, y2, f0, f1, f2⟩ := cells3 HY2.out
      by_cases g0 : n0 < 0
      · have HBAD := Lib.hid (HF.out (.inl g0))
        go_wp2_with fail
        have hun := HU.out
        rw [HBAD.out] at hun
        simp only [Prod.mk.injEq] at hun
        obtain ⟨⟨rfl, rfl, rfl⟩, rfl⟩ := hun
        have hb4 := ((HB2.out.setCell (p := ⟨gm, 0, none⟩) HG.out (.int .i64 0)).setCell (p := ⟨gm, 1, none⟩) HG.out (.int .i64 0)).setCell (p := ⟨gm, 2, none⟩) HG.out (.int .i64 0)
        refine bodyPost_ret (results_cellrow_tmp rfl _ _ gm 62 zeroMark _ rfl (((HY2.out.set_ 0 _).set_ 1 _).set_ 2 _) Try.underlying62 rfl (by kernel_rfl)) rfl ?_
        exact ⟨rfl, hb4⟩
      · by_cases g1 : n1 < 0
        · have HBAD := Lib.hid (HF.out (.inr (.inl g1)))
          go_wp2_with fail
          have hun := HU.out
          rw [HBAD.out] at hun
          simp only [Prod.mk.injEq] at hun
          obtain ⟨⟨rfl, rfl, rfl⟩, rfl⟩ := hun
          have hb4 := ((HB2.out.setCell (p := ⟨gm, 0, none⟩) HG.out (.int .i64 0)).setCell (p := ⟨gm, 1, none⟩) HG.out (.int .i64 0)).setCell (p := ⟨gm, 2, none⟩) HG.out (.int .i64 0)
          refine bodyPost_ret (results_cellrow_tmp rfl _ _ gm 62 zeroMark _ rfl (((HY2.out.set_ 0 _).set_ 1 _).set_ 2 _) Try.underlying62 rfl (by kernel_rfl)) rfl ?_
          exact ⟨rfl, hb4⟩
        · by_cases g2 : n2 < 0
          · have HBAD := Lib.hid (HF.out (.inr (.inr g2)))
            go_wp2_with fail
            have hun := HU.out
            rw [HBAD.out] at hun
            simp only [Prod.mk.injEq] at hun
            obtain ⟨⟨rfl, rfl, rfl⟩, rfl⟩ := hun
            have hb4 := ((HB2.out.setCell (p := ⟨gm, 0, none⟩) HG.out (.int .i64 0)).setCell (p := ⟨gm, 1, none⟩) HG.out (.int .i64 0)).setCell (p := ⟨gm, 2, none⟩) HG.out (.int .i64 0)
            refine bodyPost_ret (results_cellrow_tmp rfl _ _ gm 62 zeroMark _ rfl (((HY2.out.set_ 0 _).set_ 1 _).set_ 2 _) Try.underlying62 rfl (by kernel_rfl)) rfl ?_
            exact ⟨rfl, hb4⟩
          · obtain ⟨P, hP⟩ : ∃ P, packS n0 n1 n2 = P := ⟨_, rfl⟩
            have HP := Lib.hid hP
            clear hP
            have lM := HM2.out.lt
            have lY := HY2.out.lt
            go_wp2_with fail
            refine (refPack_any n0 n1 n2 (by omega) (by omega) (by omega) _).mono ?_
            rw [HP.out]
            rintro ev w3 ⟨rfl, hb3⟩
            have HM3 := Lib.hid (HM2.out.step hb3)
            have HY3 := Lib.hid (HY2.out.step hb3)
            have HB3 := Lib.hid (bel_step HB2.out hb3)
            clear hb3 m0 m1 m2 y0 y1 y2 f0 f1 f2
            obtain ⟨m0, m1, m2, -, -, -⟩ := cells3 HM3.out
            obtain ⟨y0, y1, y2, f0, f1, f2⟩ := cells3 HY3.out
            by_cases hps : P = s
            · have q1 : (P != s) = false := by simpa using hps
              have q2 : (P == s) = true := by simpa using hps
              have hun := HU.out
              rw [HT.out (by omega) (by omega) (by omega) (by rw [HP.out]; exact hps)] at hun
              simp only [Prod.mk.injEq] at hun
              obtain ⟨⟨rfl, rfl, rfl⟩, rfl⟩ := hun
              clear hps
              go_wp2_with fail
              have hb4 := ((HB3.out.setCell (p := ⟨gm, 0, none⟩) HG.out (.int .i64 n0)).setCell (p := ⟨gm, 1, none⟩) HG.out (.int .i64 n1)).setCell (p := ⟨gm, 2, none⟩) HG.out (.int .i64 n2)
              refine bodyPost_ret (results_cellrow_tmp rfl _ _ gm 62 #[.int .i64 n0, .int .i64 n1, .int .i64 n2] _ rfl (((HY3.out.set_ 0 _).set_ 1 _).set_ 2 _) Try.underlying62 rfl (by kernel_rfl)) rfl ?_
              exact ⟨rfl, hb4⟩
            · have q1 : (P != s) = true := by simpa using hps
              have q2 : (P == s) = false := by simpa using hps
              have HBAD := Lib.hid (HX.out (by rw [HP.out]; exact hps))
              clear hps
              go_wp2_with fail
              have hun := HU.out
              rw [HBAD.out] at hun
              simp only [Prod.mk.injEq] at hun
              obtain ⟨⟨rfl, rfl, rfl⟩, rfl⟩ := hun
              have hb4 := ((HB3.out.setCell (p := ⟨gm, 0, none⟩) HG.out (.int .i64 0)).setCell (p := ⟨gm, 1, none⟩) HG.out (.int .i64 0)).setCell (p := ⟨gm, 2, none⟩) HG.out (.int .i64 0)
              refine bodyPost_ret (results_cellrow_tmp rfl _ _ gm 62 zeroMark _ rfl (((HY3.out.set_ 0 _).set_ 1 _).set_ 2 _) Try.underlying62 rfl (by kernel_rfl)) rfl ?_
              exact ⟨rfl, hb4⟩
  · have hnf : unpackR s = ((0, 0, 0), false) := by unfold unpackR NumsFit; rw [if_neg (fun h => h64 h.1.1)]
    rw [HU.out] at hnf
    simp only [Prod.mk.injEq] at hnf
    obtain ⟨⟨rfl, rfl, rfl⟩, rfl⟩ := hnf
    have h64i : ¬ ((s.length : Int) = 64) := by omega
    go_wp2_with fail
    refine bodyPost_ret (results_cellrow_tmp rfl _ _ w.heap.size 62 zeroMark _ rfl (Blk.new _ _ _) Try.underlying62 rfl (by kernel_rfl)) rfl ?_
    exact ⟨rfl, (Below.refl _ _).alloc (Nat.le_refl _) _⟩

set_option maxRecDepth 100000 in
set_option maxHeartbeats 3200000 in
theorem refNewest_any (a b : List UInt8) (w : World) (e0 b0 c0 e1 b1 c1 e2 b2 c2 : Int) (ok1 ok2 : Bool) (hu : unpackR a = ((e0, b0, c0), ok1)) (hv : unpackR b = ((e1, b1, c1), ok2)) (hn : newR (e0, b0, c0) (e1, b1, c1) = (e2, b2, c2)) :
    Calls Try.prog 68 #[str a, str b] w fun e w' => e = .returned (.agg #[.int .i64 e2, .int .i64 b2, .int .i64 c2]) ∧ Below w.heap.size w w' := by
  have HU := Lib.hid hu
  have HV := Lib.hid hv
  have HN := Lib.hid hn
  clear hu hv hn
  go_enter Try.func68, Try.ntmps68
  go_wp2_with fail
  refine (refUnpack_any a _ e0 b0 c0 ok1 HU.out).mono ?_
  rintro e w1 ⟨rfl, hb1⟩
  have Y1 := Blk.step (Blk.new w 62 zeroMark) hb1
  have B1 := bel_step ((Below.refl w.heap.size w).alloc (Nat.le_refl _) _) hb1
  clear hb1
  have s1 := B1.size
  go_wp2_with fail
  refine (refUnpack_any b _ e1 b1 c1 ok2 HV.out).mono ?_
  rintro e w2 ⟨rfl, hb2⟩
  have X2 := Blk.step (Blk.new w1 62 #[.int .i64 e0, .int .i64 b0, .int .i64 c0]) hb2
  have Y2 := Blk.step (Y1.alloc _) hb2
  have B2 := bel_step (B1.alloc B1.size _) hb2
  have n1 := Y1.lt
  have n2 := X2.lt
  have n3 := Y2.lt
  clear hb2
  have s2 := B2.size
  obtain ⟨n0, n1, n2, r0, r1, r2⟩ := cells3 X2
  obtain ⟨m0, m1, m2, v0, v1, v2⟩ := cells3 Y2
  by_cases hgt : e1 > e0
  · have hr : newR (e0, b0, c0) (e1, b1, c1) = (e1, b1, c1) := by unfold newR; rw [if_pos hgt]
    rw [HN.out] at hr
    simp only [Prod.mk.injEq] at hr
    obtain ⟨rfl, rfl, rfl⟩ := hr
    go_wp2_with fail
    have hb4 := ((B2.setCell (p := ⟨w.heap.size, 0, none⟩) (Nat.le_refl _) (.int .i64 e2)).setCell (p := ⟨w.heap.size, 1, none⟩) (Nat.le_refl _) (.int .i64 b2)).setCell (p := ⟨w.heap.size, 2, none⟩) (Nat.le_refl _) (.int .i64 c2)
    refine bodyPost_ret (results_cellrow rfl _ _ w.heap.size 62 #[.int .i64 e2, .int .i64 b2, .int .i64 c2] _ rfl ((((Y2.set_ 0 _).set_ 1 _).set_ 2 _).alloc _) Try.underlying62 rfl (by kernel_rfl)) rfl ?_
    exact ⟨rfl, hb4.alloc hb4.size _⟩
  · have hr : newR (e0, b0, c0) (e1, b1, c1) = (e0, b0, c0) := by unfold newR; rw [if_neg hgt]
    rw [HN.out] at hr
    simp only [Prod.mk.injEq] at hr
    obtain ⟨rfl, rfl, rfl⟩ := hr
    go_wp2_with fail
    have hb4 := ((B2.setCell (p := ⟨w.heap.size, 0, none⟩) (Nat.le_refl _) (.int .i64 e2)).setCell (p := ⟨w.heap.size, 1, none⟩) (Nat.le_refl _) (.int .i64 b2)).setCell (p := ⟨w.heap.size, 2, none⟩) (Nat.le_refl _) (.int .i64 c2)
    refine bodyPost_ret (results_cellrow rfl _ _ w.heap.size 62 #[.int .i64 e2, .int .i64 b2, .int .i64 c2] _ rfl ((((Y2.set_ 0 _).set_ 1 _).set_ 2 _).alloc _) Try.underlying62 rfl (by kernel_rfl)) rfl ?_
    exact ⟨rfl, hb4.alloc hb4.size _⟩
end Go.Proofs.Ytiighehibiijcaa

namespace Go.Proofs.Ytiighehibiijcaa
open Go.RowKit
set_option linter.unusedSimpArgs false
set_option linter.unnecessarySimpa false
set_option linter.unusedVariables false

/-- What is safe of each sector, in their order. -/
def safeL (d : Dev) : List (List UInt8) := (List.range d.n.toNat).map fun k : Nat => safeD d (k : Int)
theorem safeL_length (d : Dev) : (safeL d).length = d.n.toNat := by simp [safeL]
theorem safeL_at {d : Dev} {k : Nat} (h : k < (safeL d).length) : (safeL d)[k] = safeD d (k : Int) := by simp [safeL]
theorem safeL_same {d d' : Dev} (h : d'.safe = d.safe) (hn : d'.n = d.n) : safeL d' = safeL d := by
  unfold safeL
  rw [hn]
  refine List.map_congr_left fun k _ => safeD_same h _
theorem safeL_keep {d : Dev} {k : Nat} {s : List UInt8} (hk : k < (safeL d).length) : safeL (keepD d (k : Int) s) = (safeL d).set k s := by
  refine List.ext_getElem (by simp [safeL_length]; rfl) fun i h1 h2 => ?_
  rw [safeL_at h1, safeD_keep, List.getElem_set]
  by_cases e : k = i
  · rw [if_pos e, if_pos (by omega)]
  · rw [if_neg e, if_neg (by omega), safeL_at]
section
variable {w w' w2 : World} {B : Nat} {v : Value} {L : List (List UInt8)}
theorem OwnS.ne {g : Nat} {t : TypeId} {cs : Array Value} (h : OwnS w B v L) (hb : Blk w g t cs) (ht : t ≠ 9) : v.ownBlock ≠ some g := by
  rcases h.2 with ⟨h1, _⟩ | ⟨k, cap, cur, h1, h2, h3, _⟩
  · subst h1; simp [Value.ownBlock]
  · subst h1
    intro he
    have : k = g := by simpa [Value.ownBlock] using he
    subst this
    unfold Blk at hb
    rw [hb] at h3
    injection h3 with h3
    injection h3 with _ h4 _
    exact ht h4
theorem OwnS.own_lt (h : OwnS w B v L) {i : Nat} (hi : v.ownBlock = some i) : i < w.heap.size ∧ B ≤ i := by
  have := World.ownsRow.lt h i (by rw [hi])
  exact ⟨this.2, this.1⟩
theorem OwnS.apart {rv : Value} {M : List (Int × List UInt8)} (h : OwnS w B v L) (k : OwnW w B rv M) {i : Nat} (hi : v.ownBlock = some i) : rv.ownBlock ≠ some i := by
  rcases h.2 with ⟨h1, _⟩ | ⟨g, cap, cur, h1, h2, h3, _⟩
  · subst h1; simp [Value.ownBlock] at hi
  · subst h1
    have : g = i := by simpa [Value.ownBlock] using hi
    subst this
    exact k.ne (show Blk w g 9 cur from h3) (by decide)
theorem OwnS.len (h : OwnS w B v L) : ∃ p c, v = .slice p L.length c := by
  rcases h.read with ⟨rfl, rfl⟩ | ⟨g, cap, rfl, _⟩
  · exact ⟨_, _, rfl⟩
  · exact ⟨_, _, rfl⟩
end

/-- The document's device h: its row of sectors sv, what waits rv. -/
def IsRef (w : World) (h : Nat) (sv rv : Value) (B : Nat) (d : Dev) : Prop :=
  Blk w h 56 #[sv, rv, .bool d.on, .bool d.armed, .int .i64 d.left, .int .i64 d.steps] ∧ OwnS w B sv (safeL d) ∧ OwnW w B rv d.waits ∧ B ≤ h
/-- What a call on it may touch. -/
structure RTouch (h : Nat) (sv : Value) (w : World) (rv : Value) (w' : World) (rv' : Value) : Prop where
  os : w'.os = w.os
  tape : w'.tape = w.tape
  output : w'.output = w.output
  size : w.heap.size ≤ w'.heap.size
  block : ∀ i, i < w.heap.size → i ≠ h → sv.ownBlock ≠ some i → rv.ownBlock ≠ some i → w'.heap[i]? = w.heap[i]?
  own : ∀ i, rv'.ownBlock = some i → rv.ownBlock = some i ∨ w.heap.size ≤ i
section
variable {h : Nat} {w w' w2 : World} {sv rv rv' rv2 : Value} {B : Nat} {d : Dev}
theorem RTouch.refl (h : Nat) (sv : Value) (w : World) (rv : Value) : RTouch h sv w rv w rv := ⟨rfl, rfl, rfl, Nat.le_refl _, fun _ _ _ _ _ => rfl, fun _ h => .inl h⟩
theorem RTouch.trans (a : RTouch h sv w rv w' rv') (b : RTouch h sv w' rv' w2 rv2) : RTouch h sv w rv w2 rv2 where
  os := b.os.trans a.os
  tape := b.tape.trans a.tape
  output := b.output.trans a.output
  size := Nat.le_trans a.size b.size
  block := fun i hi h1 h2 h3 => (b.block i (Nat.lt_of_lt_of_le hi a.size) h1 h2 (fun e => (a.own i e).elim h3 (fun h4 => by omega))).trans (a.block i hi h1 h2 h3)
  own := fun i hi => (b.own i hi).elim (fun e => a.own i e) (fun h4 => .inr (Nat.le_trans a.size h4))
theorem RTouch.of_below (hb : Below w.heap.size w w') : RTouch h sv w rv w' rv := ⟨hb.os, hb.tape, hb.output, hb.size, fun i hi _ _ _ => hb.block i hi, fun _ h => .inl h⟩
theorem RTouch.of_grown {row : Option Nat} (hb : w.grownBy w' row) (hr : row = some h ∨ row = sv.ownBlock ∨ row = none) : RTouch h sv w rv w' rv :=
  ⟨hb.os, hb.tape, hb.output, hb.size, fun i hi h1 h2 _ => hb.block i hi (fun e => by rcases hr with r | r | r; exact h1 (by rw [← e] at r; injection r); exact h2 (r ▸ e.symm); rw [r] at e; cases e), fun _ h => .inl h⟩
theorem RTouch.of_own (hb : w.grownBy w' rv.ownBlock) (hv : ∀ i, rv'.ownBlock = some i → rv.ownBlock = some i ∨ w.heap.size ≤ i) : RTouch h sv w rv w' rv' :=
  ⟨hb.os, hb.tape, hb.output, hb.size, fun i hi _ _ h3 => hb.block i hi (fun e => h3 e.symm), hv⟩
theorem RTouch.to_nil (a : RTouch h sv w rv w' rv') : RTouch h sv w rv w' (.slice none 0 0) := ⟨a.os, a.tape, a.output, a.size, a.block, fun i hi => by simp [Value.ownBlock] at hi⟩
theorem RTouch.drew (a : RTouch h sv w rv w' rv') : RTouch h sv w rv w'.drew rv' := ⟨a.os, a.tape, a.output, a.size, a.block, a.own⟩
theorem IsRef.step (hd : IsRef w h sv rv B d) (hb : Below w.heap.size w w') : IsRef w' h sv rv B d := ⟨hd.1.step hb, hd.2.1.step hb, hd.2.2.1.step hb, hd.2.2.2⟩
theorem IsRef.drew (hd : IsRef w h sv rv B d) : IsRef w.drew h sv rv B d := hd
theorem IsRef.below {B0 : Nat} (hd : IsRef w h sv rv B d) (ht : RTouch h sv w rv w' rv') (hB : B0 ≤ B) (hw : B0 ≤ w.heap.size) : Below B0 w w' :=
  ⟨ht.os, ht.tape, ht.output, ht.size, fun i hi => ht.block i (by omega) (by have := hd.2.2.2; omega) (fun e => by have := (hd.2.1.own_lt e).2; omega) (fun e => by have := (hd.2.2.1.own_lt e).2; omega)⟩
theorem IsRef.keep {i : Nat} {t : TypeId} {cs : Array Value} (hd : IsRef w h sv rv B d) (ht : RTouch h sv w rv w' rv') (hb : Blk w i t cs) (h1 : t ≠ 56) (h2 : t ≠ 91) (h3 : t ≠ 9) : Blk w' i t cs := by
  refine (ht.block i hb.lt ?_ (hd.2.1.ne hb h3) (hd.2.2.1.ne hb h2)).trans hb
  rintro rfl
  exact blk_ne hb hd.1 h1 rfl
theorem ref_cells (hd : IsRef w h sv rv B d) : w.cell? ⟨h, 0, none⟩ = some sv ∧ w.cell? ⟨h, 1, none⟩ = some rv ∧ w.cell? ⟨h, 2, none⟩ = some (.bool d.on) ∧ w.cell? ⟨h, 3, none⟩ = some (.bool d.armed) ∧
    w.cell? ⟨h, 4, none⟩ = some (.int .i64 d.left) ∧ w.cell? ⟨h, 5, none⟩ = some (.int .i64 d.steps) := ⟨hd.1.cell 0, hd.1.cell 1, hd.1.cell 2, hd.1.cell 3, hd.1.cell 4, hd.1.cell 5⟩
/-- A store into a cell of it. -/
theorem IsRef.set {i : Nat} {u : Value} {d' : Dev} (hd : IsRef w h sv rv B d)
    (hc : (#[sv, rv, .bool d.on, .bool d.armed, .int .i64 d.left, .int .i64 d.steps] : Array Value).setIfInBounds i u = #[sv, rv, .bool d'.on, .bool d'.armed, .int .i64 d'.left, .int .i64 d'.steps])
    (hs : d'.safe = d.safe) (hn : d'.n = d.n) (hw : d'.waits = d.waits) : IsRef (w.setCell ⟨h, i, none⟩ u) h sv rv B d' ∧ RTouch h sv w rv (w.setCell ⟨h, i, none⟩ u) rv := by
  have hg := upd_set w h i u
  refine ⟨⟨?_, ?_, ?_, hd.2.2.2⟩, RTouch.of_grown hg (.inl rfl)⟩
  · rw [← hc]; exact hd.1.set_ i u
  · rw [safeL_same hs hn]; exact hd.2.1.grown hg (.inr (hd.2.1.ne hd.1 (by decide)))
  · rw [hw]; exact hd.2.2.1.grown hg (.inr (hd.2.2.1.ne hd.1 (by decide)))
/-- What waits was appended to (or laid down), and its field not yet set. -/
theorem IsRef.setWaits {L : List (Int × List UInt8)} (hb : Blk w h 56 #[sv, rv, .bool d.on, .bool d.armed, .int .i64 d.left, .int .i64 d.steps]) (hs : OwnS w B sv (safeL d)) (hw : OwnW w B rv2 L) (hB : B ≤ h) :
    IsRef (w.setCell ⟨h, 1, none⟩ rv2) h sv rv2 B { d with waits := L } := by
  have hg := upd_set w h 1 rv2
  exact ⟨hb.set_ 1 rv2, OwnS.grown (show OwnS w B sv (safeL { d with waits := L }) from hs) hg (.inr (hs.ne hb (by decide))), hw.grown hg (.inr (hw.ne hb (by decide))), hB⟩
end

set_option maxRecDepth 100000 in
set_option maxHeartbeats 1600000 in
theorem refStep_any (w : World) (h : Nat) (sv rv : Value) (B : Nat) (d : Dev) (hd : IsRef w h sv rv B d) (hok : OkD d) :
    Calls Try.prog 54 #[.pointer (some ⟨h, 0, none⟩)] w
      fun e w' => e = .returned (.int .i64 (if goesD d then 0 else 14)) ∧ IsRef w' h sv rv B (if goesD d then stepD d else { d with on := false }) ∧ RTouch h sv w rv w' rv := by
  obtain ⟨n, safe, waits, on, armed, left, steps⟩ := d
  have HD := Lib.hid hd
  obtain ⟨o1, o2, o3, o4, o5⟩ := hok
  simp only [] at o1 o2 o3 o4
  obtain ⟨c0, c1, c2, c3, c4, c5⟩ := ref_cells hd
  have f2 := hd.1.frozen 2
  have f4 := hd.1.frozen 4
  have f5 := hd.1.frozen 5
  simp only [] at c2 c3 c4 c5
  clear hd
  have e1 : IntKind.i64.wrap (steps + 1) = steps + 1 := IntWalk.i64_in _ (by omega)
  cases armed
  · go_enter Try.func54, Try.ntmps54
    go_wp2_with fail
    go_ret
    obtain ⟨h1, t1⟩ := IsRef.set (i := 5) (u := .int .i64 (steps + 1)) (d' := ⟨n, safe, waits, on, false, left, steps + 1⟩) HD.out rfl rfl rfl rfl
    exact ⟨rfl, h1, t1⟩
  · by_cases hl : left = 0
    · subst hl
      go_enter Try.func54, Try.ntmps54
      go_wp2_with fail
      go_ret
      obtain ⟨h1, t1⟩ := IsRef.set (i := 2) (u := .bool false) (d' := ⟨n, safe, waits, false, true, 0, steps⟩) HD.out rfl rfl rfl rfl
      exact ⟨rfl, h1, t1⟩
    · have hl' : (left == 0) = false := by simpa using hl
      have e2 : IntKind.i64.wrap (left - 1) = left - 1 := IntWalk.i64_in _ (by omega)
      have hg : goesD ⟨n, safe, waits, on, true, left, steps⟩ = true := by simp [goesD, hl]
      rw [hg]
      have HL := Lib.hid hl
      clear hl hg
      go_enter Try.func54, Try.ntmps54
      go_wp2_with fail
      go_ret
      obtain ⟨h1, t1⟩ := IsRef.set (i := 4) (u := .int .i64 (left - 1)) (d' := ⟨n, safe, waits, on, true, left - 1, steps⟩) HD.out rfl rfl rfl rfl
      obtain ⟨h2, t2⟩ := IsRef.set (i := 5) (u := .int .i64 (steps + 1)) (d' := ⟨n, safe, waits, on, true, left - 1, steps + 1⟩) h1 rfl rfl rfl rfl
      exact ⟨rfl, h2, t1.trans t2⟩
set_option maxRecDepth 100000 in
set_option maxHeartbeats 1600000 in
theorem refArm_any (w : World) (h : Nat) (sv rv : Value) (B : Nat) (d : Dev) (k : Int) (hd : IsRef w h sv rv B d) :
    Calls Try.prog 31 #[.pointer (some ⟨h, 0, none⟩), .int .i64 k] w
      fun e w' => e = .returned (.tuple #[]) ∧ IsRef w' h sv rv B (armD d k) ∧ RTouch h sv w rv w' rv := by
  obtain ⟨n, safe, waits, on, armed, left, steps⟩ := d
  have HD := Lib.hid hd
  obtain ⟨c0, c1, c2, c3, c4, c5⟩ := ref_cells hd
  have f3 := hd.1.frozen 3
  have f4 := hd.1.frozen 4
  simp only [] at c2 c3 c4 c5
  clear hd
  unfold armD
  by_cases h0 : 0 ≤ k
  · have hm : max k 0 = k := by omega
    have h0' : ¬ k < 0 := by omega
    rw [hm]
    go_enter Try.func31, Try.ntmps31
    go_wp2_with fail
    go_end0
    obtain ⟨h1, t1⟩ := IsRef.set (i := 3) (u := .bool true) (d' := ⟨n, safe, waits, on, true, left, steps⟩) HD.out rfl rfl rfl rfl
    obtain ⟨h2, t2⟩ := IsRef.set (i := 4) (u := .int .i64 k) (d' := ⟨n, safe, waits, on, true, k, steps⟩) h1 rfl rfl rfl rfl
    exact ⟨rfl, h2, t1.trans t2⟩
  · have hm : max k 0 = 0 := by omega
    have h0' : k < 0 := by omega
    rw [hm]
    clear h0
    go_enter Try.func31, Try.ntmps31
    go_wp2_with fail
    go_end0
    obtain ⟨h1, t1⟩ := IsRef.set (i := 3) (u := .bool true) (d' := ⟨n, safe, waits, on, true, left, steps⟩) HD.out rfl rfl rfl rfl
    obtain ⟨h2, t2⟩ := IsRef.set (i := 4) (u := .int .i64 k) (d' := ⟨n, safe, waits, on, true, k, steps⟩) h1 rfl rfl rfl rfl
    obtain ⟨h3, t3⟩ := IsRef.set (i := 4) (u := .int .i64 0) (d' := ⟨n, safe, waits, on, true, 0, steps⟩) h2 rfl rfl rfl rfl
    exact ⟨rfl, h3, (t1.trans t2).trans t3⟩

/-! Read. -/
theorem lastW_step {k : Int} {l : List (Int × List UInt8)} {i : Nat} (hi : i < l.length) : lastW k (l.take (i + 1)) = if l[i].1 = k then some l[i].2 else lastW k (l.take i) := by
  rw [List.take_succ_eq_append_getElem hi]
  exact lastW_push k l[i].1 l[i].2 (l.take i)
set_option maxRecDepth 100000 in
set_option maxHeartbeats 3200000 in
theorem refRead_any (w : World) (h : Nat) (sv rv : Value) (B : Nat) (d : Dev) (k : Int) (hd : IsRef w h sv rv B d) (hn0 : 0 ≤ d.n) (hn1 : d.n ≤ 4096) (hn : d.waits.length < 4611686018427) :
    Calls Try.prog 30 #[.pointer (some ⟨h, 0, none⟩), .int .i64 k] w
      fun e w' => e = .returned (.tuple #[str (readS d k), .int .i64 (readE d k)]) ∧ w = w' := by
  obtain ⟨c0, c1, c2, -⟩ := ref_cells hd
  have HD := Lib.hid hd
  obtain ⟨p, c, hsv⟩ := hd.2.1.len
  have hsl := safeL_length d
  unfold readS readE
  obtain ⟨on, hon⟩ : ∃ u, d.on = u := ⟨_, rfl⟩
  rw [hon] at c2 ⊢
  clear hd hon
  subst hsv
  have hlen : ((safeL d).length : Int) = d.n := by omega
  cases on
  · go_enter Try.func30, Try.ntmps30
    go_wp2_with fail
    go_ret2
    exact ⟨rfl, rfl⟩
  · by_cases h0 : 0 ≤ k
    · have h0' : ¬ k < 0 := by omega
      by_cases h1 : k < d.n
      · have hu : hasD d.n k = true := by simp [hasD, h0, h1]
        rw [hu]
        obtain ⟨q, rfl⟩ := Int.eq_ofNat_of_zero_le h0
        have h1' : ((q : Nat) : Int) < ((safeL d).length : Int) := by omega
        have h1'' : ¬ ((safeL d).length : Int) ≤ ((q : Nat) : Int) := by omega
        obtain ⟨g, cap, hp, -, -, -, -, hcell⟩ : ∃ g cap, p = some ⟨g, 0, none⟩ ∧ True ∧ True ∧ True ∧ True ∧ (∀ i (hi : i < (safeL d).length), w.cell? ⟨g, i, none⟩ = some (str (safeL d)[i])) := by
          rcases HD.out.2.1.read with ⟨h2, h3⟩ | ⟨g, cap, h2, -, -, -, -, h3⟩
          · rw [h3] at h1'; simp at h1'; omega
          · injection h2 with h2
            exact ⟨g, cap, h2, trivial, trivial, trivial, trivial, h3⟩
        subst hp
        have cs := hcell q (by omega)
        rw [safeL_at] at cs
        unfold readD
        obtain ⟨l, hl⟩ : ∃ l, d.waits = l := ⟨_, rfl⟩
        obtain ⟨pw, cw, hrv⟩ := HD.out.2.2.1.form
        rw [hl] at hrv hn ⊢
        subst hrv
        have HL := Lib.hid hl
        obtain ⟨S0, hS0⟩ : ∃ s, safeD d (q : Int) = s := ⟨_, rfl⟩
        rw [hS0] at cs ⊢
        simp only [if_true]
        clear hl hcell hlen hu h0 h1 hsl hS0
        go_enter Try.func30, Try.ntmps30
        go_wp2_with fail
        go_loop [6, 7] (fun s i => ∃ j : Nat, j ≤ l.length ∧ i = .int .i64 j ∧ s = str ((lastW (q : Int) (l.take j)).getD S0)) (fun _ i => l.length - (intOf i).toNat)
        case atStart => exact ⟨0, Nat.zero_le _, rfl, rfl⟩
        case round =>
          obtain ⟨j, hj, rfl, rfl⟩ := hrel
          by_cases hlt : j < l.length
          · have hji : (j : Int) < (l.length : Int) := by omega
            rcases HD.out.2.2.1.read with ⟨-, h2⟩ | ⟨gv, c', heq, -, hgv, -, -, hcell⟩
            · rw [HL.out] at h2
              rw [h2] at hlt
              simp at hlt
            · rw [HL.out] at hcell
              obtain ⟨e1, e2⟩ := hcell j hlt
              injection heq with hp hp1 hp2
              clear hp1 hp2
              subst hp
              rw [Nat.mul_comm] at e1 e2
              obtain ⟨⟨x, t⟩, hx⟩ : ∃ q, l[j] = q := ⟨_, rfl⟩
              rw [hx] at e1 e2
              simp only [] at e1 e2
              have hst := lastW_step (k := (q : Int)) hlt
              rw [hx] at hst
              simp only [] at hst
              have HST := Lib.hid hst
              clear hst hx hcell
              by_cases hxk : x = (q : Int)
              · subst hxk
                go_wp2_with fail
                go_round
                case rel => exact ⟨j + 1, by omega, by go_num, by rw [HST.out, if_pos rfl]; rfl⟩
                case measure => simp [intOf]; omega
              · have hxb : (x == (q : Int)) = false := by simpa using hxk
                have HXK := Lib.hid hxk
                clear hxk
                go_wp2_with fail
                go_round
                case rel => exact ⟨j + 1, by omega, by go_num, by rw [HST.out, if_neg HXK.out]⟩
                case measure => simp [intOf]; omega
          · obtain rfl : j = l.length := by omega
            rw [List.take_length]
            go_wp2_with fail
            go_ret2
            exact ⟨rfl, rfl⟩
      · have hu : hasD d.n k = false := by simp [hasD, h0, h1]
        rw [hu]
        have h1' : ((safeL d).length : Int) ≤ k := by omega
        clear hu
        go_enter Try.func30, Try.ntmps30
        go_wp2_with fail
        go_ret2
        exact ⟨rfl, rfl⟩
    · have hu : hasD d.n k = false := by simp [hasD, h0]
      rw [hu]
      have h0' : k < 0 := by omega
      clear hu
      go_enter Try.func30, Try.ntmps30
      go_wp2_with fail
      go_ret2
      exact ⟨rfl, rfl⟩
end Go.Proofs.Ytiighehibiijcaa

namespace Go.Proofs.Ytiighehibiijcaa
open Go.RowKit
set_option linter.unusedSimpArgs false
set_option linter.unnecessarySimpa false
set_option linter.unusedVariables false

def stepR (d : Dev) : Dev := if goesD d then stepD d else { d with on := false }
theorem stepR_waits (d : Dev) : (stepR d).waits = d.waits := by unfold stepR; split; exact stepD_waits d; rfl
theorem stepR_write (d : Dev) (k : Int) (s : List UInt8) : { stepR d with waits := d.waits ++ [(k, s)] } = writeD d k s := rfl
theorem stepR_safeL (d : Dev) : safeL (stepR d) = safeL d := by
  unfold stepR
  split
  · exact safeL_same (stepD_safe d) (stepD_n d)
  · exact safeL_same rfl rfl
set_option maxRecDepth 100000 in
set_option maxHeartbeats 3200000 in
theorem refWrite_any (w : World) (h : Nat) (sv rv : Value) (B : Nat) (d : Dev) (k : Int) (s : List UInt8) (hd : IsRef w h sv rv B d) (hok : OkD d) (hn0 : 0 ≤ d.n) (hn1 : d.n ≤ 4096) (hs63 : s.length ≤ 1000000) :
    Calls Try.prog 33 #[.pointer (some ⟨h, 0, none⟩), .int .i64 k, str s] w
      fun e w' => e = .returned (.int .i64 (writeE d k s)) ∧ ∃ rv', IsRef w' h sv rv' B (writeR d k s) ∧ RTouch h sv w rv w' rv' := by
  obtain ⟨i0, hi, hz0, hz1, hz2⟩ : ∃ i, Try.prog.info? 91 = some i ∧ i.zero = some (.agg #[.int .i64 0, .string ByteArray.empty]) ∧ i.size = 2 ∧ i.bytes = 24 := info_parts (by kernel_rfl)
  have HD := Lib.hid hd
  have OK := Lib.hid hok
  obtain ⟨c0, c1, c2, -⟩ := ref_cells hd
  obtain ⟨p, c, hsv⟩ := hd.2.1.len
  have hsl := safeL_length d
  have hwl := hok.2.2.2.2
  unfold writeE writeR
  obtain ⟨on, hon⟩ : ∃ u, d.on = u := ⟨_, rfl⟩
  rw [hon] at c2 ⊢
  have HON := Lib.hid hon
  clear hd hok hon
  subst hsv
  have hlen : ((safeL d).length : Int) = d.n := by omega
  cases on
  · clear hsl hlen
    go_enter Try.func33, Try.ntmps33
    go_wp2_with fail
    go_ret
    exact ⟨rfl, rv, HD.out, RTouch.refl _ _ _ _⟩
  · by_cases h0 : 0 ≤ k
    · have h0' : ¬ k < 0 := by omega
      by_cases h1 : k < d.n
      · have hu : hasD d.n k = true := by simp [hasD, h0, h1]
        rw [hu]
        have h1'' : ¬ ((safeL d).length : Int) ≤ k := by omega
        by_cases h64 : s.length = 64
        · have h64' : (s.length : Int) = 64 := by omega
          rw [if_pos h64, if_pos h64]
          simp only [if_true]
          clear hu h0 h1 hsl hlen h64
          obtain ⟨er, her⟩ : ∃ er, (if goesD d = true then (0 : Int) else 14) = er := ⟨_, rfl⟩
          rw [her]
          have HE := Lib.hid her
          clear her
          go_enter Try.func33, Try.ntmps33
          go_wp2_with fail
          refine (refStep_any _ h _ rv B d HD.out OK.out).mono ?_
          rw [HE.out]
          rintro e w1 ⟨rfl, hd1, t1⟩
          have HD1 := Lib.hid (show IsRef w1 h _ rv B (stepR d) from hd1)
          have T1 := Lib.hid t1
          clear hd1 t1 c0 c1 c2
          obtain ⟨d0, d1, -⟩ := ref_cells HD1.out
          have hB := HD1.out.2.2.2
          have lh := HD1.out.1.lt
          have hw1 : OwnW w1 B rv d.waits := by have := HD1.out.2.2.1; rwa [stepR_waits] at this
          have HW1 := Lib.hid hw1
          clear hw1
          go_wp2_with (at_builtin; refine wpList_append_lies _ rfl _ _ 37 rfl B 91 i0 (.agg #[.int .i64 0, .string ByteArray.empty]) 2 24 Try.underlying37 hi hz0 hz1 hz2 rfl (by decide) rv d.waits.length (wcells d.waits) rfl (HW1.out.alloc _) ⟨w1.heap.size, 0, none⟩ 1 1 [.int .i64 k, str s] rfl rfl (World.news_of_block (Blk.new w1 91 #[.int .i64 k, str s])) (by simp [Value.oneCell']) (by decide) (by unfold maxLen; omega) (by omega) (by simp; omega) _ rfl ?_; intro gv c2 w2 hown hgrow hat hlt; have HB2 := Lib.hid (Blk.grown (Blk.alloc HD1.out.1 (.cells #[.int .i64 k, str s] 91)) hgrow (OwnW.ne HW1.out HD1.out.1 (by decide)).symm); have q1 := HB2.out.frozen 1; have q2 := HB2.out.cell 1; have HOWN := Lib.hid hown; have HGROW := Lib.hid hgrow; have HAT := Lib.hid hat; clear hown hgrow hat)
          have HS2 := Lib.hid (OwnS.grown (OwnS.alloc HD1.out.2.1 (.cells #[.int .i64 k, str s] 91)) HGROW.out (by
            rcases hv : (Value.slice p (safeL d).length c).ownBlock with _ | i
            · exact .inl rfl
            · exact .inr (fun e => OwnS.apart HD1.out.2.1 HW1.out hv e.symm)))
          go_ret
          have hd3 := IsRef.setWaits (d := stepR d) HB2.out HS2.out (OwnW.push HOWN.out) hB
          rw [stepR_write] at hd3
          have t2 : RTouch h (.slice p (safeL d).length c) w1 rv (w1.alloc (.cells #[.int .i64 k, str s] 91)) rv := RTouch.of_below ((Below.refl _ _).alloc (Nat.le_refl _) _)
          have t3 : RTouch h (.slice p (safeL d).length c) w1 rv w2 (.slice (some ⟨gv, 0, none⟩) (d.waits.length + 1) c2) := t2.trans (RTouch.of_own HGROW.out (fun i hi => own_at (HAT.out.imp id (fun e => by rw [e])) hi))
          exact ⟨rfl, _, hd3, (T1.out.trans t3).trans (RTouch.of_grown (upd_set w2 h 1 _) (.inl rfl))⟩
        · have h64' : ¬ (s.length : Int) = 64 := by omega
          rw [if_neg h64, if_neg h64]
          simp only [if_true]
          clear hu h0 h1 hsl hlen
          go_enter Try.func33, Try.ntmps33
          go_wp2_with fail
          go_ret
          exact ⟨rfl, rv, HD.out, RTouch.refl _ _ _ _⟩
      · have hu : hasD d.n k = false := by simp [hasD, h0, h1]
        rw [hu]
        have h1' : ((safeL d).length : Int) ≤ k := by omega
        clear hu hsl hlen
        go_enter Try.func33, Try.ntmps33
        go_wp2_with fail
        go_ret
        exact ⟨rfl, rv, HD.out, RTouch.refl _ _ _ _⟩
    · have hu : hasD d.n k = false := by simp [hasD, h0]
      rw [hu]
      have h0' : k < 0 := by omega
      clear hu hsl hlen
      go_enter Try.func33, Try.ntmps33
      go_wp2_with fail
      go_ret
      exact ⟨rfl, rv, HD.out, RTouch.refl _ _ _ _⟩

/-! Same. -/
set_option maxRecDepth 100000 in
set_option maxHeartbeats 3200000 in
theorem refSame_any (w : World) (a b : Value) (B1 B2 : Nat) (l : List (Int × List UInt8)) (ha : OwnW w B1 a l) (hb : OwnW w B2 b l) :
    Calls Try.prog 34 #[a, b] w fun e w' => e = .returned (.bool true) ∧ Below w.heap.size w w' := by
  obtain ⟨p, c, rfl⟩ := ha.form
  obtain ⟨p2, c2, rfl⟩ := hb.form
  have HA := Lib.hid ha.read
  have HB := Lib.hid hb.read
  have hf := ha.fits
  unfold maxLen at hf
  clear ha hb
  go_enter Try.func34, Try.ntmps34
  go_wp2_with fail
  go_loopw [5] (fun i wr => ∃ j : Nat, j ≤ l.length ∧ i = .int .i64 j ∧ Below w.heap.size w wr) (fun i _ => l.length - (intOf i).toNat)
  case atStart => exact ⟨0, Nat.zero_le _, rfl, Below.refl _ _⟩
  case round =>
    obtain ⟨j, hj, rfl, hbl⟩ := hrel
    by_cases hlt : j < l.length
    · have hji : (j : Int) < (l.length : Int) := by omega
      rcases HA.out with ⟨-, h2⟩ | ⟨g1, q1, h1, -, hg1, -, -, hc1⟩
      · rw [h2] at hlt; simp at hlt
      · rcases HB.out with ⟨-, h3⟩ | ⟨g2, q2, h4, -, hg2, -, -, hc2⟩
        · rw [h3] at hlt; simp at hlt
        · injection h1 with h1 h1b h1c
          injection h4 with h4 h4b h4c
          clear h1b h1c h4b h4c
          subst h1
          subst h4
          obtain ⟨e1, e2⟩ := hc1 j hlt
          obtain ⟨e3, e4⟩ := hc2 j hlt
          rw [Nat.mul_comm] at e1 e2 e3 e4
          obtain ⟨⟨x, t⟩, hx⟩ : ∃ q, l[j] = q := ⟨_, rfl⟩
          rw [hx] at e1 e2 e3 e4
          simp only [] at e1 e2 e3 e4
          replace e1 := (hbl.cell (p := ⟨g1, j * 2, none⟩) hg1).trans e1
          replace e2 := (hbl.cell (p := ⟨g1, j * 2 + 1, none⟩) hg1).trans e2
          replace e3 := (hbl.cell (p := ⟨g2, j * 2, none⟩) hg2).trans e3
          replace e4 := (hbl.cell (p := ⟨g2, j * 2 + 1, none⟩) hg2).trans e4
          clear hx hc1 hc2 HA HB
          go_wp2
          go_quiet (fail)
          go_wp2
          go_roundw
          case rel => exact ⟨j + 1, by omega, by go_num, bel_step hbl ⟨rfl, rfl, rfl, Nat.le_refl _, fun _ _ => rfl⟩⟩
          case measure => simp [intOf]; omega
    · obtain rfl : j = l.length := by omega
      go_wp2_with fail
      go_ret
      exact ⟨rfl, hbl⟩
end Go.Proofs.Ytiighehibiijcaa

namespace Go.Proofs.Ytiighehibiijcaa
open Go.RowKit

theorem take_is {s body s1 : List UInt8} (ht : rText 82 1048576 (s, false) = (body, s1, false)) (h : s.take (tRec body).length = tRec body) : takeR s = (body, ((tRec body).length : Int), 0) := by
  have hi := rText_inv ht
  have := take_back body (s.drop (tRec body).length) (by have := hi.2.1; omega)
  rwa [show tRec body ++ s.drop (tRec body).length = s by conv => rhs; rw [← List.take_append_drop (tRec body).length s, h]] at this
theorem take_isnt {s body s1 : List UInt8} (ht : rText 82 1048576 (s, false) = (body, s1, false)) (h : ¬ s.take (tRec body).length = tRec body) : takeR s = ([], 0, 10) := by
  have hi := rText_inv ht
  unfold takeR
  rw [ht]
  simp only []
  split
  · rfl
  · rename_i n s2 hn
    split
    · rename_i hs
      have hj := rInt_inv hn
      refine absurd ?_ h
      have hl : s.length - s1.length = (tText 82 body).length := by
        conv => lhs; rw [hi.1, List.length_append]
        omega
      rw [hl] at hs
      have hs2 : n = sumN (tText 82 body) := by rw [hs]; congr 1; conv => lhs; rw [hi.1, List.take_left]
      have : s = tRec body ++ s2 := by
        unfold tRec
        rw [List.append_assoc, ← hs2, ← hj]
        exact hi.1
      rw [this, List.take_left]
    · rfl
theorem take_bad {s body s1 : List UInt8} (ht : rText 82 1048576 (s, false) = (body, s1, true)) : takeR s = ([], 0, 10) := by
  unfold takeR
  rw [ht]
end Go.Proofs.Ytiighehibiijcaa

namespace Go.Proofs.Ytiighehibiijcaa
open Go.RowKit

/-- Block g is the document's reader in state r. -/
def IsRR (w : World) (g : Nat) (r : Rd) : Prop := Blk w g 134 #[str r.1, .bool r.2]
theorem rr_cells {w : World} {g : Nat} {s : List UInt8} {b : Bool} (h : IsRR w g (s, b)) : w.cell? ⟨g, 0, none⟩ = some (str s) ∧ w.cell? ⟨g, 1, none⟩ = some (.bool b) ∧ w.frozen? ⟨g, 0, none⟩ = false ∧ w.frozen? ⟨g, 1, none⟩ = false :=
  ⟨Blk.cell h 0, Blk.cell h 1, Blk.frozen h 0, Blk.frozen h 1⟩
theorem rr_drewN {w : World} {g : Nat} {r : Rd} (h : IsRR w g r) (n : Nat) : IsRR (w.drewN n) g r := h
theorem upd_drewN (w : World) (n : Nat) (row : Option Nat) : w.grownBy (w.drewN n) row := ⟨rfl, rfl, rfl, Nat.le_refl _, fun _ _ _ => rfl⟩
theorem rText_short (c most : Int) (s : List UInt8) (b : Bool) (h : s.length < 4) : rText c most (s, b) = ([], s, true) := by
  unfold rText
  split
  · rename_i h0
    injection h0 with h1 h2
    subst h1
    simp only [List.length_cons] at h
    omega
  · rename_i h0
    injection h0 with h1 h2
    subst h1
    rfl
theorem rText_other (c most : Int) (a x y z : UInt8) (s : List UInt8) (h : ¬ (a.toNat : Int) = c) : rText c most (a :: x :: y :: z :: s, false) = ([], a :: x :: y :: z :: s, true) := by
  unfold rText
  simp only []
  rw [if_neg (fun k => h k.1)]
theorem rText_true (c most : Int) (s : List UInt8) : rText c most (s, true) = ([], s, true) := by
  unfold rText
  split
  · rename_i h; injection h with h1 h2; cases h2
  · rename_i h; injection h with h1 h2; subst h1; rfl

set_option maxRecDepth 100000 in
set_option maxHeartbeats 1600000 in
theorem refReadText_any (s : List UInt8) (b : Bool) (c most : Int) (g : Nat) (w : World) (h : IsRR w g (s, b)) (c0 : 0 ≤ c) (c1 : c ≤ 255) (hs : s.length ≤ 140737488351232) (hm : most ≤ 9223372036854775807)
    (t s' : List UInt8) (b' : Bool) (hr : rText c most (s, b) = (t, s', b')) :
    Calls Try.prog 91 #[.pointer (some ⟨g, 0, none⟩), .int .u8 c, .int .i64 most] w fun e w' => e = .returned (str t) ∧ IsRR w' g (s', b') ∧ w.grownBy w' (some g) := by
  have H := Lib.hid h
  obtain ⟨d0, d1, f0, f1⟩ := rr_cells h
  have hlt := Blk.lt h
  clear h
  cases b
  · by_cases h4 : s.length < 4
    · rw [rText_short c most s false h4] at hr
      simp only [Prod.mk.injEq] at hr
      obtain ⟨rfl, rfl, rfl⟩ := hr
      go_enter Try.func91, Try.ntmps91
      go_wp2
      go_ret
      exact ⟨rfl, Blk.set_ H.out 1 _, upd_set w g 1 _⟩
    · obtain ⟨a, x, y, z, r, rfl⟩ : ∃ a x y z r, s = a :: x :: y :: z :: r := by
        match s, h4 with
        | a :: x :: y :: z :: r, _ => exact ⟨a, x, y, z, r, rfl⟩
        | [], h => simp at h
        | [_], h => simp at h
        | [_, _], h => simp at h
        | [_, _, _], h => simp at h
      clear h4
      have hx : (x.toNat : Int) < 256 := by have := x.toNat_lt; omega
      have hy : (y.toNat : Int) < 256 := by have := y.toNat_lt; omega
      have hz : (z.toNat : Int) < 256 := by have := z.toNat_lt; omega
      simp only [List.length_cons] at hs
      by_cases hac : (a.toNat : Int) = c
      · by_cases hok : n3 x y z ≤ most ∧ n3 x y z ≤ r.length
        · have hN : (n3 x y z).toNat = x.toNat * 65536 + y.toNat * 256 + z.toNat := by unfold n3; omega
          have hn3 : n3 x y z = x.toNat * 65536 + y.toNat * 256 + z.toNat := by unfold n3; omega
          have hok1 := hok.1
          have hok2 := hok.2
          rw [hn3] at hok1 hok2
          unfold rText at hr
          simp only [] at hr
          rw [if_pos ⟨hac, hok⟩, hN] at hr
          simp only [Prod.mk.injEq] at hr
          obtain ⟨rfl, rfl, rfl⟩ := hr
          clear hok hN hn3
          subst hac
          go_enter Try.func91, Try.ntmps91
          go_wp2
          go_quiet (fail)
          go_wp2
          go_ret
          simp only [take_four, take_cut]
          exact ⟨rfl, Blk.set_ (rr_drewN H.out _) 0 _, upd_trans (upd_drewN w _ _) (upd_set _ g 0 _)⟩
        · have hn3 : n3 x y z = x.toNat * 65536 + y.toNat * 256 + z.toNat := by unfold n3; omega
          have hcase : most < x.toNat * 65536 + y.toNat * 256 + z.toNat ∨ ((x.toNat : Int) * 65536 + y.toNat * 256 + z.toNat ≤ most ∧ (r.length : Int) < x.toNat * 65536 + y.toNat * 256 + z.toNat) := by omega
          unfold rText at hr
          simp only [] at hr
          rw [if_neg (fun k => hok k.2)] at hr
          simp only [Prod.mk.injEq] at hr
          obtain ⟨rfl, rfl, rfl⟩ := hr
          clear hok hn3
          subst hac
          rcases hcase with h1 | ⟨h1, h2⟩
          all_goals
            go_enter Try.func91, Try.ntmps91
            go_wp2
            go_quiet (fail)
            go_wp2
            go_ret
            exact ⟨rfl, Blk.set_ (rr_drewN H.out _) 1 _, upd_trans (upd_drewN w _ _) (upd_set _ g 1 _)⟩
      · rw [rText_other c most a x y z r hac] at hr
        simp only [Prod.mk.injEq] at hr
        obtain ⟨rfl, rfl, rfl⟩ := hr
        have hac' : ((a.toNat : Int) != c) = true := by simpa using hac
        go_enter Try.func91, Try.ntmps91
        go_wp2
        go_ret
        exact ⟨rfl, Blk.set_ H.out 1 _, upd_set w g 1 _⟩
  · rw [rText_true] at hr
    simp only [Prod.mk.injEq] at hr
    obtain ⟨rfl, rfl, rfl⟩ := hr
    go_enter Try.func91, Try.ntmps91
    go_wp2
    go_ret
    exact ⟨rfl, Blk.set_ H.out 1 _, upd_set w g 1 _⟩
end Go.Proofs.Ytiighehibiijcaa

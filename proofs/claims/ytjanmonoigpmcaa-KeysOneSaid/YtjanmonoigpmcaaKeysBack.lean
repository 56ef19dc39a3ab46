/-
  The walk of KeysBack: it returns true for every id and number. No conditions beside those in each theorem.
-/
import Derived.Test.YtjanmonoigpmcaaKeysC
import Derived.Test.YtjanmonoigpmcaaMasks
namespace Go.Proofs.Ytjanmonoigpmcaa
open Go.RowKit

theorem rText_over (c most : Int) (s rest : List UInt8) (hs : s.length ≤ 16777215) (hm : most < (s.length : Int)) :
    rText c most (tText c s ++ rest, false) = ([], tText c s ++ rest, true) := by
  unfold tText hd
  simp only [List.cons_append, List.nil_append]
  unfold rText
  simp only []
  have hn := n3_hd s.length (by omega) (by omega)
  rw [hn, if_neg (by omega)]
theorem readNumR_back (n : Int) (h0 : 0 ≤ n) (hn : n ≤ 1099511627776) : readNumR (tNum 110 n.toNat) = (n, 0) := by
  obtain ⟨m, rfl⟩ := Int.eq_ofNat_of_zero_le h0
  rw [Int.toNat_natCast]
  have := rInt_back 110 1099511627776 m [] (by decide) (by decide) (by omega) (by omega)
  rw [List.append_nil] at this
  unfold readNumR
  rw [this]
  rfl
theorem seqR_other (k : UInt8) (s : List UInt8) (h80 : k ≠ 80) (h71 : k ≠ 71) : seqR (k :: s) = ([], 0, false) := by
  rw [seqR_cons, if_neg (fun h => h.1.elim h80 h71)]
theorem seqR_more (k : UInt8) (id : List UInt8) (n : Int) (h0 : 0 ≤ n) (hi : id.length ≤ 32) (hn : n ≤ 1099511627776) (x : UInt8) (rest : List UInt8) : seqR (kWith k id n ++ x :: rest) = ([], 0, false) := by
  obtain ⟨m, rfl⟩ := Int.eq_ofNat_of_zero_le h0
  unfold kWith
  rw [Int.toNat_natCast, List.cons_append, seqR_cons, List.append_assoc, seqIn_back id m (x :: rest) hi (by omega), if_neg]
  rintro ⟨_, h⟩
  simp [rEnd] at h
theorem seqR_long (k : UInt8) (id : List UInt8) (n : Int) (hi : 32 < id.length) (hs : id.length ≤ 16777215) : seqR (kWith k id n) = ([], 0, false) := by
  unfold kWith
  rw [seqR_cons]
  unfold seqIn
  rw [rText_over 105 32 id _ hs (by omega), rInt_bad, if_neg]
  rintro ⟨_, h⟩
  simp [rEnd] at h

set_option maxRecDepth 100000 in
set_option maxHeartbeats 3200000 in
theorem keysBack_walk (id : List UInt8) (n : Int) (w : World) :
    Calls Try.prog 12 #[str id, .int .i64 n] w fun e w' => e = .returned (.bool true) ∧ Below w.heap.size w w' := by
  obtain ⟨X, hX⟩ : ∃ X, id.take 32 = X := ⟨_, rfl⟩
  have hXl : X.length ≤ 32 := by rw [← hX, List.length_take]; omega
  obtain ⟨m, hm⟩ : ∃ m, n % 1099511627776 = m := ⟨_, rfl⟩
  have hm0 : 0 ≤ m := by omega
  have hm1 : m ≤ 1099511627775 := by omega
  have hmask : bits .and .i64 n 1099511627775 = m := by rw [i64_and40, hm]
  have HX := Lib.hid hX
  clear hX hm
  go_enter Try.func12, Try.ntmps12
  go_wp2_with fail
  refine (awake16_any _).mono ?_
  rintro e w1 ⟨rfl, hb1⟩
  go_wp2_with fail
  refine (short16_any id 32 _).mono ?_
  rw [HX.out]
  rintro e wq ⟨rfl, rfl⟩
  go_wp2_with fail
  clear hmask
  refine (number_any m _ (by omega)).mono ?_
  rintro e w2 ⟨rfl, hq⟩
  have hb2 := bel_step hb1 hq
  clear hq hb1
  go_wp2_with fail
  refine (readNumber_any _ _ (by have := tNum_le 110 m.toNat; omega)).mono ?_
  rw [readNumR_back m hm0 (by omega)]
  rintro e w3 ⟨rfl, hq⟩
  have hb3 := bel_step hb2 hq
  clear hq hb2
  go_wp2_with fail
  refine (kGot_any X m _ (by omega) (by omega)).mono ?_
  rintro e w4 ⟨rfl, hq⟩
  have hb4 := bel_step hb3 hq
  clear hq hb3
  go_wp2_with fail
  refine (seq_any _ _ (by have := kWith_le 71 X m; omega)).mono ?_
  rw [seqR_back 71 (.inr rfl) X m hm0 hXl (by omega)]
  rintro e w5 ⟨rfl, hq⟩
  have hb5 := bel_step hb4 hq
  clear hq hb4
  go_wp2_with fail
  refine (kSent_any X m _ (by omega) (by omega)).mono ?_
  rintro e w6 ⟨rfl, hq⟩
  have hb6 := bel_step hb5 hq
  clear hq hb5
  go_wp2_with fail
  refine (seq_any _ _ (by have := kWith_le 80 X m; omega)).mono ?_
  rw [seqR_back 80 (.inl rfl) X m hm0 hXl (by omega)]
  rintro e w7 ⟨rfl, hq⟩
  have hb7 := bel_step hb6 hq
  clear hq hb6
  go_wp2_with fail
  refine (kChan_any X _ (by omega)).mono ?_
  rintro e w8 ⟨rfl, hq⟩
  have hb8 := bel_step hb7 hq
  clear hq hb7
  go_wp2_with fail
  refine (seq_any _ _ (by have := kOf_length 72 X; omega)).mono ?_
  rw [show seqR (kOf 72 X) = ([], 0, false) from seqR_other 72 _ (by decide) (by decide)]
  rintro e w9 ⟨rfl, hq⟩
  have hb9 := bel_step hb8 hq
  clear hq hb8
  go_wp2_with fail
  refine (kSent_any X m _ (by omega) (by omega)).mono ?_
  rintro e w10 ⟨rfl, hq⟩
  have hb10 := bel_step hb9 hq
  clear hq hb9
  have hkl := kWith_le 80 X m
  have q1 : ¬ 9223372036854775807 < (kWith 80 X m).length + 1 := by omega
  go_wp2_with fail
  refine (seq_any (kWith 80 X m ++ [120]) _ (by rw [List.length_append]; simp; omega)).mono ?_
  rw [show seqR (kWith 80 X m ++ [120]) = ([], 0, false) from seqR_more 80 X m hm0 hXl (by omega) 120 []]
  rintro e w11 ⟨rfl, hq⟩
  have hb11 := bel_step hb10 hq
  clear hq hb10 q1
  have q2 : ¬ 9223372036854775807 < X.length + 33 := by omega
  obtain ⟨Y, hY⟩ : ∃ Y, X ++ [49, 50, 51, 52, 53, 54, 55, 56, 57, 48, 49, 50, 51, 52, 53, 54, 55, 56, 57, 48, 49, 50, 51, 52, 53, 54, 55, 56, 57, 48, 49, 50, 51] = Y := ⟨_, rfl⟩
  have hYl : Y.length = X.length + 33 := by rw [← hY, List.length_append]; rfl
  have HYl := Lib.hid hYl
  have HY := Lib.hid hY
  clear hYl hY
  go_wp2_with fail
  rw [HY.out]
  refine (kSent_any Y m _ (by have := HYl.out; omega) (by omega)).mono ?_
  rintro e w12 ⟨rfl, hq⟩
  have hb12 := bel_step hb11 hq
  clear hq hb11 q2
  go_wp2_with fail
  refine (seq_any (kWith 80 Y m) _ (by have := kWith_le 80 Y m; have := HYl.out; omega)).mono ?_
  rw [seqR_long 80 Y m (by have := HYl.out; omega) (by have := HYl.out; omega)]
  rintro e w13 ⟨rfl, hq⟩
  have hb13 := bel_step hb12 hq
  clear hq hb12
  go_wp2
  go_ret
  exact ⟨rfl, hb13⟩
end Go.Proofs.Ytjanmonoigpmcaa

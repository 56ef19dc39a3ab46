/-
  The walk of CheckChanged: it returns true for every body, place and turn. No conditions beside those in each theorem.
-/
import Derived.Test.YtlkgloakcpfnnaaChangedPlain
import Derived.Test.YtlkgloakcpfnnaaCheckSums
namespace Go.Proofs.Ytlkgloakcpfnnaa
open Go.RowKit

theorem bytes3_frozen (w : World) (s : List UInt8) (c j : Nat) (h : j < s.length) :
    (w.alloc (.cells (bytesRow ⟨s.toArray⟩ c) 5 ((bytesRow ⟨s.toArray⟩ c).size, (bytesRow ⟨s.toArray⟩ c).size + 1))).frozen? ⟨w.heap.size, j, none⟩ = false := by
  have h1 := bytesRow_at ⟨s.toArray⟩ c j (by simpa using h)
  obtain ⟨h2, _⟩ := Array.getElem?_eq_some_iff.1 h1
  rw [World.frozen?_alloc_mark]
  simp
  omega
/-- 'string(b)' of a text's bytes, one of them turned. -/
theorem run_str_turned (w : World) (s : List UInt8) (c j : Nat) (D : UInt8) (h : j < s.length) :
    (convert 24 9 (.slice (some ⟨w.heap.size, 0, none⟩) s.length c)).run Try.prog ((w.alloc (.cells (bytesRow ⟨s.toArray⟩ c) 5 ((bytesRow ⟨s.toArray⟩ c).size, (bytesRow ⟨s.toArray⟩ c).size + 1))).setCell ⟨w.heap.size, j, none⟩ (.int .u8 D.toNat)).drew =
      .ok (str (s.set j D)) ((w.alloc (.cells (bytesRow ⟨s.toArray⟩ c) 5 ((bytesRow ⟨s.toArray⟩ c).size, (bytesRow ⟨s.toArray⟩ c).size + 1))).setCell ⟨w.heap.size, j, none⟩ (.int .u8 D.toNat)).drew := by
  have := run_convert_bytes_back (P := Try.prog) ((w.alloc (.cells (bytesRow ⟨s.toArray⟩ c) 5 ((bytesRow ⟨s.toArray⟩ c).size, (bytesRow ⟨s.toArray⟩ c).size + 1))).setCell ⟨w.heap.size, j, none⟩ (.int .u8 D.toNat)).drew 24 9 5 ⟨w.heap.size, 0, none⟩ c (s.set j D) Try.underlying24 Try.underlying5 Try.underlying9 (by
    intro i hi
    have hi' : i < s.length := by simpa using hi
    have ha : (⟨w.heap.size, 0, none⟩ : Addr).add i = ⟨w.heap.size, i, none⟩ := by
      unfold Addr.add
      split
      · subst_vars; rfl
      · simp
    rw [ha]
    show ((w.alloc _).setCell _ _).cell? _ = _
    by_cases hij : j = i
    · subst hij
      rw [World.cell?_setCell_same _ _ _ (bytes3 w s c j h)]
      simp
    · rw [World.cell?_setCell_other _ _ _ _ (by intro e; injection e with e1 e2; exact hij e2), bytes3 w s c i hi']
      simp [hij])
  simpa using this

set_option maxRecDepth 100000 in
set_option maxHeartbeats 3200000 in
theorem checkChanged_walk (s : List UInt8) (at' t : Int) (t0 : 0 ≤ t) (t1 : t ≤ 255) (w : World) :
    Calls Try.prog 8 #[str s, .int .i64 at', .int .u8 t] w fun e w' => e = .returned (.bool true) ∧ Below w.heap.size w w' := by
  obtain ⟨B, hB⟩ : ∃ B, B = 98 :: s.take 99 := ⟨_, rfl⟩
  have hBl : 1 ≤ B.length ∧ B.length ≤ 100 := by rw [hB, List.length_cons, List.length_take]; omega
  obtain ⟨hB1, hB2⟩ := hBl
  have HB := Lib.hid hB
  clear hB
  have q1 := Int.tmod_lt_of_pos at' (show (0 : Int) < B.length by omega)
  have q2 := Int.lt_tmod_of_pos at' (show (0 : Int) < B.length by omega)
  have hl := tRec_length B
  have hl1 := hl.1
  have hl2 := hl.2
  clear hl
  by_cases hneg : at'.tmod B.length < 0 <;> by_cases ht : t = 0
  · obtain ⟨K, hK, hKB⟩ : ∃ K : Nat, (4 + -at'.tmod B.length).toNat = 4 + K ∧ K < B.length := ⟨(-at'.tmod B.length).toNat, by omega, by omega⟩
    have hK2 : (-at'.tmod B.length).toNat = K := by omega
    subst ht
    have hKL : 4 + K < (tRec B).length := by omega
    obtain ⟨C, hC⟩ : ∃ C, (tRec B)[4 + K] = C := ⟨_, rfl⟩
    have hx := xor_u8 C 0 (by decide) (by decide)
    obtain ⟨D, hD⟩ : ∃ D, C ^^^ byt 0 = D := ⟨_, rfl⟩
    rw [hD] at hx
    have hT : takeR ((tRec B).set (4 + K) D) = (B, ((tRec B).length : Int), 0) := by
      have e0 : D = (tRec B)[4 + K] := by rw [hC, ← hD]; show C ^^^ 0 = C; exact UInt8.xor_zero
      have h0 := take_back B [] (by omega)
      rw [List.append_nil] at h0
      rw [e0, List.set_getElem_self]; exact h0
    have hS := take_short B K hKB (by omega)
    have hsl : ((tRec B).take K).length ≤ 140737488351232 := by rw [List.length_take]; omega
    have hZl : ((tRec B).set (4 + K) D).length ≤ 140737488351232 := by rw [List.length_set]; omega
    have hC2 : (tRec B)[4 + K]? = some C := by rw [List.getElem?_eq_getElem hKL, hC]
    clear hD hC hKL
    obtain ⟨X, hX⟩ : ∃ X, tRec B = X := ⟨_, rfl⟩
    simp only [hX] at hl1 hl2 hC2 hT hS hsl hZl
    have HX := Lib.hid hX
    have HT := Lib.hid hT
    have HS := Lib.hid hS
    have HC := Lib.hid hC2
    clear hX hT hS hC2
    have hKL : 4 + K < X.length := by omega
    go_enter Try.func8, Try.ntmps8
    go_wp2_with fail
    refine (awake05_any _).mono ?_
    rintro e w1 ⟨rfl, hb1⟩
    have z1 := hb1.size
    go_wp2_with fail
    refine (short05_any s 99 _).mono ?_
    rintro e w2 ⟨rfl, rfl⟩
    go_wp2_with fail
    rw [← HB.out]
    refine (put_any B _ (by omega)).mono ?_
    rw [HX.out]
    rintro e w3 ⟨rfl, hb3⟩
    have hb3' := bel_step hb1 hb3
    have z3 := hb3'.size
    have kb := run_bytes_of_string (P := Try.prog) w3 9 24 5 ⟨X.toArray⟩ Try.underlying9 Try.underlying24 Try.underlying5
    have hcell := bytes3 w3 X (grownCap w3 X.length 0 5) (4 + K) hKL
    have hfr := bytes3_frozen w3 X (grownCap w3 X.length 0 5) (4 + K) hKL
    rw [(List.getElem?_eq_some_iff.1 HC.out).2] at hcell
    have kc := run_str_turned w3 X (grownCap w3 X.length 0 5) (4 + K) D hKL
    have hb4 : Below w.heap.size w ((w3.alloc (.cells (bytesRow ⟨X.toArray⟩ (grownCap w3 X.length 0 5)) 5 ((bytesRow ⟨X.toArray⟩ (grownCap w3 X.length 0 5)).size, (bytesRow ⟨X.toArray⟩ (grownCap w3 X.length 0 5)).size + 1))).setCell ⟨w3.heap.size, 4 + K, none⟩ (.int .u8 D.toNat)).drew := ((hb3'.alloc z3 _).setCell (p := ⟨w3.heap.size, 4 + K, none⟩) z3 _).drew
    go_wp2_with fail
    refine (take_any (X.set (4 + K) D) B X.length 0 _ HT.out hZl).mono ?_
    clear hcell hfr kb kc
    rintro e w5 ⟨rfl, hb5⟩
    have hb5' := bel_step hb4 hb5
    clear hb4 hb5
    go_wp2_with fail
    refine (take_any (X.take K) [] 0 10 _ HS.out hsl).mono ?_
    rintro e w6 ⟨rfl, hb6⟩
    have hb6' := bel_step hb5' hb6
    go_wp2
    go_ret
    exact ⟨rfl, hb6'⟩
  · obtain ⟨K, hK, hKB⟩ : ∃ K : Nat, (4 + -at'.tmod B.length).toNat = 4 + K ∧ K < B.length := ⟨(-at'.tmod B.length).toNat, by omega, by omega⟩
    have hK2 : (-at'.tmod B.length).toNat = K := by omega
    have htb : (t == 0) = false := by simpa using ht
    have hKL : 4 + K < (tRec B).length := by omega
    obtain ⟨C, hC⟩ : ∃ C, (tRec B)[4 + K] = C := ⟨_, rfl⟩
    have hx := xor_u8 C t t0 t1
    obtain ⟨D, hD⟩ : ∃ D, C ^^^ byt t = D := ⟨_, rfl⟩
    rw [hD] at hx
    have hT : takeR ((tRec B).set (4 + K) D) = ([], 0, 10) := by
      have hBK : B[K] = C := by
        rw [← hC]
        simp only [tRec, tText]
        rw [List.getElem_append_left (by rw [List.length_append, hd_length]; omega), List.getElem_append_right (by rw [hd_length]; omega)]
        simp only [hd_length, Nat.add_sub_cancel_left]
      refine take_turned B K D hKB ?_ (by omega)
      rw [hBK, ← hD]
      refine xor_ne C (byt t) ?_
      intro h0
      have := byt_toNat t t0 t1
      rw [h0] at this
      have h00 : ((0 : UInt8).toNat : Int) = 0 := rfl
      omega
    have hS := take_short B K hKB (by omega)
    have hsl : ((tRec B).take K).length ≤ 140737488351232 := by rw [List.length_take]; omega
    have hZl : ((tRec B).set (4 + K) D).length ≤ 140737488351232 := by rw [List.length_set]; omega
    have hC2 : (tRec B)[4 + K]? = some C := by rw [List.getElem?_eq_getElem hKL, hC]
    clear hD hC hKL
    obtain ⟨X, hX⟩ : ∃ X, tRec B = X := ⟨_, rfl⟩
    simp only [hX] at hl1 hl2 hC2 hT hS hsl hZl
    have HX := Lib.hid hX
    have HT := Lib.hid hT
    have HS := Lib.hid hS
    have HC := Lib.hid hC2
    clear hX hT hS hC2
    have hKL : 4 + K < X.length := by omega
    go_enter Try.func8, Try.ntmps8
    go_wp2_with fail
    refine (awake05_any _).mono ?_
    rintro e w1 ⟨rfl, hb1⟩
    have z1 := hb1.size
    go_wp2_with fail
    refine (short05_any s 99 _).mono ?_
    rintro e w2 ⟨rfl, rfl⟩
    go_wp2_with fail
    rw [← HB.out]
    refine (put_any B _ (by omega)).mono ?_
    rw [HX.out]
    rintro e w3 ⟨rfl, hb3⟩
    have hb3' := bel_step hb1 hb3
    have z3 := hb3'.size
    have kb := run_bytes_of_string (P := Try.prog) w3 9 24 5 ⟨X.toArray⟩ Try.underlying9 Try.underlying24 Try.underlying5
    have hcell := bytes3 w3 X (grownCap w3 X.length 0 5) (4 + K) hKL
    have hfr := bytes3_frozen w3 X (grownCap w3 X.length 0 5) (4 + K) hKL
    rw [(List.getElem?_eq_some_iff.1 HC.out).2] at hcell
    have kc := run_str_turned w3 X (grownCap w3 X.length 0 5) (4 + K) D hKL
    have hb4 : Below w.heap.size w ((w3.alloc (.cells (bytesRow ⟨X.toArray⟩ (grownCap w3 X.length 0 5)) 5 ((bytesRow ⟨X.toArray⟩ (grownCap w3 X.length 0 5)).size, (bytesRow ⟨X.toArray⟩ (grownCap w3 X.length 0 5)).size + 1))).setCell ⟨w3.heap.size, 4 + K, none⟩ (.int .u8 D.toNat)).drew := ((hb3'.alloc z3 _).setCell (p := ⟨w3.heap.size, 4 + K, none⟩) z3 _).drew
    go_wp2_with fail
    refine (take_any (X.set (4 + K) D) [] 0 10 _ HT.out hZl).mono ?_
    clear hcell hfr kb kc
    rintro e w5 ⟨rfl, hb5⟩
    have hb5' := bel_step hb4 hb5
    clear hb4 hb5
    go_wp2_with fail
    refine (take_any (X.take K) [] 0 10 _ HS.out hsl).mono ?_
    rintro e w6 ⟨rfl, hb6⟩
    have hb6' := bel_step hb5' hb6
    go_wp2
    go_ret
    exact ⟨rfl, hb6'⟩
  · obtain ⟨K, hK, hKB⟩ : ∃ K : Nat, (4 + at'.tmod B.length).toNat = 4 + K ∧ K < B.length := ⟨(at'.tmod B.length).toNat, by omega, by omega⟩
    have hK2 : (at'.tmod B.length).toNat = K := by omega
    subst ht
    have hKL : 4 + K < (tRec B).length := by omega
    obtain ⟨C, hC⟩ : ∃ C, (tRec B)[4 + K] = C := ⟨_, rfl⟩
    have hx := xor_u8 C 0 (by decide) (by decide)
    obtain ⟨D, hD⟩ : ∃ D, C ^^^ byt 0 = D := ⟨_, rfl⟩
    rw [hD] at hx
    have hT : takeR ((tRec B).set (4 + K) D) = (B, ((tRec B).length : Int), 0) := by
      have e0 : D = (tRec B)[4 + K] := by rw [hC, ← hD]; show C ^^^ 0 = C; exact UInt8.xor_zero
      have h0 := take_back B [] (by omega)
      rw [List.append_nil] at h0
      rw [e0, List.set_getElem_self]; exact h0
    have hS := take_short B K hKB (by omega)
    have hsl : ((tRec B).take K).length ≤ 140737488351232 := by rw [List.length_take]; omega
    have hZl : ((tRec B).set (4 + K) D).length ≤ 140737488351232 := by rw [List.length_set]; omega
    have hC2 : (tRec B)[4 + K]? = some C := by rw [List.getElem?_eq_getElem hKL, hC]
    clear hD hC hKL
    obtain ⟨X, hX⟩ : ∃ X, tRec B = X := ⟨_, rfl⟩
    simp only [hX] at hl1 hl2 hC2 hT hS hsl hZl
    have HX := Lib.hid hX
    have HT := Lib.hid hT
    have HS := Lib.hid hS
    have HC := Lib.hid hC2
    clear hX hT hS hC2
    have hKL : 4 + K < X.length := by omega
    go_enter Try.func8, Try.ntmps8
    go_wp2_with fail
    refine (awake05_any _).mono ?_
    rintro e w1 ⟨rfl, hb1⟩
    have z1 := hb1.size
    go_wp2_with fail
    refine (short05_any s 99 _).mono ?_
    rintro e w2 ⟨rfl, rfl⟩
    go_wp2_with fail
    rw [← HB.out]
    refine (put_any B _ (by omega)).mono ?_
    rw [HX.out]
    rintro e w3 ⟨rfl, hb3⟩
    have hb3' := bel_step hb1 hb3
    have z3 := hb3'.size
    have kb := run_bytes_of_string (P := Try.prog) w3 9 24 5 ⟨X.toArray⟩ Try.underlying9 Try.underlying24 Try.underlying5
    have hcell := bytes3 w3 X (grownCap w3 X.length 0 5) (4 + K) hKL
    have hfr := bytes3_frozen w3 X (grownCap w3 X.length 0 5) (4 + K) hKL
    rw [(List.getElem?_eq_some_iff.1 HC.out).2] at hcell
    have kc := run_str_turned w3 X (grownCap w3 X.length 0 5) (4 + K) D hKL
    have hb4 : Below w.heap.size w ((w3.alloc (.cells (bytesRow ⟨X.toArray⟩ (grownCap w3 X.length 0 5)) 5 ((bytesRow ⟨X.toArray⟩ (grownCap w3 X.length 0 5)).size, (bytesRow ⟨X.toArray⟩ (grownCap w3 X.length 0 5)).size + 1))).setCell ⟨w3.heap.size, 4 + K, none⟩ (.int .u8 D.toNat)).drew := ((hb3'.alloc z3 _).setCell (p := ⟨w3.heap.size, 4 + K, none⟩) z3 _).drew
    go_wp2_with fail
    refine (take_any (X.set (4 + K) D) B X.length 0 _ HT.out hZl).mono ?_
    clear hcell hfr kb kc
    rintro e w5 ⟨rfl, hb5⟩
    have hb5' := bel_step hb4 hb5
    clear hb4 hb5
    go_wp2_with fail
    refine (take_any (X.take K) [] 0 10 _ HS.out hsl).mono ?_
    rintro e w6 ⟨rfl, hb6⟩
    have hb6' := bel_step hb5' hb6
    go_wp2
    go_ret
    exact ⟨rfl, hb6'⟩
  · obtain ⟨K, hK, hKB⟩ : ∃ K : Nat, (4 + at'.tmod B.length).toNat = 4 + K ∧ K < B.length := ⟨(at'.tmod B.length).toNat, by omega, by omega⟩
    have hK2 : (at'.tmod B.length).toNat = K := by omega
    have htb : (t == 0) = false := by simpa using ht
    have hKL : 4 + K < (tRec B).length := by omega
    obtain ⟨C, hC⟩ : ∃ C, (tRec B)[4 + K] = C := ⟨_, rfl⟩
    have hx := xor_u8 C t t0 t1
    obtain ⟨D, hD⟩ : ∃ D, C ^^^ byt t = D := ⟨_, rfl⟩
    rw [hD] at hx
    have hT : takeR ((tRec B).set (4 + K) D) = ([], 0, 10) := by
      have hBK : B[K] = C := by
        rw [← hC]
        simp only [tRec, tText]
        rw [List.getElem_append_left (by rw [List.length_append, hd_length]; omega), List.getElem_append_right (by rw [hd_length]; omega)]
        simp only [hd_length, Nat.add_sub_cancel_left]
      refine take_turned B K D hKB ?_ (by omega)
      rw [hBK, ← hD]
      refine xor_ne C (byt t) ?_
      intro h0
      have := byt_toNat t t0 t1
      rw [h0] at this
      have h00 : ((0 : UInt8).toNat : Int) = 0 := rfl
      omega
    have hS := take_short B K hKB (by omega)
    have hsl : ((tRec B).take K).length ≤ 140737488351232 := by rw [List.length_take]; omega
    have hZl : ((tRec B).set (4 + K) D).length ≤ 140737488351232 := by rw [List.length_set]; omega
    have hC2 : (tRec B)[4 + K]? = some C := by rw [List.getElem?_eq_getElem hKL, hC]
    clear hD hC hKL
    obtain ⟨X, hX⟩ : ∃ X, tRec B = X := ⟨_, rfl⟩
    simp only [hX] at hl1 hl2 hC2 hT hS hsl hZl
    have HX := Lib.hid hX
    have HT := Lib.hid hT
    have HS := Lib.hid hS
    have HC := Lib.hid hC2
    clear hX hT hS hC2
    have hKL : 4 + K < X.length := by omega
    go_enter Try.func8, Try.ntmps8
    go_wp2_with fail
    refine (awake05_any _).mono ?_
    rintro e w1 ⟨rfl, hb1⟩
    have z1 := hb1.size
    go_wp2_with fail
    refine (short05_any s 99 _).mono ?_
    rintro e w2 ⟨rfl, rfl⟩
    go_wp2_with fail
    rw [← HB.out]
    refine (put_any B _ (by omega)).mono ?_
    rw [HX.out]
    rintro e w3 ⟨rfl, hb3⟩
    have hb3' := bel_step hb1 hb3
    have z3 := hb3'.size
    have kb := run_bytes_of_string (P := Try.prog) w3 9 24 5 ⟨X.toArray⟩ Try.underlying9 Try.underlying24 Try.underlying5
    have hcell := bytes3 w3 X (grownCap w3 X.length 0 5) (4 + K) hKL
    have hfr := bytes3_frozen w3 X (grownCap w3 X.length 0 5) (4 + K) hKL
    rw [(List.getElem?_eq_some_iff.1 HC.out).2] at hcell
    have kc := run_str_turned w3 X (grownCap w3 X.length 0 5) (4 + K) D hKL
    have hb4 : Below w.heap.size w ((w3.alloc (.cells (bytesRow ⟨X.toArray⟩ (grownCap w3 X.length 0 5)) 5 ((bytesRow ⟨X.toArray⟩ (grownCap w3 X.length 0 5)).size, (bytesRow ⟨X.toArray⟩ (grownCap w3 X.length 0 5)).size + 1))).setCell ⟨w3.heap.size, 4 + K, none⟩ (.int .u8 D.toNat)).drew := ((hb3'.alloc z3 _).setCell (p := ⟨w3.heap.size, 4 + K, none⟩) z3 _).drew
    go_wp2_with fail
    refine (take_any (X.set (4 + K) D) [] 0 10 _ HT.out hZl).mono ?_
    clear hcell hfr kb kc
    rintro e w5 ⟨rfl, hb5⟩
    have hb5' := bel_step hb4 hb5
    clear hb4 hb5
    go_wp2_with fail
    refine (take_any (X.take K) [] 0 10 _ HS.out hsl).mono ?_
    rintro e w6 ⟨rfl, hb6⟩
    have hb6' := bel_step hb5' hb6
    go_wp2
    go_ret
    exact ⟨rfl, hb6'⟩
end Go.Proofs.Ytlkgloakcpfnnaa

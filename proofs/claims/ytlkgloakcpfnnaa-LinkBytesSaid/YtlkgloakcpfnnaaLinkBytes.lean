/-
  The walk of LinkBytes: it returns true for every end and bytes. No conditions beside those in each theorem.
-/
import Derived.Test.YtlkgloakcpfnnaaLinkH
import Derived.Test.YtlkgloakcpfnnaaUntil
namespace Go.Proofs.Ytlkgloakcpfnnaa
open Go.RowKit

theorem four_step {w w' : World} {g : Nat} {a b c d : Value} (hb : Below w.heap.size w w') (h : w.cell? ⟨g, 0, none⟩ = some a ∧ w.cell? ⟨g, 1, none⟩ = some b ∧ w.cell? ⟨g, 2, none⟩ = some c ∧ w.cell? ⟨g, 3, none⟩ = some d) :
    w'.cell? ⟨g, 0, none⟩ = some a ∧ w'.cell? ⟨g, 1, none⟩ = some b ∧ w'.cell? ⟨g, 2, none⟩ = some c ∧ w'.cell? ⟨g, 3, none⟩ = some d := by
  obtain ⟨h0, h1, h2, h3⟩ := h
  have hlt := World.block_lt_of_cell? w _ h0
  exact ⟨(hb.cell (p := ⟨g, 0, none⟩) hlt).trans h0, (hb.cell (p := ⟨g, 1, none⟩) hlt).trans h1, (hb.cell (p := ⟨g, 2, none⟩) hlt).trans h2, (hb.cell (p := ⟨g, 3, none⟩) hlt).trans h3⟩
theorem keep16 {W w w' : World} {g1 g2 g3 g4 : Nat} {a1 b1 c1 d1 a2 b2 c2 d2 a3 b3 c3 d3 a4 b4 c4 d4 : Value} (hb : Below w.heap.size w w')
    (h : (w.cell? ⟨g1, 0, none⟩ = some a1 ∧ w.cell? ⟨g1, 1, none⟩ = some b1 ∧ w.cell? ⟨g1, 2, none⟩ = some c1 ∧ w.cell? ⟨g1, 3, none⟩ = some d1) ∧
      (w.cell? ⟨g2, 0, none⟩ = some a2 ∧ w.cell? ⟨g2, 1, none⟩ = some b2 ∧ w.cell? ⟨g2, 2, none⟩ = some c2 ∧ w.cell? ⟨g2, 3, none⟩ = some d2) ∧
      (w.cell? ⟨g3, 0, none⟩ = some a3 ∧ w.cell? ⟨g3, 1, none⟩ = some b3 ∧ w.cell? ⟨g3, 2, none⟩ = some c3 ∧ w.cell? ⟨g3, 3, none⟩ = some d3) ∧
      (w.cell? ⟨g4, 0, none⟩ = some a4 ∧ w.cell? ⟨g4, 1, none⟩ = some b4 ∧ w.cell? ⟨g4, 2, none⟩ = some c4 ∧ w.cell? ⟨g4, 3, none⟩ = some d4) ∧ Hid (Below g1 W w)) :
    (w'.cell? ⟨g1, 0, none⟩ = some a1 ∧ w'.cell? ⟨g1, 1, none⟩ = some b1 ∧ w'.cell? ⟨g1, 2, none⟩ = some c1 ∧ w'.cell? ⟨g1, 3, none⟩ = some d1) ∧
      (w'.cell? ⟨g2, 0, none⟩ = some a2 ∧ w'.cell? ⟨g2, 1, none⟩ = some b2 ∧ w'.cell? ⟨g2, 2, none⟩ = some c2 ∧ w'.cell? ⟨g2, 3, none⟩ = some d2) ∧
      (w'.cell? ⟨g3, 0, none⟩ = some a3 ∧ w'.cell? ⟨g3, 1, none⟩ = some b3 ∧ w'.cell? ⟨g3, 2, none⟩ = some c3 ∧ w'.cell? ⟨g3, 3, none⟩ = some d3) ∧
      (w'.cell? ⟨g4, 0, none⟩ = some a4 ∧ w'.cell? ⟨g4, 1, none⟩ = some b4 ∧ w'.cell? ⟨g4, 2, none⟩ = some c4 ∧ w'.cell? ⟨g4, 3, none⟩ = some d4) ∧ Hid (Below g1 W w') :=
  ⟨four_step hb h.1, four_step hb h.2.1, four_step hb h.2.2.1, four_step hb h.2.2.2.1, Lib.hid (h.2.2.2.2.out.trans (hb.mono (Nat.le_of_lt (World.block_lt_of_cell? w _ h.1.1))))⟩

set_option maxRecDepth 100000 in
set_option maxHeartbeats 4000000 in
theorem linkBytes_walk (n : Int) (wn : (Lit.int .i64 n).wf = true) (a' b' c' s : List UInt8) (w : World) :
    Calls Try.prog 13 #[.agg #[.int .i64 n, str a', str b', str c'], str s] w fun e w' => e = .returned (.bool true) ∧ Below w.heap.size w w' := by
  have hn1 := (bounds_i64 wn).2
  obtain ⟨A, hA⟩ : ∃ A, cut40 a' = A := ⟨_, rfl⟩
  obtain ⟨B, hB⟩ : ∃ B, cut40 b' = B := ⟨_, rfl⟩
  obtain ⟨C, hC⟩ : ∃ C, cut40 c' = C := ⟨_, rfl⟩
  have fA : A.length ≤ 40 := by rw [← hA]; unfold cut40; rw [List.length_take]; omega
  have fB : B.length ≤ 40 := by rw [← hB]; unfold cut40; rw [List.length_take]; omega
  have fC : C.length ≤ 40 := by rw [← hC]; unfold cut40; rw [List.length_take]; omega
  obtain ⟨S, hS, hSl⟩ : ∃ S, ((120 < s.length ∧ List.take 120 s = S) ∨ (S = s ∧ ¬ 120 < S.length)) ∧ S.length ≤ 120 := by
    by_cases h : 120 < s.length
    · exact ⟨_, .inl ⟨h, rfl⟩, by rw [List.length_take]; omega⟩
    · exact ⟨s, .inr ⟨rfl, h⟩, by omega⟩
  obtain ⟨⟨⟨x, a, b, c⟩, er⟩, hr⟩ : ∃ q, readE S = q := ⟨_, rfl⟩
  obtain ⟨X, hX⟩ : ∃ X, bytesE (n, A, B, C) = X := ⟨_, rfl⟩
  have hXl : X.length ≤ 1000 := by
    rw [← hX]
    unfold bytesE
    have := tNum_le 115 n.toNat
    simp only [List.length_append, tText_length]
    omega
  obtain ⟨v, hv⟩ : ∃ v, checkE (n, A, B, C) = v := ⟨_, rfl⟩
  have hback := bytes_back n A B C (by omega) fA fB fC
  rw [hv, hX] at hback
  have HA := Lib.hid hA
  have HB := Lib.hid hB
  have HC := Lib.hid hC
  have HR := Lib.hid hr
  have HX := Lib.hid hX
  have HV := Lib.hid hv
  have HBK := Lib.hid hback
  clear hA hB hC hr hX hv hback wn
  rcases hS with ⟨hlong, hS⟩ | ⟨rfl, hlong⟩
  all_goals
    go_enter Try.func13, Try.ntmps13
    go_wp2_with fail
    have F0 := Lib.hid (Blk.new w 35 #[.int .i64 n, str a', str b', str c'])
    have hb0 := (Below.refl w.heap.size w).alloc (Nat.le_refl _) (.cells #[.int .i64 n, str a', str b', str c'] 35)
    refine (awake15_any _).mono ?_
    rintro e w1 ⟨rfl, hq⟩
    have hb1 := bel_step hb0 hq
    have F1 := Lib.hid (Blk.step F0.out hq)
    obtain ⟨d0, d1, d2, d3, f0, f1, f2, f3⟩ := cells4 F1.out
    clear hq hb0 F0
    go_wp2_with fail
    refine (small_any n a' b' c' _).mono ?_
    rw [HA.out, HB.out, HC.out]
    rintro e w2 ⟨rfl, hq⟩
    have hb2 := bel_step hb1 hq
    have F2 := Lib.hid (Blk.step F1.out hq)
    clear d0 d1 d2 d3 f0 f1 f2 f3
    obtain ⟨d0, d1, d2, d3, f0, f1, f2, f3⟩ := cells4 F2.out
    clear hq hb1 F1
    go_wp2_with fail
    have F3 := Lib.hid (show Blk ((((w2.setCell ⟨w.heap.size, 0, none⟩ (.int .i64 n)).setCell ⟨w.heap.size, 1, none⟩ (str A)).setCell ⟨w.heap.size, 2, none⟩ (str B)).setCell ⟨w.heap.size, 3, none⟩ (str C)) w.heap.size 35 #[.int .i64 n, str A, str B, str C] from (((F2.out.set_ 0 (.int .i64 n)).set_ 1 (str A)).set_ 2 (str B)).set_ 3 (str C))
    have hb3 : Below w.heap.size w ((((w2.setCell ⟨w.heap.size, 0, none⟩ (.int .i64 n)).setCell ⟨w.heap.size, 1, none⟩ (str A)).setCell ⟨w.heap.size, 2, none⟩ (str B)).setCell ⟨w.heap.size, 3, none⟩ (str C)) := (((hb2.setCell (p := ⟨w.heap.size, 0, none⟩) (Nat.le_refl _) _).setCell (p := ⟨w.heap.size, 1, none⟩) (Nat.le_refl _) _).setCell (p := ⟨w.heap.size, 2, none⟩) (Nat.le_refl _) _).setCell (p := ⟨w.heap.size, 3, none⟩) (Nat.le_refl _) _
    clear d0 d1 d2 d3 f0 f1 f2 f3 F2 hb2
    generalize (((w2.setCell ⟨w.heap.size, 0, none⟩ (.int .i64 n)).setCell ⟨w.heap.size, 1, none⟩ (str A)).setCell ⟨w.heap.size, 2, none⟩ (str B)).setCell ⟨w.heap.size, 3, none⟩ (str C) = w3 at *
    refine (linkRead_any S x a b c er _ HR.out (by omega)).mono ?_
    rintro e w4 ⟨rfl, hq⟩
    have hb4 := bel_step hb3 hq
    have F4 := Lib.hid (F3.out.step hq)
    have z4 := hb4.size
    clear hq hb3 F3
    go_wp2_with fail
    have F5 := Lib.hid (F4.out.alloc (.cells #[.int .i64 x, str a, str b, str c] 35))
    have A5 := Lib.hid (Blk.new w4 35 #[.int .i64 x, str a, str b, str c])
    have hb5 := hb4.alloc z4 (.cells #[.int .i64 x, str a, str b, str c] 35)
    clear F4 hb4
    generalize w4.alloc (.cells #[.int .i64 x, str a, str b, str c] 35) = w5 at *
    generalize w4.heap.size = gA at *
    refine (refLinkRead_any S x a b c er _ HR.out (by omega)).mono ?_
    rintro e w6 ⟨rfl, hq⟩
    have hb6 := bel_step hb5 hq
    have F6 := Lib.hid (F5.out.step hq)
    have A6 := Lib.hid (A5.out.step hq)
    have z6 := hb6.size
    clear hq hb5 F5 A5
    have y6 := Blk.lt F6.out
    obtain ⟨d0, d1, d2, d3, -⟩ := cells4 F6.out
    go_wp2_with fail
    clear d0 d1 d2 d3 y6
    have F7 := Lib.hid (F6.out.alloc (.cells #[.int .i64 x, str a, str b, str c] 35))
    have A7 := Lib.hid (A6.out.alloc (.cells #[.int .i64 x, str a, str b, str c] 35))
    have B7 := Lib.hid (Blk.new w6 35 #[.int .i64 x, str a, str b, str c])
    have hb7 := hb6.alloc z6 (.cells #[.int .i64 x, str a, str b, str c] 35)
    clear F6 A6 hb6
    generalize w6.alloc (.cells #[.int .i64 x, str a, str b, str c] 35) = w7 at *
    generalize w6.heap.size = gB at *
    refine (bytes_any n A B C X _ HX.out (by omega) (by omega) (by omega) (by omega)).mono ?_
    rintro e w8 ⟨rfl, hq⟩
    have hb8 := bel_step hb7 hq
    have F8 := Lib.hid (F7.out.step hq)
    have A8 := Lib.hid (A7.out.step hq)
    have B8 := Lib.hid (B7.out.step hq)
    clear hq hb7 F7 A7 B7
    go_wp2_with fail
    have hback := HBK.out
    cases v
    · rw [if_neg (by simp)] at hback
      refine (linkRead_any X 0 [] [] [] 10 _ hback (by omega)).mono ?_
      rintro e w9 ⟨rfl, hq⟩
      have hb9 := bel_step hb8 hq
      have F9 := Lib.hid (F8.out.step hq)
      have A9 := Lib.hid (A8.out.step hq)
      have B9 := Lib.hid (B8.out.step hq)
      have z9 := hb9.size
      clear hq hb8 F8 A8 B8 hback
      have y9 := Blk.lt F9.out
      obtain ⟨d0, d1, d2, d3, -⟩ := cells4 F9.out
      go_wp2_with fail
      clear d0 d1 d2 d3 y9
      have F10 := Lib.hid (F9.out.alloc (.cells #[.int .i64 0, str [], str [], str []] 35))
      have A10 := Lib.hid (A9.out.alloc (.cells #[.int .i64 0, str [], str [], str []] 35))
      have B10 := Lib.hid (B9.out.alloc (.cells #[.int .i64 0, str [], str [], str []] 35))
      have C10 := Lib.hid (Blk.new w9 35 #[.int .i64 0, str [], str [], str []])
      have hb10 := hb9.alloc z9 (.cells #[.int .i64 0, str [], str [], str []] 35)
      clear F9 A9 B9 hb9
      generalize w9.alloc (.cells #[.int .i64 0, str [], str [], str []] 35) = w10 at *
      generalize w9.heap.size = gC at *
      refine (refCheck_any n A B C false _ HV.out (by unfold Fits; omega) (by unfold Fits; omega) (by unfold Fits; omega)).mono ?_
      rintro e W ⟨rfl, hq⟩
      have hbW := bel_step hb10 hq
      have F11 := F10.out.step hq
      have A11 := A10.out.step hq
      have B11 := B10.out.step hq
      have C11 := C10.out.step hq
      clear hq hb10 F10 A10 B10 C10
      go_wp2_with fail
      generalize hEq : w.heap.size = gE at *
      have HEq := Lib.hid hEq
      clear hEq
      obtain ⟨e0, e1, e2, e3, -⟩ := cells4 F11
      obtain ⟨a0, a1, a2, a3, -⟩ := cells4 A11
      obtain ⟨b0, b1, b2, b3, -⟩ := cells4 B11
      obtain ⟨t0, t1, t2, t3, -⟩ := cells4 C11
      clear F11 A11 B11 C11
      refine until_begin 34 (fun w' => (w'.cell? ⟨gE, 0, none⟩ = some (.int .i64 n) ∧ w'.cell? ⟨gE, 1, none⟩ = some (str A) ∧ w'.cell? ⟨gE, 2, none⟩ = some (str B) ∧ w'.cell? ⟨gE, 3, none⟩ = some (str C)) ∧ (w'.cell? ⟨gA, 0, none⟩ = some (.int .i64 x) ∧ w'.cell? ⟨gA, 1, none⟩ = some (str a) ∧ w'.cell? ⟨gA, 2, none⟩ = some (str b) ∧ w'.cell? ⟨gA, 3, none⟩ = some (str c)) ∧ (w'.cell? ⟨gB, 0, none⟩ = some (.int .i64 x) ∧ w'.cell? ⟨gB, 1, none⟩ = some (str a) ∧ w'.cell? ⟨gB, 2, none⟩ = some (str b) ∧ w'.cell? ⟨gB, 3, none⟩ = some (str c)) ∧ (w'.cell? ⟨gC, 0, none⟩ = some (.int .i64 0) ∧ w'.cell? ⟨gC, 1, none⟩ = some (str []) ∧ w'.cell? ⟨gC, 2, none⟩ = some (str []) ∧ w'.cell? ⟨gC, 3, none⟩ = some (str [])) ∧ Hid (Below gE w w')) (by kernel_rfl) ⟨⟨e0, e1, e2, e3⟩, ⟨a0, a1, a2, a3⟩, ⟨b0, b1, b2, b3⟩, ⟨t0, t1, t2, t3⟩, Lib.hid hbW.drew⟩ (fun hS => ?_)
      refine until_take 0 (some 39) (u := ?_) rfl rfl (by kernel_rfl) (by kernel_rfl) (by kernel_rfl) (by kernel_rfl) (fun _ _ _ h => h) (by rfl) (fun wS hv => ?_) hS ?_
      rotate_left
      · clear hv
        go_simp
        all_goals with_reducible rfl
      try simp only [Act.put, List.setIfInBounds_toArray, List.set]
      refine until_take 1 (some 40) (u := ?_) rfl rfl (by kernel_rfl) (by kernel_rfl) (by kernel_rfl) (by kernel_rfl) (fun _ _ _ h => h) (by rfl) (fun wS hv => ?_) hS ?_
      rotate_left
      · clear hv
        go_simp
        all_goals with_reducible rfl
      try simp only [Act.put, List.setIfInBounds_toArray, List.set]
      refine until_take 2 (some 41) (u := ?_) rfl rfl (by kernel_rfl) (by kernel_rfl) (by kernel_rfl) (by kernel_rfl) (fun _ _ _ h => h) (by rfl) (fun wS hv => ?_) hS ?_
      rotate_left
      · obtain ⟨⟨k0, k1, k2, k3⟩, ⟨a0, a1, a2, a3⟩, ⟨b0, b1, b2, b3⟩, ⟨t0, t1, t2, t3⟩, -⟩ := hv
        go_simp
        all_goals with_reducible rfl
      try simp only [Act.put, List.setIfInBounds_toArray, List.set]
      refine until_take 3 (some 42) (u := ?_) rfl rfl (by kernel_rfl) (by kernel_rfl) (by kernel_rfl) (by kernel_rfl) (fun _ _ _ h => h) (by rfl) (fun wS hv => ?_) hS ?_
      rotate_left
      · obtain ⟨⟨k0, k1, k2, k3⟩, ⟨a0, a1, a2, a3⟩, ⟨b0, b1, b2, b3⟩, ⟨t0, t1, t2, t3⟩, -⟩ := hv
        go_simp
        all_goals with_reducible rfl
      try simp only [Act.put, List.setIfInBounds_toArray, List.set]
      refine until_take 4 (some 43) (u := ?_) rfl rfl (by kernel_rfl) (by kernel_rfl) (by kernel_rfl) (by kernel_rfl) (fun _ _ _ h => h) (by rfl) (fun wS hv => ?_) hS ?_
      rotate_left
      · clear hv
        go_simp
        all_goals with_reducible rfl
      try simp only [Act.put, List.setIfInBounds_toArray, List.set]
      refine until_take 5 (some 44) (u := ?_) rfl rfl (by kernel_rfl) (by kernel_rfl) (by kernel_rfl) (by kernel_rfl) (fun _ _ _ h => h) (by rfl) (fun wS hv => ?_) hS ?_
      rotate_left
      · clear hv
        go_simp
        all_goals with_reducible rfl
      try simp only [Act.put, List.setIfInBounds_toArray, List.set]
      refine until_take 6 (some 45) (u := ?_) rfl rfl (by kernel_rfl) (by kernel_rfl) (by kernel_rfl) (by kernel_rfl) (fun _ _ _ h => h) (by rfl) (fun wS hv => ?_) hS ?_
      rotate_left
      · clear hv
        go_simp
        all_goals with_reducible rfl
      try simp only [Act.put, List.setIfInBounds_toArray, List.set]
      refine until_take 7 (some 46) (u := ?_) rfl rfl (by kernel_rfl) (by kernel_rfl) (by kernel_rfl) (by kernel_rfl) (fun _ _ _ h => h) (by rfl) (fun wS hv => ?_) hS ?_
      rotate_left
      · clear hv
        go_simp
        all_goals with_reducible rfl
      try simp only [Act.put, List.setIfInBounds_toArray, List.set]
      refine until_take 8 (some 47) (u := ?_) rfl rfl (by kernel_rfl) (by kernel_rfl) (by kernel_rfl) (by kernel_rfl) (fun _ _ _ h => h) (by rfl) (fun wS hv => ?_) hS ?_
      rotate_left
      · clear hv
        go_simp
        all_goals with_reducible rfl
      try simp only [Act.put, List.setIfInBounds_toArray, List.set]
      refine until_take 9 (some 48) (u := ?_) rfl rfl (by kernel_rfl) (by kernel_rfl) (by kernel_rfl) (by kernel_rfl) (fun _ _ _ h => h) (by rfl) (fun wS hv => ?_) hS ?_
      rotate_left
      · clear hv
        go_simp
        all_goals with_reducible rfl
      try simp only [Act.put, List.setIfInBounds_toArray, List.set]
      refine until_take 10 (some 49) (u := ?_) rfl rfl (by kernel_rfl) (by kernel_rfl) (by kernel_rfl) (by kernel_rfl) (fun _ _ _ h => h) (by rfl) (fun wS hv => ?_) hS ?_
      rotate_left
      · clear hv
        go_simp
        all_goals with_reducible rfl
      try simp only [Act.put, List.setIfInBounds_toArray, List.set]
      refine until_take 11 (some 50) (u := ?_) rfl rfl (by kernel_rfl) (by kernel_rfl) (by kernel_rfl) (by kernel_rfl) (fun _ _ _ h => h) (by rfl) (fun wS hv => ?_) hS ?_
      rotate_left
      · clear hv
        go_simp
        all_goals with_reducible rfl
      try simp only [Act.put, List.setIfInBounds_toArray, List.set]
      refine until_take 12 (some 51) (u := ?_) rfl rfl (by kernel_rfl) (by kernel_rfl) (by kernel_rfl) (by kernel_rfl) (fun _ _ _ h => h) (by rfl) (fun wS hv => ?_) hS ?_
      rotate_left
      · obtain ⟨⟨k0, k1, k2, k3⟩, ⟨a0, a1, a2, a3⟩, ⟨b0, b1, b2, b3⟩, ⟨t0, t1, t2, t3⟩, -⟩ := hv
        go_simp
        all_goals with_reducible rfl
      try simp only [Act.put, List.setIfInBounds_toArray, List.set]
      refine until_take 14 (some 53) (u := ?_) rfl rfl (by kernel_rfl) (by kernel_rfl) (by kernel_rfl) (by kernel_rfl) (fun _ _ _ h => h) (by rfl) (fun wS hv => ?_) hS ?_
      rotate_left
      · obtain ⟨⟨k0, k1, k2, k3⟩, ⟨a0, a1, a2, a3⟩, ⟨b0, b1, b2, b3⟩, ⟨t0, t1, t2, t3⟩, -⟩ := hv
        go_simp
        all_goals with_reducible rfl
      try simp only [Act.put, List.setIfInBounds_toArray, List.set]
      refine until_one 13 (by kernel_rfl) rfl (fun K hK => ?_)
      go_simp
      refine (bytes_any n A B C X _ HX.out (by omega) (by omega) (by omega) (by omega)).mono ?_
      rintro e wc ⟨rfl, hbc⟩
      refine hK.out _ _ (keep16 hbc hS) (fun hS => ?_)
      clear hK K
      try simp only [Act.put, List.setIfInBounds_toArray, List.set]
      refine until_one 15 (by kernel_rfl) rfl (fun K hK => ?_)
      go_simp
      refine (refBytes_any n A B C X _ HX.out (by omega) (by omega) (by omega) (by omega)).mono ?_
      rintro e wd ⟨rfl, hbd⟩
      refine hK.out _ _ (keep16 hbd hS) (fun hS => ?_)
      clear hK K
      try simp only [Act.put, List.setIfInBounds_toArray, List.set]
      refine until_take 16 (some 55) (u := ?_) rfl rfl (by kernel_rfl) (by kernel_rfl) (by kernel_rfl) (by kernel_rfl) (fun _ _ _ h => h) (by rfl) (fun wS hv => ?_) hS ?_
      rotate_left
      · clear hv
        go_simp
        all_goals with_reducible rfl
      try simp only [Act.put, List.setIfInBounds_toArray, List.set]
      refine until_take 17 (some 56) (u := ?_) rfl rfl (by kernel_rfl) (by kernel_rfl) (by kernel_rfl) (by kernel_rfl) (fun _ _ _ h => h) (by rfl) (fun wS hv => ?_) hS ?_
      rotate_left
      · clear hv
        go_simp
        all_goals with_reducible rfl
      try simp only [Act.put, List.setIfInBounds_toArray, List.set]
      refine until_take 18 (some 57) (u := ?_) rfl rfl (by kernel_rfl) (by kernel_rfl) (by kernel_rfl) (by kernel_rfl) (fun _ _ _ h => h) (by rfl) (fun wS hv => ?_) hS ?_
      rotate_left
      · clear hv
        go_simp
        all_goals with_reducible rfl
      try simp only [Act.put, List.setIfInBounds_toArray, List.set]
      refine until_take 19 (some 58) (u := ?_) rfl rfl (by kernel_rfl) (by kernel_rfl) (by kernel_rfl) (by kernel_rfl) (fun _ _ _ h => h) (by rfl) (fun wS hv => ?_) hS ?_
      rotate_left
      · clear hv
        go_simp
        all_goals with_reducible rfl
      try simp only [Act.put, List.setIfInBounds_toArray, List.set]
      refine until_take 20 (some 59) (u := ?_) rfl rfl (by kernel_rfl) (by kernel_rfl) (by kernel_rfl) (by kernel_rfl) (fun _ _ _ h => h) (by rfl) (fun wS hv => ?_) hS ?_
      rotate_left
      · clear hv
        go_simp
        all_goals with_reducible rfl
      try simp only [Act.put, List.setIfInBounds_toArray, List.set]
      refine until_take 21 (some 60) (u := ?_) rfl rfl (by kernel_rfl) (by kernel_rfl) (by kernel_rfl) (by kernel_rfl) (fun _ _ _ h => h) (by rfl) (fun wS hv => ?_) hS ?_
      rotate_left
      · clear hv
        go_simp
        all_goals with_reducible rfl
      try simp only [Act.put, List.setIfInBounds_toArray, List.set]
      refine until_take 22 (some 61) (u := ?_) rfl rfl (by kernel_rfl) (by kernel_rfl) (by kernel_rfl) (by kernel_rfl) (fun _ _ _ h => h) (by rfl) (fun wS hv => ?_) hS ?_
      rotate_left
      · clear hv
        go_simp
        all_goals with_reducible rfl
      try simp only [Act.put, List.setIfInBounds_toArray, List.set]
      refine until_take 23 (some 62) (u := ?_) rfl rfl (by kernel_rfl) (by kernel_rfl) (by kernel_rfl) (by kernel_rfl) (fun _ _ _ h => h) (by rfl) (fun wS hv => ?_) hS ?_
      rotate_left
      · clear hv
        go_simp
        all_goals with_reducible rfl
      try simp only [Act.put, List.setIfInBounds_toArray, List.set]
      refine until_take 24 (some 63) (u := ?_) rfl rfl (by kernel_rfl) (by kernel_rfl) (by kernel_rfl) (by kernel_rfl) (fun _ _ _ h => h) (by rfl) (fun wS hv => ?_) hS ?_
      rotate_left
      · clear hv
        go_simp
        all_goals with_reducible rfl
      try simp only [Act.put, List.setIfInBounds_toArray, List.set]
      refine until_take 25 (some 64) (u := ?_) rfl rfl (by kernel_rfl) (by kernel_rfl) (by kernel_rfl) (by kernel_rfl) (fun _ _ _ h => h) (by rfl) (fun wS hv => ?_) hS ?_
      rotate_left
      · clear hv
        go_simp
        all_goals with_reducible rfl
      try simp only [Act.put, List.setIfInBounds_toArray, List.set]
      refine until_take 26 (some 65) (u := ?_) rfl rfl (by kernel_rfl) (by kernel_rfl) (by kernel_rfl) (by kernel_rfl) (fun _ _ _ h => h) (by rfl) (fun wS hv => ?_) hS ?_
      rotate_left
      · clear hv
        go_simp
        all_goals with_reducible rfl
      try simp only [Act.put, List.setIfInBounds_toArray, List.set]
      refine until_take 27 (some 66) (u := ?_) rfl rfl (by kernel_rfl) (by kernel_rfl) (by kernel_rfl) (by kernel_rfl) (fun _ _ _ h => h) (by rfl) (fun wS hv => ?_) hS ?_
      rotate_left
      · clear hv
        go_simp
        all_goals with_reducible rfl
      try simp only [Act.put, List.setIfInBounds_toArray, List.set]
      refine until_skip 28 (some 67) rfl rfl (by kernel_rfl) (by kernel_rfl) (by kernel_rfl) (by kernel_rfl) (fun _ _ _ h => h) (by rfl) hS ?_
      try simp only [Act.put, List.setIfInBounds_toArray, List.set]
      refine until_skip 29 (some 68) rfl rfl (by kernel_rfl) (by kernel_rfl) (by kernel_rfl) (by kernel_rfl) (fun _ _ _ h => h) (by rfl) hS ?_
      try simp only [Act.put, List.setIfInBounds_toArray, List.set]
      refine until_skip 30 (some 69) rfl rfl (by kernel_rfl) (by kernel_rfl) (by kernel_rfl) (by kernel_rfl) (fun _ _ _ h => h) (by rfl) hS ?_
      try simp only [Act.put, List.setIfInBounds_toArray, List.set]
      refine until_take 31 (some 70) (u := ?_) rfl rfl (by kernel_rfl) (by kernel_rfl) (by kernel_rfl) (by kernel_rfl) (fun _ _ _ h => h) (by rfl) (fun wS hv => ?_) hS ?_
      rotate_left
      · clear hv
        go_simp
        all_goals with_reducible rfl
      try simp only [Act.put, List.setIfInBounds_toArray, List.set]
      refine until_take 32 (some 71) (u := ?_) rfl rfl (by kernel_rfl) (by kernel_rfl) (by kernel_rfl) (by kernel_rfl) (fun _ _ _ h => h) (by rfl) (fun wS hv => ?_) hS ?_
      rotate_left
      · clear hv
        go_simp
        all_goals with_reducible rfl
      try simp only [Act.put, List.setIfInBounds_toArray, List.set]
      refine until_take 33 (some 4) (u := ?_) rfl rfl (by kernel_rfl) (by kernel_rfl) (by kernel_rfl) (by kernel_rfl) (fun _ _ _ h => h) (by rfl) (fun wS hv => ?_) hS ?_
      rotate_left
      · clear hv
        go_simp
        all_goals with_reducible rfl
      try simp only [Act.put, List.setIfInBounds_toArray, List.set]
      refine until_done (by kernel_rfl) ?_
      obtain ⟨-, -, -, -, hR⟩ := hS
      go_wp2
      go_ret
      exact ⟨rfl, by rw [HEq.out]; exact hR.out⟩
    · rw [if_pos rfl] at hback
      refine (linkRead_any X n A B C 0 _ hback (by omega)).mono ?_
      rintro e w9 ⟨rfl, hq⟩
      have hb9 := bel_step hb8 hq
      have F9 := Lib.hid (F8.out.step hq)
      have A9 := Lib.hid (A8.out.step hq)
      have B9 := Lib.hid (B8.out.step hq)
      have z9 := hb9.size
      clear hq hb8 F8 A8 B8 hback
      have y9 := Blk.lt F9.out
      obtain ⟨d0, d1, d2, d3, -⟩ := cells4 F9.out
      go_wp2_with fail
      clear d0 d1 d2 d3 y9
      have F10 := Lib.hid (F9.out.alloc (.cells #[.int .i64 n, str A, str B, str C] 35))
      have A10 := Lib.hid (A9.out.alloc (.cells #[.int .i64 n, str A, str B, str C] 35))
      have B10 := Lib.hid (B9.out.alloc (.cells #[.int .i64 n, str A, str B, str C] 35))
      have C10 := Lib.hid (Blk.new w9 35 #[.int .i64 n, str A, str B, str C])
      have hb10 := hb9.alloc z9 (.cells #[.int .i64 n, str A, str B, str C] 35)
      clear F9 A9 B9 hb9
      generalize w9.alloc (.cells #[.int .i64 n, str A, str B, str C] 35) = w10 at *
      generalize w9.heap.size = gC at *
      refine (refCheck_any n A B C true _ HV.out (by unfold Fits; omega) (by unfold Fits; omega) (by unfold Fits; omega)).mono ?_
      rintro e W ⟨rfl, hq⟩
      have hbW := bel_step hb10 hq
      have F11 := F10.out.step hq
      have A11 := A10.out.step hq
      have B11 := B10.out.step hq
      have C11 := C10.out.step hq
      clear hq hb10 F10 A10 B10 C10
      go_wp2_with fail
      generalize hEq : w.heap.size = gE at *
      have HEq := Lib.hid hEq
      clear hEq
      obtain ⟨e0, e1, e2, e3, -⟩ := cells4 F11
      obtain ⟨a0, a1, a2, a3, -⟩ := cells4 A11
      obtain ⟨b0, b1, b2, b3, -⟩ := cells4 B11
      obtain ⟨t0, t1, t2, t3, -⟩ := cells4 C11
      clear F11 A11 B11 C11
      refine until_begin 34 (fun w' => (w'.cell? ⟨gE, 0, none⟩ = some (.int .i64 n) ∧ w'.cell? ⟨gE, 1, none⟩ = some (str A) ∧ w'.cell? ⟨gE, 2, none⟩ = some (str B) ∧ w'.cell? ⟨gE, 3, none⟩ = some (str C)) ∧ (w'.cell? ⟨gA, 0, none⟩ = some (.int .i64 x) ∧ w'.cell? ⟨gA, 1, none⟩ = some (str a) ∧ w'.cell? ⟨gA, 2, none⟩ = some (str b) ∧ w'.cell? ⟨gA, 3, none⟩ = some (str c)) ∧ (w'.cell? ⟨gB, 0, none⟩ = some (.int .i64 x) ∧ w'.cell? ⟨gB, 1, none⟩ = some (str a) ∧ w'.cell? ⟨gB, 2, none⟩ = some (str b) ∧ w'.cell? ⟨gB, 3, none⟩ = some (str c)) ∧ (w'.cell? ⟨gC, 0, none⟩ = some (.int .i64 n) ∧ w'.cell? ⟨gC, 1, none⟩ = some (str A) ∧ w'.cell? ⟨gC, 2, none⟩ = some (str B) ∧ w'.cell? ⟨gC, 3, none⟩ = some (str C)) ∧ Hid (Below gE w w')) (by kernel_rfl) ⟨⟨e0, e1, e2, e3⟩, ⟨a0, a1, a2, a3⟩, ⟨b0, b1, b2, b3⟩, ⟨t0, t1, t2, t3⟩, Lib.hid hbW.drew⟩ (fun hS => ?_)
      refine until_take 0 (some 39) (u := ?_) rfl rfl (by kernel_rfl) (by kernel_rfl) (by kernel_rfl) (by kernel_rfl) (fun _ _ _ h => h) (by rfl) (fun wS hv => ?_) hS ?_
      rotate_left
      · clear hv
        go_simp
        all_goals with_reducible rfl
      try simp only [Act.put, List.setIfInBounds_toArray, List.set]
      refine until_take 1 (some 40) (u := ?_) rfl rfl (by kernel_rfl) (by kernel_rfl) (by kernel_rfl) (by kernel_rfl) (fun _ _ _ h => h) (by rfl) (fun wS hv => ?_) hS ?_
      rotate_left
      · clear hv
        go_simp
        all_goals with_reducible rfl
      try simp only [Act.put, List.setIfInBounds_toArray, List.set]
      refine until_take 2 (some 41) (u := ?_) rfl rfl (by kernel_rfl) (by kernel_rfl) (by kernel_rfl) (by kernel_rfl) (fun _ _ _ h => h) (by rfl) (fun wS hv => ?_) hS ?_
      rotate_left
      · obtain ⟨⟨k0, k1, k2, k3⟩, ⟨a0, a1, a2, a3⟩, ⟨b0, b1, b2, b3⟩, ⟨t0, t1, t2, t3⟩, -⟩ := hv
        go_simp
        all_goals with_reducible rfl
      try simp only [Act.put, List.setIfInBounds_toArray, List.set]
      refine until_take 3 (some 42) (u := ?_) rfl rfl (by kernel_rfl) (by kernel_rfl) (by kernel_rfl) (by kernel_rfl) (fun _ _ _ h => h) (by rfl) (fun wS hv => ?_) hS ?_
      rotate_left
      · obtain ⟨⟨k0, k1, k2, k3⟩, ⟨a0, a1, a2, a3⟩, ⟨b0, b1, b2, b3⟩, ⟨t0, t1, t2, t3⟩, -⟩ := hv
        go_simp
        all_goals with_reducible rfl
      try simp only [Act.put, List.setIfInBounds_toArray, List.set]
      refine until_take 4 (some 43) (u := ?_) rfl rfl (by kernel_rfl) (by kernel_rfl) (by kernel_rfl) (by kernel_rfl) (fun _ _ _ h => h) (by rfl) (fun wS hv => ?_) hS ?_
      rotate_left
      · clear hv
        go_simp
        all_goals with_reducible rfl
      try simp only [Act.put, List.setIfInBounds_toArray, List.set]
      refine until_take 5 (some 44) (u := ?_) rfl rfl (by kernel_rfl) (by kernel_rfl) (by kernel_rfl) (by kernel_rfl) (fun _ _ _ h => h) (by rfl) (fun wS hv => ?_) hS ?_
      rotate_left
      · clear hv
        go_simp
        all_goals with_reducible rfl
      try simp only [Act.put, List.setIfInBounds_toArray, List.set]
      refine until_take 6 (some 45) (u := ?_) rfl rfl (by kernel_rfl) (by kernel_rfl) (by kernel_rfl) (by kernel_rfl) (fun _ _ _ h => h) (by rfl) (fun wS hv => ?_) hS ?_
      rotate_left
      · clear hv
        go_simp
        all_goals with_reducible rfl
      try simp only [Act.put, List.setIfInBounds_toArray, List.set]
      refine until_take 7 (some 46) (u := ?_) rfl rfl (by kernel_rfl) (by kernel_rfl) (by kernel_rfl) (by kernel_rfl) (fun _ _ _ h => h) (by rfl) (fun wS hv => ?_) hS ?_
      rotate_left
      · clear hv
        go_simp
        all_goals with_reducible rfl
      try simp only [Act.put, List.setIfInBounds_toArray, List.set]
      refine until_take 8 (some 47) (u := ?_) rfl rfl (by kernel_rfl) (by kernel_rfl) (by kernel_rfl) (by kernel_rfl) (fun _ _ _ h => h) (by rfl) (fun wS hv => ?_) hS ?_
      rotate_left
      · clear hv
        go_simp
        all_goals with_reducible rfl
      try simp only [Act.put, List.setIfInBounds_toArray, List.set]
      refine until_take 9 (some 48) (u := ?_) rfl rfl (by kernel_rfl) (by kernel_rfl) (by kernel_rfl) (by kernel_rfl) (fun _ _ _ h => h) (by rfl) (fun wS hv => ?_) hS ?_
      rotate_left
      · clear hv
        go_simp
        all_goals with_reducible rfl
      try simp only [Act.put, List.setIfInBounds_toArray, List.set]
      refine until_take 10 (some 49) (u := ?_) rfl rfl (by kernel_rfl) (by kernel_rfl) (by kernel_rfl) (by kernel_rfl) (fun _ _ _ h => h) (by rfl) (fun wS hv => ?_) hS ?_
      rotate_left
      · clear hv
        go_simp
        all_goals with_reducible rfl
      try simp only [Act.put, List.setIfInBounds_toArray, List.set]
      refine until_take 11 (some 50) (u := ?_) rfl rfl (by kernel_rfl) (by kernel_rfl) (by kernel_rfl) (by kernel_rfl) (fun _ _ _ h => h) (by rfl) (fun wS hv => ?_) hS ?_
      rotate_left
      · clear hv
        go_simp
        all_goals with_reducible rfl
      try simp only [Act.put, List.setIfInBounds_toArray, List.set]
      refine until_take 12 (some 51) (u := ?_) rfl rfl (by kernel_rfl) (by kernel_rfl) (by kernel_rfl) (by kernel_rfl) (fun _ _ _ h => h) (by rfl) (fun wS hv => ?_) hS ?_
      rotate_left
      · obtain ⟨⟨k0, k1, k2, k3⟩, ⟨a0, a1, a2, a3⟩, ⟨b0, b1, b2, b3⟩, ⟨t0, t1, t2, t3⟩, -⟩ := hv
        go_simp
        all_goals with_reducible rfl
      try simp only [Act.put, List.setIfInBounds_toArray, List.set]
      refine until_take 14 (some 53) (u := ?_) rfl rfl (by kernel_rfl) (by kernel_rfl) (by kernel_rfl) (by kernel_rfl) (fun _ _ _ h => h) (by rfl) (fun wS hv => ?_) hS ?_
      rotate_left
      · obtain ⟨⟨k0, k1, k2, k3⟩, ⟨a0, a1, a2, a3⟩, ⟨b0, b1, b2, b3⟩, ⟨t0, t1, t2, t3⟩, -⟩ := hv
        go_simp
        all_goals with_reducible rfl
      try simp only [Act.put, List.setIfInBounds_toArray, List.set]
      refine until_one 13 (by kernel_rfl) rfl (fun K hK => ?_)
      go_simp
      refine (bytes_any n A B C X _ HX.out (by omega) (by omega) (by omega) (by omega)).mono ?_
      rintro e wc ⟨rfl, hbc⟩
      refine hK.out _ _ (keep16 hbc hS) (fun hS => ?_)
      clear hK K
      try simp only [Act.put, List.setIfInBounds_toArray, List.set]
      refine until_one 15 (by kernel_rfl) rfl (fun K hK => ?_)
      go_simp
      refine (refBytes_any n A B C X _ HX.out (by omega) (by omega) (by omega) (by omega)).mono ?_
      rintro e wd ⟨rfl, hbd⟩
      refine hK.out _ _ (keep16 hbd hS) (fun hS => ?_)
      clear hK K
      try simp only [Act.put, List.setIfInBounds_toArray, List.set]
      refine until_take 16 (some 55) (u := ?_) rfl rfl (by kernel_rfl) (by kernel_rfl) (by kernel_rfl) (by kernel_rfl) (fun _ _ _ h => h) (by rfl) (fun wS hv => ?_) hS ?_
      rotate_left
      · clear hv
        go_simp
        all_goals with_reducible rfl
      try simp only [Act.put, List.setIfInBounds_toArray, List.set]
      refine until_take 17 (some 56) (u := ?_) rfl rfl (by kernel_rfl) (by kernel_rfl) (by kernel_rfl) (by kernel_rfl) (fun _ _ _ h => h) (by rfl) (fun wS hv => ?_) hS ?_
      rotate_left
      · clear hv
        go_simp
        all_goals with_reducible rfl
      try simp only [Act.put, List.setIfInBounds_toArray, List.set]
      refine until_take 18 (some 57) (u := ?_) rfl rfl (by kernel_rfl) (by kernel_rfl) (by kernel_rfl) (by kernel_rfl) (fun _ _ _ h => h) (by rfl) (fun wS hv => ?_) hS ?_
      rotate_left
      · clear hv
        go_simp
        all_goals with_reducible rfl
      try simp only [Act.put, List.setIfInBounds_toArray, List.set]
      refine until_take 19 (some 58) (u := ?_) rfl rfl (by kernel_rfl) (by kernel_rfl) (by kernel_rfl) (by kernel_rfl) (fun _ _ _ h => h) (by rfl) (fun wS hv => ?_) hS ?_
      rotate_left
      · clear hv
        go_simp
        all_goals with_reducible rfl
      try simp only [Act.put, List.setIfInBounds_toArray, List.set]
      refine until_take 20 (some 59) (u := ?_) rfl rfl (by kernel_rfl) (by kernel_rfl) (by kernel_rfl) (by kernel_rfl) (fun _ _ _ h => h) (by rfl) (fun wS hv => ?_) hS ?_
      rotate_left
      · clear hv
        go_simp
        all_goals with_reducible rfl
      try simp only [Act.put, List.setIfInBounds_toArray, List.set]
      refine until_take 21 (some 60) (u := ?_) rfl rfl (by kernel_rfl) (by kernel_rfl) (by kernel_rfl) (by kernel_rfl) (fun _ _ _ h => h) (by rfl) (fun wS hv => ?_) hS ?_
      rotate_left
      · clear hv
        go_simp
        all_goals with_reducible rfl
      try simp only [Act.put, List.setIfInBounds_toArray, List.set]
      refine until_take 22 (some 61) (u := ?_) rfl rfl (by kernel_rfl) (by kernel_rfl) (by kernel_rfl) (by kernel_rfl) (fun _ _ _ h => h) (by rfl) (fun wS hv => ?_) hS ?_
      rotate_left
      · clear hv
        go_simp
        all_goals with_reducible rfl
      try simp only [Act.put, List.setIfInBounds_toArray, List.set]
      refine until_take 23 (some 62) (u := ?_) rfl rfl (by kernel_rfl) (by kernel_rfl) (by kernel_rfl) (by kernel_rfl) (fun _ _ _ h => h) (by rfl) (fun wS hv => ?_) hS ?_
      rotate_left
      · clear hv
        go_simp
        all_goals with_reducible rfl
      try simp only [Act.put, List.setIfInBounds_toArray, List.set]
      refine until_take 24 (some 63) (u := ?_) rfl rfl (by kernel_rfl) (by kernel_rfl) (by kernel_rfl) (by kernel_rfl) (fun _ _ _ h => h) (by rfl) (fun wS hv => ?_) hS ?_
      rotate_left
      · clear hv
        go_simp
        all_goals with_reducible rfl
      try simp only [Act.put, List.setIfInBounds_toArray, List.set]
      refine until_take 25 (some 64) (u := ?_) rfl rfl (by kernel_rfl) (by kernel_rfl) (by kernel_rfl) (by kernel_rfl) (fun _ _ _ h => h) (by rfl) (fun wS hv => ?_) hS ?_
      rotate_left
      · clear hv
        go_simp
        all_goals with_reducible rfl
      try simp only [Act.put, List.setIfInBounds_toArray, List.set]
      refine until_take 26 (some 65) (u := ?_) rfl rfl (by kernel_rfl) (by kernel_rfl) (by kernel_rfl) (by kernel_rfl) (fun _ _ _ h => h) (by rfl) (fun wS hv => ?_) hS ?_
      rotate_left
      · clear hv
        go_simp
        all_goals with_reducible rfl
      try simp only [Act.put, List.setIfInBounds_toArray, List.set]
      refine until_take 27 (some 66) (u := ?_) rfl rfl (by kernel_rfl) (by kernel_rfl) (by kernel_rfl) (by kernel_rfl) (fun _ _ _ h => h) (by rfl) (fun wS hv => ?_) hS ?_
      rotate_left
      · clear hv
        go_simp
        all_goals with_reducible rfl
      try simp only [Act.put, List.setIfInBounds_toArray, List.set]
      refine until_take 28 (some 67) (u := ?_) rfl rfl (by kernel_rfl) (by kernel_rfl) (by kernel_rfl) (by kernel_rfl) (fun _ _ _ h => h) (by rfl) (fun wS hv => ?_) hS ?_
      rotate_left
      · obtain ⟨⟨k0, k1, k2, k3⟩, ⟨a0, a1, a2, a3⟩, ⟨b0, b1, b2, b3⟩, ⟨t0, t1, t2, t3⟩, -⟩ := hv
        go_simp
        all_goals with_reducible rfl
      try simp only [Act.put, List.setIfInBounds_toArray, List.set]
      refine until_take 29 (some 68) (u := ?_) rfl rfl (by kernel_rfl) (by kernel_rfl) (by kernel_rfl) (by kernel_rfl) (fun _ _ _ h => h) (by rfl) (fun wS hv => ?_) hS ?_
      rotate_left
      · obtain ⟨⟨k0, k1, k2, k3⟩, ⟨a0, a1, a2, a3⟩, ⟨b0, b1, b2, b3⟩, ⟨t0, t1, t2, t3⟩, -⟩ := hv
        go_simp
        all_goals with_reducible rfl
      try simp only [Act.put, List.setIfInBounds_toArray, List.set]
      refine until_take 30 (some 69) (u := ?_) rfl rfl (by kernel_rfl) (by kernel_rfl) (by kernel_rfl) (by kernel_rfl) (fun _ _ _ h => h) (by rfl) (fun wS hv => ?_) hS ?_
      rotate_left
      · clear hv
        go_simp
        all_goals with_reducible rfl
      try simp only [Act.put, List.setIfInBounds_toArray, List.set]
      refine until_take 31 (some 70) (u := ?_) rfl rfl (by kernel_rfl) (by kernel_rfl) (by kernel_rfl) (by kernel_rfl) (fun _ _ _ h => h) (by rfl) (fun wS hv => ?_) hS ?_
      rotate_left
      · clear hv
        go_simp
        all_goals with_reducible rfl
      try simp only [Act.put, List.setIfInBounds_toArray, List.set]
      refine until_take 32 (some 71) (u := ?_) rfl rfl (by kernel_rfl) (by kernel_rfl) (by kernel_rfl) (by kernel_rfl) (fun _ _ _ h => h) (by rfl) (fun wS hv => ?_) hS ?_
      rotate_left
      · clear hv
        go_simp
        all_goals with_reducible rfl
      try simp only [Act.put, List.setIfInBounds_toArray, List.set]
      refine until_take 33 (some 4) (u := ?_) rfl rfl (by kernel_rfl) (by kernel_rfl) (by kernel_rfl) (by kernel_rfl) (fun _ _ _ h => h) (by rfl) (fun wS hv => ?_) hS ?_
      rotate_left
      · clear hv
        go_simp
        all_goals with_reducible rfl
      try simp only [Act.put, List.setIfInBounds_toArray, List.set]
      refine until_done (by kernel_rfl) ?_
      obtain ⟨-, -, -, -, hR⟩ := hS
      go_wp2
      go_ret
      exact ⟨rfl, by rw [HEq.out]; exact hR.out⟩
end Go.Proofs.Ytlkgloakcpfnnaa

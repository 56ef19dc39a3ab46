/-
  What SlotsTorn of the statements' layer 7 returns: true. For any two marks and any place.
  The statement twinspanlaw07.SlotsTorn: for every input the law returns true, and its arguments read as before. The walk is in SlotsTorn; here is the row round it. No conditions.
-/
import Derived.Test.YtiighehibiijcaaMg6
import Derived.ProofKit
import Derived.OpenShut
import Derived.ShutString
import Derived.ChangeOld
import Derived.Below
namespace Go.Proofs.Ytiighehibiijcaa
open Go.RowKit
set_option linter.unusedSimpArgs false
set_option linter.unnecessarySimpa false
set_option linter.unusedVariables false

theorem there_blk {w : World} {g : Nat} {t : TypeId} {a b c : Value} (h : Blk w g t #[a, b, c]) (j : Nat) (hj : j < 3) : (w.cell? ⟨g, 0 + j, none⟩).isSome = true ∧ w.frozen? ⟨g, 0 + j, none⟩ = false := by
  refine ⟨?_, Blk.frozen h _⟩
  have h3 : j = 0 ∨ j = 1 ∨ j = 2 := by omega
  rcases h3 with rfl | rfl | rfl
  · rw [h.cell 0]; rfl
  · rw [h.cell 1]; rfl
  · rw [h.cell 2]; rfl
theorem blk_cells3 {w : World} {g : Nat} {t : TypeId} {a b c a' b' c' : Value} (h : Blk w g t #[a, b, c]) : Blk (w.setCells g 0 [a', b', c']) g t #[a', b', c'] ∧ (∀ i t' cs, i ≠ g → Blk w i t' cs → Blk (w.setCells g 0 [a', b', c']) i t' cs) ∧ ∀ B w0, Below B w0 w → B ≤ g → Below B w0 (w.setCells g 0 [a', b', c']) := by
  refine ⟨((h.set_ 0 a').set_ 1 b').set_ 2 c', fun i t' cs hi hb => ((hb.far (p := ⟨g, 0, none⟩) hi _).far (p := ⟨g, 1, none⟩) hi _).far (p := ⟨g, 2, none⟩) hi _, fun B w0 hb hg => ?_⟩
  exact ((hb.setCell (p := ⟨g, 0, none⟩) hg _).setCell (p := ⟨g, 1, none⟩) hg _).setCell (p := ⟨g, 2, none⟩) hg _

set_option maxRecDepth 100000 in
set_option maxHeartbeats 3200000 in
theorem slotsTorn_any (a0 a1 a2 b0 b1 b2 cut : Int) (w : World) :
    Calls Try.prog 9 #[.agg #[.int .i64 a0, .int .i64 a1, .int .i64 a2], .agg #[.int .i64 b0, .int .i64 b1, .int .i64 b2], .int .i64 cut] w fun e w' => e = .returned (.bool true) ∧ Below w.heap.size w w' := by
  obtain ⟨x0, hx0⟩ : ∃ x, a0 % 1099511627776 = x := ⟨_, rfl⟩
  obtain ⟨x1, hx1⟩ : ∃ x, a1 % 1099511627776 = x := ⟨_, rfl⟩
  obtain ⟨x2, hx2⟩ : ∃ x, a2 % 1099511627776 = x := ⟨_, rfl⟩
  obtain ⟨y0, hy0⟩ : ∃ x, b0 % 1099511627776 = x := ⟨_, rfl⟩
  obtain ⟨y1, hy1⟩ : ∃ x, b1 % 1099511627776 = x := ⟨_, rfl⟩
  obtain ⟨y2, hy2⟩ : ∃ x, b2 % 1099511627776 = x := ⟨_, rfl⟩
  have mx0 := (i64_and40 a0).trans hx0
  have mx1 := (i64_and40 a1).trans hx1
  have mx2 := (i64_and40 a2).trans hx2
  have my0 := (i64_and40 b0).trans hy0
  have my1 := (i64_and40 b1).trans hy1
  have my2 := (i64_and40 b2).trans hy2
  have HX := Lib.hid (show MkOk (x0, x1, x2) by unfold MkOk; simp only []; omega)
  have HY := Lib.hid (show MkOk (y0, y1, y2) by unfold MkOk; simp only []; omega)
  clear hx0 hx1 hx2 hy0 hy1 hy2
  go_enter Try.func9, Try.ntmps9
  go_wp2_with fail
  have HA := Lib.hid ((Blk.new w 62 #[.int .i64 a0, .int .i64 a1, .int .i64 a2]).alloc (.cells #[.int .i64 b0, .int .i64 b1, .int .i64 b2] 62))
  have HB := Lib.hid (Blk.new_at (w := w.alloc (.cells #[.int .i64 a0, .int .i64 a1, .int .i64 a2] 62)) (n := w.heap.size + 1) (by simp) 62 #[.int .i64 b0, .int .i64 b1, .int .i64 b2])
  have HW := Lib.hid (((Below.refl w.heap.size w).alloc (Nat.le_refl _) (.cells #[.int .i64 a0, .int .i64 a1, .int .i64 a2] 62)).alloc (by simp) (.cells #[.int .i64 b0, .int .i64 b1, .int .i64 b2] 62))
  obtain ⟨ga, hga⟩ : ∃ g, w.heap.size = g := ⟨_, rfl⟩
  obtain ⟨gb, hgb⟩ : ∃ g, w.heap.size + 1 = g := ⟨_, rfl⟩
  rw [hgb] at HB ⊢
  rw [hga] at HA ⊢
  generalize (w.alloc (.cells #[.int .i64 a0, .int .i64 a1, .int .i64 a2] 62)).alloc (.cells #[.int .i64 b0, .int .i64 b1, .int .i64 b2] 62) = w0 at HA HB HW ⊢
  refine (awake07_any _).mono ?_
  rintro e w1 ⟨rfl, hb1⟩
  have HA1 := Lib.hid (HA.out.step hb1)
  have HB1 := Lib.hid (HB.out.step hb1)
  have HW1 := Lib.hid (bel_step HW.out hb1)
  obtain ⟨p0, p1, p2, -, -, -⟩ := cells3 HA1.out
  obtain ⟨q0, q1, q2, -, -, -⟩ := cells3 HB1.out
  have la := HA1.out.lt
  have lb := HB1.out.lt
  clear hb1
  by_cases hxy : x0 = y0
  · have e1 : (x0 == y0) = true := by simpa using hxy
    clear hxy
    go_wp2_with fail
    go_ret
    exact ⟨rfl, (HW1.out.alloc HW1.out.size _).alloc (by have := HW1.out.size; simp; omega) _⟩
  have e1 : (x0 == y0) = false := by simpa using hxy
  have HNE := Lib.hid hxy
  clear hxy
  go_wp2_with fail
  have HX2 := Lib.hid ((Blk.new w1 62 #[.int .i64 x0, .int .i64 x1, .int .i64 x2]).alloc (.cells #[.int .i64 y0, .int .i64 y1, .int .i64 y2] 62))
  have HY2 := Lib.hid (Blk.new_at (w := w1.alloc (.cells #[.int .i64 x0, .int .i64 x1, .int .i64 x2] 62)) (n := w1.heap.size + 1) (by simp) 62 #[.int .i64 y0, .int .i64 y1, .int .i64 y2])
  have HW2 := Lib.hid ((HW1.out.alloc HW1.out.size (.cells #[.int .i64 x0, .int .i64 x1, .int .i64 x2] 62)).alloc (by have := HW1.out.size; simp; omega) (.cells #[.int .i64 y0, .int .i64 y1, .int .i64 y2] 62))
  obtain ⟨gx, hgx⟩ : ∃ g, w1.heap.size = g := ⟨_, rfl⟩
  obtain ⟨gy, hgy⟩ : ∃ g, w1.heap.size + 1 = g := ⟨_, rfl⟩
  rw [hgy] at HY2 ⊢
  rw [hgx] at HX2 ⊢
  change Calls _ _ _ ((w1.alloc (.cells #[.int .i64 x0, .int .i64 x1, .int .i64 x2] 62)).alloc (.cells #[.int .i64 y0, .int .i64 y1, .int .i64 y2] 62)) _
  generalize (w1.alloc (.cells #[.int .i64 x0, .int .i64 x1, .int .i64 x2] 62)).alloc (.cells #[.int .i64 y0, .int .i64 y1, .int .i64 y2] 62) = w2 at HX2 HY2 HW2 ⊢
  obtain ⟨k, hk⟩ : ∃ k : Nat, bits .and .i64 cut 63 = (k : Int) ∧ k < 64 := ⟨(cut % 64).toNat, by rw [i64_and6]; omega, by omega⟩
  obtain ⟨hk, hk64⟩ := hk
  have hk65 : (k : Int) ≤ 64 := by omega
  obtain ⟨s, hs⟩ : ∃ s, packS x0 x1 x2 = s ∧ s.length = 64 := ⟨_, rfl, packS_length _ _ _⟩
  obtain ⟨t, ht⟩ : ∃ t, packS y0 y1 y2 = t ∧ t.length = 64 := ⟨_, rfl, packS_length _ _ _⟩
  obtain ⟨hs, hsl⟩ := hs
  obtain ⟨ht, htl⟩ := ht
  obtain ⟨u, hu⟩ : ∃ u, s.take k ++ t.drop k = u := ⟨_, rfl⟩
  have hul : u.length = 64 := by rw [← hu, List.length_append, List.length_take, List.length_drop]; omega
  have hdr : List.take (64 - k) (List.drop k t) = List.drop k t := List.take_of_length_le (by rw [List.length_drop]; omega)
  have hmm : ∃ m ok, unpackR u = (m, ok) ∧ (ok = true → m = (x0, x1, x2) ∨ m = (y0, y1, y2)) := by
    rcases hun : unpackR u with ⟨m, ok⟩
    refine ⟨m, ok, rfl, fun h => ?_⟩
    subst h
    exact torn_unpack HX.out HY.out HNE.out (by show unpackR ((packS x0 x1 x2).take k ++ (packS y0 y1 y2).drop k) = (m, true); rw [hs, ht, hu]; exact hun)
  obtain ⟨⟨m0, m1, m2⟩, ok, hun, hcase⟩ := hmm
  have HPS := Lib.hid hs
  have HPT := Lib.hid ht
  have HUN := Lib.hid hun
  have HU := Lib.hid hu
  have HDR := Lib.hid hdr
  clear hs ht hun hu hdr hga hgb hgx hgy la lb p0 p1 p2 q0 q1 q2
  obtain ⟨r0, r1, r2, -, -, -⟩ := cells3 HX2.out
  refine (pack_any x0 x1 x2 _).mono ?_
  rw [HPS.out]
  rintro e w3 ⟨rfl, hb3⟩
  have HX3 := Lib.hid (HX2.out.step hb3)
  have HY3 := Lib.hid (HY2.out.step hb3)
  have HW3 := Lib.hid (bel_step HW2.out hb3)
  clear hb3 r0 r1 r2
  obtain ⟨r0, r1, r2, -, -, -⟩ := cells3 HY3.out
  go_wp2_with fail
  refine (pack_any y0 y1 y2 _).mono ?_
  rw [HPT.out]
  rintro e w4 ⟨rfl, hb4⟩
  have HX4 := Lib.hid (HX3.out.step hb4)
  have HY4 := Lib.hid (HY3.out.step hb4)
  have HW4 := Lib.hid (bel_step HW3.out hb4)
  clear hb4 r0 r1 r2
  have hcat : ¬ 9223372036854775807 < min k 64 + (64 - k) := by omega
  go_wp2_with fail
  refine until_begin 14 (fun _ => True) (by kernel_rfl) trivial (fun hS => ?_)
  refine until_take 0 (some 57) (u := ?_) rfl rfl (by kernel_rfl) (by kernel_rfl) (by kernel_rfl) (by kernel_rfl) (fun _ _ _ h => h) (by rfl) (fun wS hv => ?_) hS ?_
  rotate_left
  · clear hv
    go_simp
    all_goals with_reducible rfl
  try simp only [Act.put, List.setIfInBounds_toArray, List.set]
  refine until_take 1 (some 58) (u := ?_) rfl rfl (by kernel_rfl) (by kernel_rfl) (by kernel_rfl) (by kernel_rfl) (fun _ _ _ h => h) (by rfl) (fun wS hv => ?_) hS ?_
  rotate_left
  · clear hv
    go_simp
    all_goals with_reducible rfl
  try simp only [Act.put, List.setIfInBounds_toArray, List.set]
  refine until_take 2 (some 59) (u := ?_) rfl rfl (by kernel_rfl) (by kernel_rfl) (by kernel_rfl) (by kernel_rfl) (fun _ _ _ h => h) (by rfl) (fun wS hv => ?_) hS ?_
  rotate_left
  · clear hv
    go_simp
    all_goals with_reducible rfl
  try simp only [Act.put, List.setIfInBounds_toArray, List.set]
  refine until_take 3 (some 60) (u := ?_) rfl rfl (by kernel_rfl) (by kernel_rfl) (by kernel_rfl) (by kernel_rfl) (fun _ _ _ h => h) (by rfl) (fun wS hv => ?_) hS ?_
  rotate_left
  · clear hv
    go_simp
    all_goals with_reducible rfl
  try simp only [Act.put, List.setIfInBounds_toArray, List.set]
  refine until_take 4 (some 61) (u := ?_) rfl rfl (by kernel_rfl) (by kernel_rfl) (by kernel_rfl) (by kernel_rfl) (fun _ _ _ h => h) (by rfl) (fun wS hv => ?_) hS ?_
  rotate_left
  · clear hv
    go_simp
    all_goals with_reducible rfl
  try simp only [Act.put, List.setIfInBounds_toArray, List.set]
  refine until_take 5 (some 62) (u := ?_) rfl rfl (by kernel_rfl) (by kernel_rfl) (by kernel_rfl) (by kernel_rfl) (fun _ _ _ h => h) (by rfl) (fun wS hv => ?_) hS ?_
  rotate_left
  · clear hv
    go_simp
    all_goals with_reducible rfl
  try simp only [Act.put, List.setIfInBounds_toArray, List.set]
  refine until_take 6 (some 63) (u := ?_) rfl rfl (by kernel_rfl) (by kernel_rfl) (by kernel_rfl) (by kernel_rfl) (fun _ _ _ h => h) (by rfl) (fun wS hv => ?_) hS ?_
  rotate_left
  · clear hv
    go_simp
    all_goals with_reducible rfl
  try simp only [Act.put, List.setIfInBounds_toArray, List.set]
  refine until_two 7 11 (by kernel_rfl) rfl rfl (fun K hK => ?_) (fun K hK => ?_)
  · go_simp
    rw [HDR.out, HU.out]
    refine (unpack_any u (by omega) _ m0 m1 m2 ok HUN.out).mono ?_
    rintro e w5 ⟨rfl, hb5⟩
    have HX5 := Lib.hid (HX4.out.drew.step hb5)
    have HY5 := Lib.hid (HY4.out.drew.step hb5)
    have HW5 := Lib.hid (bel_step HW4.out.drew hb5)
    clear hb5
    refine hK.out _ _ trivial (fun hS => ?_)
    clear hK K
    try simp only [Act.put, List.setIfInBounds_toArray, List.set]
    refine until_take 8 (some 56) (u := ?_) rfl rfl (by kernel_rfl) (by kernel_rfl) (by kernel_rfl) (by kernel_rfl) (fun _ _ _ h => h) (by rfl) (fun wS hv => ?_) hS ?_
    rotate_left
    · clear hv
      go_simp
      all_goals with_reducible rfl
    try simp only [Act.put, List.setIfInBounds_toArray, List.set]
    refine until_take 9 (some 65) (u := ?_) rfl rfl (by kernel_rfl) (by kernel_rfl) (by kernel_rfl) (by kernel_rfl) (fun _ _ _ h => h) (by rfl) (fun wS hv => ?_) hS ?_
    rotate_left
    · clear hv
      go_simp
      all_goals with_reducible rfl
    try simp only [Act.put, List.setIfInBounds_toArray, List.set]
    refine until_take 10 (some 66) (u := ?_) rfl rfl (by kernel_rfl) (by kernel_rfl) (by kernel_rfl) (by kernel_rfl) (fun _ _ _ h => h) (by rfl) (fun wS hv => ?_) hS ?_
    rotate_left
    · clear hv
      go_simp
      all_goals with_reducible rfl
    try simp only [Act.put, List.setIfInBounds_toArray, List.set]
    refine until_one 11 (by kernel_rfl) rfl (fun K hK => ?_)
    go_simp
    have HM6 := Lib.hid (Blk.new w5 62 zeroMark)
    have HX6 := Lib.hid (HX5.out.alloc (.cells zeroMark 62))
    have HY6 := Lib.hid (HY5.out.alloc (.cells zeroMark 62))
    have HW6 := Lib.hid (HW5.out.alloc HW5.out.size (.cells zeroMark 62))
    have nx : gx ≠ w5.heap.size := Nat.ne_of_lt HX5.out.lt
    have ny : gy ≠ w5.heap.size := Nat.ne_of_lt HY5.out.lt
    have HGM := Lib.hid (show w.heap.size ≤ w5.heap.size from HW5.out.size)
    refine hK.out _ _ trivial (fun hS => ?_)
    clear hK K
    try simp only [Act.put, List.setIfInBounds_toArray, List.set]
    refine until_one 12 (by kernel_rfl) rfl (fun K hK => ?_)
    refine step_wp (by rfl) ?_
    refine wp_store_mid _ _ _ rfl w5.heap.size 0 #[.int .i64 m0, .int .i64 m1, .int .i64 m2] (by rfl) (by rfl) (fun j hj => there_blk HM6.out j hj) (by kernel_rfl) (by simp [Value.oneCell']) ?_
    obtain ⟨b1, b2, b3⟩ := blk_cells3 (a' := .int .i64 m0) (b' := .int .i64 m1) (c' := .int .i64 m2) HM6.out
    have HM7 := Lib.hid b1
    have HX7 := Lib.hid (b2 _ _ _ nx HX6.out)
    have HY7 := Lib.hid (b2 _ _ _ ny HY6.out)
    have HW7 := Lib.hid (b3 _ _ HW6.out HGM.out)
    clear b1 b2 b3
    change K _ ((w5.alloc (.cells zeroMark 62)).setCells w5.heap.size 0 [.int .i64 m0, .int .i64 m1, .int .i64 m2])
    generalize (w5.alloc (.cells zeroMark 62)).setCells w5.heap.size 0 [.int .i64 m0, .int .i64 m1, .int .i64 m2] = w7 at HM7 HX7 HY7 HW7 ⊢
    refine hK.out _ _ trivial (fun hS => ?_)
    clear hK K
    try simp only [Act.put, List.setIfInBounds_toArray, List.set]
    refine until_take 13 (some 14) (u := ?_) rfl rfl (by kernel_rfl) (by kernel_rfl) (by kernel_rfl) (by kernel_rfl) (fun _ _ _ h => h) (by rfl) (fun wS hv => ?_) hS ?_
    rotate_left
    · clear hv
      go_simp
      all_goals with_reducible rfl
    try simp only [Act.put, List.setIfInBounds_toArray, List.set]
    refine until_done (by kernel_rfl) ?_
    clear hS
    obtain ⟨r0, r1, r2, -, -, -⟩ := cells3 HM7.out
    obtain ⟨p0, p1, p2, -, -, -⟩ := cells3 HX7.out
    obtain ⟨q0, q1, q2, -, -, -⟩ := cells3 HY7.out
    have e2 : (y0 == x0) = false := by simpa using fun e => HNE.out e.symm
    have HCS := Lib.hid hcase
    clear hcase
    rcases ok with _ | _
    · go_wp2_with fail
      go_ret
      exact ⟨rfl, HW7.out⟩
    · rcases HCS.out rfl with hm | hm
      · simp only [Prod.mk.injEq] at hm
        obtain ⟨rfl, rfl, rfl⟩ := hm
        go_wp2_with fail
        go_ret
        exact ⟨rfl, HW7.out⟩
      · simp only [Prod.mk.injEq] at hm
        obtain ⟨rfl, rfl, rfl⟩ := hm
        go_wp2_with fail
        go_ret
        exact ⟨rfl, HW7.out⟩
  · go_simp
    refine hK.out _ _ trivial (fun hS => ?_)
    clear hK K
    try simp only [Act.put, List.setIfInBounds_toArray, List.set]
    refine until_one 7 (by kernel_rfl) rfl (fun K hK => ?_)
    go_simp
    rw [HDR.out, HU.out]
    refine (unpack_any u (by omega) _ m0 m1 m2 ok HUN.out).mono ?_
    rintro e w5 ⟨rfl, hb5⟩
    have HM5 := Lib.hid ((Blk.new w4 62 zeroMark).drew.step hb5)
    have HX5 := Lib.hid ((HX4.out.alloc (.cells zeroMark 62)).drew.step hb5)
    have HY5 := Lib.hid ((HY4.out.alloc (.cells zeroMark 62)).drew.step hb5)
    have HW5 := Lib.hid (bel_step (HW4.out.alloc HW4.out.size (.cells zeroMark 62)).drew hb5)
    have nx : gx ≠ w4.heap.size := Nat.ne_of_lt HX4.out.lt
    have ny : gy ≠ w4.heap.size := Nat.ne_of_lt HY4.out.lt
    have HGM := Lib.hid (show w.heap.size ≤ w4.heap.size from HW4.out.size)
    clear hb5
    refine hK.out _ _ trivial (fun hS => ?_)
    clear hK K
    try simp only [Act.put, List.setIfInBounds_toArray, List.set]
    refine until_take 8 (some 56) (u := ?_) rfl rfl (by kernel_rfl) (by kernel_rfl) (by kernel_rfl) (by kernel_rfl) (fun _ _ _ h => h) (by rfl) (fun wS hv => ?_) hS ?_
    rotate_left
    · clear hv
      go_simp
      all_goals with_reducible rfl
    try simp only [Act.put, List.setIfInBounds_toArray, List.set]
    refine until_take 9 (some 65) (u := ?_) rfl rfl (by kernel_rfl) (by kernel_rfl) (by kernel_rfl) (by kernel_rfl) (fun _ _ _ h => h) (by rfl) (fun wS hv => ?_) hS ?_
    rotate_left
    · clear hv
      go_simp
      all_goals with_reducible rfl
    try simp only [Act.put, List.setIfInBounds_toArray, List.set]
    refine until_take 10 (some 66) (u := ?_) rfl rfl (by kernel_rfl) (by kernel_rfl) (by kernel_rfl) (by kernel_rfl) (fun _ _ _ h => h) (by rfl) (fun wS hv => ?_) hS ?_
    rotate_left
    · clear hv
      go_simp
      all_goals with_reducible rfl
    try simp only [Act.put, List.setIfInBounds_toArray, List.set]
    refine until_one 12 (by kernel_rfl) rfl (fun K hK => ?_)
    refine step_wp (by rfl) ?_
    refine wp_store_mid _ _ _ rfl w4.heap.size 0 #[.int .i64 m0, .int .i64 m1, .int .i64 m2] (by rfl) (by rfl) (fun j hj => there_blk HM5.out j hj) (by kernel_rfl) (by simp [Value.oneCell']) ?_
    obtain ⟨b1, b2, b3⟩ := blk_cells3 (a' := .int .i64 m0) (b' := .int .i64 m1) (c' := .int .i64 m2) HM5.out
    have HM7 := Lib.hid b1
    have HX7 := Lib.hid (b2 _ _ _ nx HX5.out)
    have HY7 := Lib.hid (b2 _ _ _ ny HY5.out)
    have HW7 := Lib.hid (b3 _ _ HW5.out HGM.out)
    clear b1 b2 b3
    change K _ (w5.setCells w4.heap.size 0 [.int .i64 m0, .int .i64 m1, .int .i64 m2])
    generalize w5.setCells w4.heap.size 0 [.int .i64 m0, .int .i64 m1, .int .i64 m2] = w7 at HM7 HX7 HY7 HW7 ⊢
    refine hK.out _ _ trivial (fun hS => ?_)
    clear hK K
    try simp only [Act.put, List.setIfInBounds_toArray, List.set]
    refine until_take 13 (some 14) (u := ?_) rfl rfl (by kernel_rfl) (by kernel_rfl) (by kernel_rfl) (by kernel_rfl) (fun _ _ _ h => h) (by rfl) (fun wS hv => ?_) hS ?_
    rotate_left
    · clear hv
      go_simp
      all_goals with_reducible rfl
    try simp only [Act.put, List.setIfInBounds_toArray, List.set]
    refine until_done (by kernel_rfl) ?_
    clear hS
    obtain ⟨r0, r1, r2, -, -, -⟩ := cells3 HM7.out
    obtain ⟨p0, p1, p2, -, -, -⟩ := cells3 HX7.out
    obtain ⟨q0, q1, q2, -, -, -⟩ := cells3 HY7.out
    have e2 : (y0 == x0) = false := by simpa using fun e => HNE.out e.symm
    have HCS := Lib.hid hcase
    clear hcase
    rcases ok with _ | _
    · go_wp2_with fail
      go_ret
      exact ⟨rfl, HW7.out⟩
    · rcases HCS.out rfl with hm | hm
      · simp only [Prod.mk.injEq] at hm
        obtain ⟨rfl, rfl, rfl⟩ := hm
        go_wp2_with fail
        go_ret
        exact ⟨rfl, HW7.out⟩
      · simp only [Prod.mk.injEq] at hm
        obtain ⟨rfl, rfl, rfl⟩ := hm
        go_wp2_with fail
        go_ret
        exact ⟨rfl, HW7.out⟩
end Go.Proofs.Ytiighehibiijcaa

namespace Go.Proofs.Ytiighehibiijcaa.slotsTornLaw
open Go.ChangeShapes Go.WideShapes Go.ChangeAt Go.RowKit
open Go.ChangeMaps (open_string shut_string)
set_option linter.unusedVariables false

theorem own : ownKnob Try.prog.godebug = none := by kernel_rfl
theorem laidOut : laidOutB Try.prog = true := by kernel_rfl

set_option maxRecDepth 100000 in
theorem lifted (os : Os) (started : os.Started) (H : Type) (enc : TypeId × Value → H) :
    ReturnsInHanded {} Try.checked os 9 .any (Rows.slotsTornSpec.pre6 enc Try.prog Try.f9 Rows.slotsTornRow.domain false) (Rows.slotsTornSpec.post enc Try.prog Try.f9 false true false false) := by
  refine returnsInHanded_of_change (C := Try.checked) own started (by kernel_rfl) Try.func9
    (ChangeSpec.witness6 (enc := enc) (C := Try.checked) false ⟨#[], #[.agg #[.int .i64 0, .int .i64 0, .int .i64 0], .agg #[.int .i64 0, .int .i64 0, .int .i64 0], .int .i64 0], []⟩ 16 (by kernel_rfl) (by kernel_rfl) (by kernel_rfl) (by kernel_rfl)) ?_
  intro W base args ds gs before hval0 hW hcnd _
  have hval : ∀ (j : Nat) t v, Try.f9.params[j]? = some t → args[j]? = some v → Value.okWide Try.prog W .any base t v := hval0
  have hW' := hW
  obtain ⟨p, q, hA0, hV, rfl, hfz, hnd⟩ := hW
  have hA : DataW.TrodAll enc Try.prog W 0 (fun _ => true) true Try.f9.params.toList args.toList ds p := hA0
  rw [Try.params9] at hA hval
  obtain ⟨v0, vs0, d0, ds0, p0, q0, hargs, rfl, rfl, h0, r0⟩ := trodAll_cons hA
  obtain ⟨v1, vs1, d1, ds1, p1, q1, rfl, rfl, rfl, h1, r1⟩ := trodAll_cons r0
  obtain ⟨v2, vs2, d2, ds2, p2, q2, rfl, rfl, rfl, h2, r2⟩ := trodAll_cons r1
  obtain ⟨rfl, rfl, rfl⟩ := trodAll_nil r2
  obtain rfl : args = #[v0, v1, v2] := by cases args; simp_all
  obtain ⟨rfl, rfl⟩ := trodVars_none hV
  have k0 := h0
  have lt0 : ∀ x ∈ p0, x.block < W.heap.size := by obtain ⟨m, hm⟩ := k0; exact DataW.trod_lt m _ _ _ hm
  have k1 := h1
  have lt1 : ∀ x ∈ p1, x.block < W.heap.size := by obtain ⟨m, hm⟩ := k1; exact DataW.trod_lt m _ _ _ hm
  have k2 := h2
  have lt2 : ∀ x ∈ p2, x.block < W.heap.size := by obtain ⟨m, hm⟩ := k2; exact DataW.trod_lt m _ _ _ hm
  obtain ⟨ma0, mb0, mc0, rfl⟩ := open_mark Try.underlying62 (by kernel_rfl) (by kernel_rfl) Try.underlying3 Try.underlying3 Try.underlying3 (hval 0 62 v0 rfl rfl) h0
  obtain ⟨ma1, mb1, mc1, rfl⟩ := open_mark Try.underlying62 (by kernel_rfl) (by kernel_rfl) Try.underlying3 Try.underlying3 Try.underlying3 (hval 1 62 v1 rfl rfl) h1
  obtain ⟨a2, rfl, rfl, rfl, w2⟩ := open_int Try.underlying3 (hval 2 3 v2 rfl rfl) h2
  clear hA0 hval0
  have hw := slotsTorn_any ma0 mb0 mc0 ma1 mb1 mc1 a2 W
  refine hw.mono fun e W' ⟨he, bel⟩ => ?_
  subst he
  exact ⟨_, rfl, _, _, _, [], _, [], hW', trodAll_mk1 (shut_bool Try.underlying4 _), (trodAll_cons_mk (Below.trod laidOut (by kernel_rfl) (of_decide_eq_true (by kernel_rfl)) k0 bel lt0) (trodAll_cons_mk (Below.trod laidOut (by kernel_rfl) (of_decide_eq_true (by kernel_rfl)) k1 bel lt1) (trodAll_cons_mk (Below.trod laidOut (by kernel_rfl) (of_decide_eq_true (by kernel_rfl)) k2 bel lt2) trodAll_mk0))), rfl, bel.frame _, fun h => by cases h⟩

theorem over : Rows.slotsTornRow.holds Try.pinned (OpenSpec.ofChange Rows.slotsTornSpec) :=
  OpenClaim.holds_of_wide 9 Try.f9 rfl rfl rfl rfl rfl rfl rfl ⟨rfl, rfl, rfl, rfl, rfl⟩ rfl rfl rfl rfl rfl (by kernel_rfl) Try.func9 (by kernel_rfl)
    (of_decide_eq_true (by kernel_rfl)) (by unfold Func.isWrapper; first | (rw [if_pos (by decide +kernel)]; kernel_rfl) | (rw [if_neg (by decide +kernel)]; exact ⟨rfl, rfl⟩))
    (fun os started H enc _ => lifted os started H enc)

/-- The statement. -/
theorem proved : Rows.SlotsTornSaid := over
end Go.Proofs.Ytiighehibiijcaa.slotsTornLaw

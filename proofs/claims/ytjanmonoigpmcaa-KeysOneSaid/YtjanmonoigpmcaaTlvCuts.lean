/-
  The walk of TlvCuts: it returns true for every field, place and other letter. No conditions beside those in each theorem.
-/
import Derived.Test.YtjanmonoigpmcaaTlvBack
import Derived.Test.YtjanmonoigpmcaaRefReader
import Derived.Deep.QuietTactic
import Derived.BigQuiet
namespace Go.Proofs.Ytjanmonoigpmcaa
open Go.RowKit

theorem quiet_mine {P : Program} {f : FuncId} {args : Array Value} {w : World} {n : Nat} {v : Value}
    (h : Calls P f args (w.drewN n) fun e w' => e = .returned v ∧ w.drewN n = w') : Calls P f args (w.drewN n) fun e w'' => e = .returned v ∧ ∃ m, w'' = w.drewN m :=
  h.mono fun _ _ ⟨he, hm⟩ => ⟨he, n, hm.symm⟩
theorem bel_drewN {B : Nat} {w w' : World} (h : Below B w w') (n : Nat) : Below B w (w'.drewN n) := ⟨h.os, h.tape, h.output, h.size, h.block⟩
theorem keepc {w w' : World} {g : Nat} {x y z : Value} (hb : Below w.heap.size w w') (h : w.cell? ⟨g, 0, none⟩ = some x ∧ w.cell? ⟨g, 1, none⟩ = some y ∧ w.cell? ⟨g, 2, none⟩ = some z) :
    w'.cell? ⟨g, 0, none⟩ = some x ∧ w'.cell? ⟨g, 1, none⟩ = some y ∧ w'.cell? ⟨g, 2, none⟩ = some z := by
  obtain ⟨h0, h1, h2⟩ := h
  have hlt := World.block_lt_of_cell? w _ h0
  exact ⟨(hb.cell (p := ⟨g, 0, none⟩) hlt).trans h0, (hb.cell (p := ⟨g, 1, none⟩) hlt).trans h1, (hb.cell (p := ⟨g, 2, none⟩) hlt).trans h2⟩
theorem rText_wrong {c d most : Int} {s r : List UInt8} (c0 : 0 ≤ c) (c1 : c ≤ 255) (h : ¬ c = d) : rText d most (tText c s ++ r, false) = ([], tText c s ++ r, true) := by
  unfold tText hd
  simp only [List.cons_append, List.nil_append]
  exact rText_other d most _ _ _ _ _ (by rw [byt_toNat c c0 c1]; exact h)

set_option maxRecDepth 100000 in
set_option maxHeartbeats 3200000 in
theorem tlvCuts_walk (c : Int) (n : Nat) (s : List UInt8) (c0 : 0 ≤ c) (c1 : c ≤ 255) (_hn : n < 256 ^ 8) (at_ : Int) (_wa : (Lit.int .i64 at_).wf = true) (d : Int) (d0 : 0 ≤ d) (d1 : d ≤ 255) (w : World) :
    Calls Try.prog 6 #[.agg #[.int .u8 c, .int .u64 n, str s], .int .i64 at_, .int .u8 d] w fun e w' => e = .returned (.bool true) ∧ Below w.heap.size w w' := by
  clear _hn _wa
  obtain ⟨A, hA⟩ : ∃ A, s.take 60 = A := ⟨_, rfl⟩
  have hAl : A.length ≤ 60 := by rw [← hA, List.length_take]; omega
  have hTl := tText_length c A
  obtain ⟨T, hT⟩ : ∃ T, tText c A = T := ⟨_, rfl⟩
  rw [hT] at hTl
  have hTp : 0 < T.length := by omega
  have hTm : T.length ≤ 64 := by omega
  have HA := Lib.hid hA
  have HT := Lib.hid hT
  have HTl := Lib.hid hTl
  clear hA hT hTl
  go_enter Try.func6, Try.ntmps6
  go_wp2_with fail
  have F0 := Lib.hid (Blk.new w 24 #[.int .u8 c, .int .u64 n, str s])
  have hb0 := (Below.refl w.heap.size w).alloc (Nat.le_refl _) (.cells #[.int .u8 c, .int .u64 n, str s] 24)
  refine (awake01_any _).mono ?_
  rintro e w1 ⟨rfl, hb1⟩
  have hb1' := bel_step hb0 hb1
  have F1 := Lib.hid (Blk.step F0.out hb1)
  obtain ⟨d0', d1', d2'⟩ := cells3 F1.out
  clear hb1 F0 hb0
  go_wp2_with fail
  go_region_held3 (fun w' => w'.cell? ⟨w.heap.size, 0, none⟩ = some (.int .u8 c) ∧ w'.cell? ⟨w.heap.size, 1, none⟩ = some (.int .u64 n) ∧ w'.cell? ⟨w.heap.size, 2, none⟩ = some (str s)) (first | assumption | exact keepc hb5 ‹_› | exact ⟨d0', d1', d2'⟩)
    (first | (go_at_call 16; refine (short01_any s 60 _).mono ?_; rw [HA.out]; rintro e wq ⟨rfl, rfl⟩) | (go_at_call 17; refine (text_any c A _ c0 c1 (by omega)).mono ?_; rw [HT.out]; rintro e w5 ⟨rfl, hb5⟩))
  have hb5' := bel_step hb1'.drew hb5
  have F5 := Lib.hid (Blk.step (Blk.drew F1.out) hb5)
  clear hb1' d0' d1' d2' hb5 F1
  have q1 := Int.tmod_lt_of_pos at_ (show (0 : Int) < T.length by omega)
  have q2 := Int.lt_tmod_of_pos at_ (show (0 : Int) < T.length by omega)
  have hnz : ((T.length : Int) == 0) = false := beq_eq_false_iff_ne.2 (by omega)
  have hBw : w.heap.size ≤ w5.heap.size := hb5'.size
  have cutU : ∀ K : Nat, K < T.length → rText c 100 (T.take K, false) = ([], T.take K, true) := by
    intro K hK
    have := rText_cut c 100 A [] K (by have := HTl.out; omega) (by omega)
    rwa [List.append_nil, HT.out] at this
  have CU := Lib.hid cutU
  have HQ1 := Lib.hid (show rText c 100 (T, false) = (A, [], false) by have := rText_back c 100 A [] c0 c1 (by omega) (by omega); rwa [List.append_nil, HT.out] at this)
  have HQ2 := Lib.hid (show ¬ c = d → rText d 100 (T, false) = ([], T, true) from fun h => by have := rText_wrong (most := 100) (s := A) (r := []) c0 c1 h; rwa [List.append_nil, HT.out] at this)
  clear cutU
  by_cases hneg : at_.tmod T.length < 0
  · obtain ⟨K, hK, hKB⟩ : ∃ K : Nat, (-at_.tmod T.length).toNat = K ∧ K < T.length := ⟨(-at_.tmod T.length).toNat, rfl, by omega⟩
    go_wp2_with fail
    have hUl : (T.take K).length ≤ 64 := by rw [List.length_take]; omega
    have HU := Lib.hid (CU.out K hKB)
    obtain ⟨U, hU⟩ : ∃ U, T.take K = U := ⟨_, rfl⟩
    rw [hU] at HU hUl
    have HU2 := Lib.hid hU
    clear hU
    have HK2 := Lib.hid hK
    clear hK
    first | rw [HU2.out] | rw [HK2.out, HU2.out]
    refine (read_any U _).mono ?_
    rintro e w6 ⟨rfl, rfl⟩
    clear hneg q1 q2
    go_wp2_with fail
    refine (read_any T _).mono ?_
    rintro e w6 ⟨rfl, rfl⟩
    have P0 := Lib.hid (Blk.alloc (read_isRd U w5) (.cells #[str T, .bool false] 51))
    have Q0 := Lib.hid (show IsRd ((w5.alloc (.cells #[str U, .bool false] 51)).alloc (.cells #[str T, .bool false] 51)) (w5.heap.size + 1) (T, false) from Blk.new_at (w := w5.alloc (.cells #[str U, .bool false] 51)) (by simp) _ _)
    have F7 := Lib.hid ((F5.out.alloc (.cells #[str U, .bool false] 51)).alloc (.cells #[str T, .bool false] 51))
    have hb0 := (hb5'.alloc hBw (.cells #[str U, .bool false] 51)).alloc (by simp; omega) (.cells #[str T, .bool false] 51)
    have P7 := P0
    have Q7 := Q0
    have hb7 := hb0
    clear P0 Q0 hb0 F5 hb5'
    simp only [World.size_alloc] at *
    generalize (w5.alloc (.cells #[str U, .bool false] 51)).alloc (.cells #[str T, .bool false] 51) = W at *
    generalize w5.heap.size = B at *
    obtain ⟨e1, e2, e3⟩ := cells3 F7.out
    go_wp2_with fail
    refine (readText_any U false c 100 _ _ P7.out c0 c1 (by omega) (by decide) [] U true HU.out).mono ?_
    rintro e w8 ⟨rfl, hr8, hu8⟩
    clear e1 e2 e3
    have F8 := Lib.hid (Blk.grown F7.out hu8 (by simpa using Blk.ne F7.out P7.out (by decide)))
    have Q8 := Lib.hid (Blk.grown Q7.out hu8 (by simp))
    have P8 := Lib.hid hr8
    have hb8 := hb7.trans (upd_below hu8 hb7.size hBw)
    obtain ⟨e1, e2, e3⟩ := cells3 F8.out
    clear hr8 hu8 hb7 F7 Q7 P7
    go_wp2_with fail
    refine (next_no U true _ _ P8.out (.inl rfl)).mono ?_
    rintro e wq ⟨rfl, rfl⟩
    go_wp2_with fail
    refine (good_any U true _ _ P8.out).mono ?_
    rintro e wq ⟨rfl, rfl⟩
    go_wp2_with fail
    refine (readNum_any U true c _ _ P8.out c0 c1 (by omega) 0 U true (rNum_bad c U)).mono ?_
    rintro e w9 ⟨rfl, hr9, hu9⟩
    clear e1 e2 e3
    have F9 := Lib.hid (Blk.grown F8.out hu9 (by simpa using Blk.ne F8.out P8.out (by decide)))
    have Q9 := Lib.hid (Blk.grown Q8.out hu9 (by simp))
    have P9 := Lib.hid hr9
    have hb9 := hb8.trans (upd_below hu9 hb8.size hBw)
    obtain ⟨e1, e2, e3⟩ := cells3 F9.out
    clear hr9 hu9 hb8 F8 Q8 P8
    go_wp2_with fail
    refine (readText_any U true c 9 _ _ P9.out c0 c1 (by omega) (by decide) [] U true (rText_bad c 9 U)).mono ?_
    rintro e w10 ⟨rfl, hr10, hu10⟩
    clear e1 e2 e3
    have F10 := Lib.hid (Blk.grown F9.out hu10 (by simpa using Blk.ne F9.out P9.out (by decide)))
    have Q10 := Lib.hid (Blk.grown Q9.out hu10 (by simp))
    have P10 := Lib.hid hr10
    have hb10 := hb9.trans (upd_below hu10 hb9.size hBw)
    obtain ⟨e1, e2, e3⟩ := cells3 F10.out
    clear hr10 hu10 hb9 F9 Q9 P9
    go_wp2_with fail
    refine (readAll_any U true c 9 9 _ _ P10.out c0 c1 (by omega) (by decide) [] U true (rAll_bad c 9 9 U)).mono ?_
    rintro e w11 ⟨v11, rfl, hown11, hr11, hu11⟩
    clear e1 e2 e3
    obtain ⟨p11, cp11, rfl⟩ := OwnS.len hown11
    clear hown11
    have F11 := Lib.hid (Blk.grown F10.out hu11 (by simpa using Blk.ne F10.out P10.out (by decide)))
    have Q11 := Lib.hid (Blk.grown Q10.out hu11 (by simp))
    have P11 := Lib.hid hr11
    have hb11 := hb10.trans (upd_below hu11 hb10.size hBw)
    obtain ⟨e1, e2, e3⟩ := cells3 F11.out
    clear hr11 hu11 hb10 F10 Q10 P10
    go_wp2_with fail
    refine (left_bad U _ _ P11.out).mono ?_
    rintro e wq ⟨rfl, rfl⟩
    go_wp2_with fail
    refine (end_any U true _ _ P11.out).mono ?_
    rw [show rEnd (U, true) = 10 by simp [rEnd]]
    rintro e wq ⟨rfl, rfl⟩
    go_wp2_with fail
    by_cases hcd : c = d
    · subst hcd
      refine (readText_any T false c 100 _ _ Q11.out c0 c1 (by omega) (by decide) A [] false HQ1.out).mono ?_
      rintro e w12 ⟨rfl, hr12, hu12⟩
      clear e1 e2 e3
      have F12 := Lib.hid (Blk.grown F11.out hu12 (by simpa using Blk.ne F11.out Q11.out (by decide)))
      have Q12 := Lib.hid hr12
      have hb12 := hb11.trans (upd_below hu12 hb11.size (by omega))
      clear hr12 hu12
      obtain ⟨e1, e2, e3⟩ := cells3 F12.out
      go_wp2_with fail
      go_quiet ((go_at_call 31; exact quiet_mine (good_any [] false (B + 1) _ Q12.out)))
      go_wp2
      go_ret
      exact ⟨rfl, bel_drewN hb12 _⟩
    · have hcd' : ((d : Int) == c) = false := by simpa using fun h => hcd h.symm
      refine (readText_any T false d 100 _ _ Q11.out d0 d1 (by omega) (by decide) [] T true (HQ2.out hcd)).mono ?_
      rintro e w12 ⟨rfl, hr12, hu12⟩
      clear e1 e2 e3
      have F12 := Lib.hid (Blk.grown F11.out hu12 (by simpa using Blk.ne F11.out Q11.out (by decide)))
      have Q12 := Lib.hid hr12
      have hb12 := hb11.trans (upd_below hu12 hb11.size (by omega))
      clear hr12 hu12 hcd
      obtain ⟨e1, e2, e3⟩ := cells3 F12.out
      go_wp2_with fail
      go_region_held3 (fun w' => w'.cell? ⟨w.heap.size, 0, none⟩ = some (.int .u8 c) ∧ Hid (IsRd w' (B + 1) (T, true))) (first | assumption | exact ⟨e1, Q12⟩)
        (first | (go_at_call 31; refine (good_any T true _ _ (by obtain ⟨-, hR⟩ := ‹_ ∧ Hid (IsRd _ _ _)›; exact hR.out)).mono ?_; rintro e wq ⟨rfl, rfl⟩))
      all_goals
        go_wp2
        go_ret
        exact ⟨rfl, hb12.drew⟩
  · obtain ⟨K, hK, hKB⟩ : ∃ K : Nat, (at_.tmod T.length).toNat = K ∧ K < T.length := ⟨(at_.tmod T.length).toNat, rfl, by omega⟩
    go_wp2_with fail
    have hUl : (T.take K).length ≤ 64 := by rw [List.length_take]; omega
    have HU := Lib.hid (CU.out K hKB)
    obtain ⟨U, hU⟩ : ∃ U, T.take K = U := ⟨_, rfl⟩
    rw [hU] at HU hUl
    have HU2 := Lib.hid hU
    clear hU
    have HK2 := Lib.hid hK
    clear hK
    first | rw [HU2.out] | rw [HK2.out, HU2.out]
    refine (read_any U _).mono ?_
    rintro e w6 ⟨rfl, rfl⟩
    clear hneg q1 q2
    go_wp2_with fail
    refine (read_any T _).mono ?_
    rintro e w6 ⟨rfl, rfl⟩
    have P0 := Lib.hid (Blk.alloc (read_isRd U w5) (.cells #[str T, .bool false] 51))
    have Q0 := Lib.hid (show IsRd ((w5.alloc (.cells #[str U, .bool false] 51)).alloc (.cells #[str T, .bool false] 51)) (w5.heap.size + 1) (T, false) from Blk.new_at (w := w5.alloc (.cells #[str U, .bool false] 51)) (by simp) _ _)
    have F7 := Lib.hid ((F5.out.alloc (.cells #[str U, .bool false] 51)).alloc (.cells #[str T, .bool false] 51))
    have hb0 := (hb5'.alloc hBw (.cells #[str U, .bool false] 51)).alloc (by simp; omega) (.cells #[str T, .bool false] 51)
    have P7 := P0
    have Q7 := Q0
    have hb7 := hb0
    clear P0 Q0 hb0 F5 hb5'
    simp only [World.size_alloc] at *
    generalize (w5.alloc (.cells #[str U, .bool false] 51)).alloc (.cells #[str T, .bool false] 51) = W at *
    generalize w5.heap.size = B at *
    obtain ⟨e1, e2, e3⟩ := cells3 F7.out
    go_wp2_with fail
    refine (readText_any U false c 100 _ _ P7.out c0 c1 (by omega) (by decide) [] U true HU.out).mono ?_
    rintro e w8 ⟨rfl, hr8, hu8⟩
    clear e1 e2 e3
    have F8 := Lib.hid (Blk.grown F7.out hu8 (by simpa using Blk.ne F7.out P7.out (by decide)))
    have Q8 := Lib.hid (Blk.grown Q7.out hu8 (by simp))
    have P8 := Lib.hid hr8
    have hb8 := hb7.trans (upd_below hu8 hb7.size hBw)
    obtain ⟨e1, e2, e3⟩ := cells3 F8.out
    clear hr8 hu8 hb7 F7 Q7 P7
    go_wp2_with fail
    refine (next_no U true _ _ P8.out (.inl rfl)).mono ?_
    rintro e wq ⟨rfl, rfl⟩
    go_wp2_with fail
    refine (good_any U true _ _ P8.out).mono ?_
    rintro e wq ⟨rfl, rfl⟩
    go_wp2_with fail
    refine (readNum_any U true c _ _ P8.out c0 c1 (by omega) 0 U true (rNum_bad c U)).mono ?_
    rintro e w9 ⟨rfl, hr9, hu9⟩
    clear e1 e2 e3
    have F9 := Lib.hid (Blk.grown F8.out hu9 (by simpa using Blk.ne F8.out P8.out (by decide)))
    have Q9 := Lib.hid (Blk.grown Q8.out hu9 (by simp))
    have P9 := Lib.hid hr9
    have hb9 := hb8.trans (upd_below hu9 hb8.size hBw)
    obtain ⟨e1, e2, e3⟩ := cells3 F9.out
    clear hr9 hu9 hb8 F8 Q8 P8
    go_wp2_with fail
    refine (readText_any U true c 9 _ _ P9.out c0 c1 (by omega) (by decide) [] U true (rText_bad c 9 U)).mono ?_
    rintro e w10 ⟨rfl, hr10, hu10⟩
    clear e1 e2 e3
    have F10 := Lib.hid (Blk.grown F9.out hu10 (by simpa using Blk.ne F9.out P9.out (by decide)))
    have Q10 := Lib.hid (Blk.grown Q9.out hu10 (by simp))
    have P10 := Lib.hid hr10
    have hb10 := hb9.trans (upd_below hu10 hb9.size hBw)
    obtain ⟨e1, e2, e3⟩ := cells3 F10.out
    clear hr10 hu10 hb9 F9 Q9 P9
    go_wp2_with fail
    refine (readAll_any U true c 9 9 _ _ P10.out c0 c1 (by omega) (by decide) [] U true (rAll_bad c 9 9 U)).mono ?_
    rintro e w11 ⟨v11, rfl, hown11, hr11, hu11⟩
    clear e1 e2 e3
    obtain ⟨p11, cp11, rfl⟩ := OwnS.len hown11
    clear hown11
    have F11 := Lib.hid (Blk.grown F10.out hu11 (by simpa using Blk.ne F10.out P10.out (by decide)))
    have Q11 := Lib.hid (Blk.grown Q10.out hu11 (by simp))
    have P11 := Lib.hid hr11
    have hb11 := hb10.trans (upd_below hu11 hb10.size hBw)
    obtain ⟨e1, e2, e3⟩ := cells3 F11.out
    clear hr11 hu11 hb10 F10 Q10 P10
    go_wp2_with fail
    refine (left_bad U _ _ P11.out).mono ?_
    rintro e wq ⟨rfl, rfl⟩
    go_wp2_with fail
    refine (end_any U true _ _ P11.out).mono ?_
    rw [show rEnd (U, true) = 10 by simp [rEnd]]
    rintro e wq ⟨rfl, rfl⟩
    go_wp2_with fail
    by_cases hcd : c = d
    · subst hcd
      refine (readText_any T false c 100 _ _ Q11.out c0 c1 (by omega) (by decide) A [] false HQ1.out).mono ?_
      rintro e w12 ⟨rfl, hr12, hu12⟩
      clear e1 e2 e3
      have F12 := Lib.hid (Blk.grown F11.out hu12 (by simpa using Blk.ne F11.out Q11.out (by decide)))
      have Q12 := Lib.hid hr12
      have hb12 := hb11.trans (upd_below hu12 hb11.size (by omega))
      clear hr12 hu12
      obtain ⟨e1, e2, e3⟩ := cells3 F12.out
      go_wp2_with fail
      go_quiet ((go_at_call 31; exact quiet_mine (good_any [] false (B + 1) _ Q12.out)))
      go_wp2
      go_ret
      exact ⟨rfl, bel_drewN hb12 _⟩
    · have hcd' : ((d : Int) == c) = false := by simpa using fun h => hcd h.symm
      refine (readText_any T false d 100 _ _ Q11.out d0 d1 (by omega) (by decide) [] T true (HQ2.out hcd)).mono ?_
      rintro e w12 ⟨rfl, hr12, hu12⟩
      clear e1 e2 e3
      have F12 := Lib.hid (Blk.grown F11.out hu12 (by simpa using Blk.ne F11.out Q11.out (by decide)))
      have Q12 := Lib.hid hr12
      have hb12 := hb11.trans (upd_below hu12 hb11.size (by omega))
      clear hr12 hu12 hcd
      obtain ⟨e1, e2, e3⟩ := cells3 F12.out
      go_wp2_with fail
      go_region_held3 (fun w' => w'.cell? ⟨w.heap.size, 0, none⟩ = some (.int .u8 c) ∧ Hid (IsRd w' (B + 1) (T, true))) (first | assumption | exact ⟨e1, Q12⟩)
        (first | (go_at_call 31; refine (good_any T true _ _ (by obtain ⟨-, hR⟩ := ‹_ ∧ Hid (IsRd _ _ _)›; exact hR.out)).mono ?_; rintro e wq ⟨rfl, rfl⟩))
      all_goals
        go_wp2
        go_ret
        exact ⟨rfl, hb12.drew⟩
end Go.Proofs.Ytjanmonoigpmcaa

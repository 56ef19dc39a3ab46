/-
  What the document's Seq returns; the plain laws of keys; the helper awake and begins of the statements of layer 16. For texts within the reach.
-/
import Derived.Test.YtjanmonoigpmcaaKeysB
import Derived.Test.YtjanmonoigpmcaaBegins
namespace Go.Proofs.Ytjanmonoigpmcaa
open Go.RowKit

set_option maxRecDepth 100000 in
set_option maxHeartbeats 1600000 in
theorem refSeq_miss (x : UInt8) (s : List UInt8) (w : World) (h80 : x ≠ 80) (h71 : x ≠ 71) :
    Calls Try.prog 51 #[str (x :: s)] w fun e w' => e = .returned (.tuple #[str [], .int .i64 0, .bool false]) ∧ Below w.heap.size w w' := by
  have q1 : ((x.toNat : Int) != 80) = true := by rw [bne_iff_ne]; exact fun h => h80 (UInt8.toNat_inj.1 (by show x.toNat = 80; omega))
  have q2 : ((x.toNat : Int) != 71) = true := by rw [bne_iff_ne]; exact fun h => h71 (UInt8.toNat_inj.1 (by show x.toNat = 71; omega))
  have q3 : ((x.toNat : Int) == 80) = false := by simpa using q1
  have q4 : ((x.toNat : Int) == 71) = false := by simpa using q2
  clear h80 h71
  go_enter Try.func51, Try.ntmps51
  go_wp2
  go_ret3
  exact ⟨rfl, Below.refl _ _⟩
set_option maxHeartbeats 800000 in
theorem refSeq_nil (w : World) :
    Calls Try.prog 51 #[str []] w fun e w' => e = .returned (.tuple #[str [], .int .i64 0, .bool false]) ∧ Below w.heap.size w w' := by
  go_enter Try.func51, Try.ntmps51
  go_wp2
  go_ret3
  exact ⟨rfl, Below.refl _ _⟩
set_option maxRecDepth 100000 in
set_option maxHeartbeats 1600000 in
theorem refSeq_hit (x : UInt8) (s : List UInt8) (w : World) (hx : x = 80 ∨ x = 71) (hs : s.length ≤ 140737488351232) (id : List UInt8) (n : Int) (r : Rd) (hq : seqIn s = (id, n, r)) :
    Calls Try.prog 51 #[str (x :: s)] w fun e w' => e = .returned (if rEnd r = 0 then .tuple #[str id, .int .i64 n, .bool true] else .tuple #[str [], .int .i64 0, .bool false]) ∧ Below w.heap.size w w' := by
  obtain ⟨⟨t, s1, b1⟩, ht⟩ : ∃ q, rText 105 32 (s, false) = q := ⟨_, rfl⟩
  obtain ⟨⟨m, s2, b2⟩, hm⟩ : ∃ q, rInt 113 1099511627776 (s1, b1) = q := ⟨_, rfl⟩
  unfold seqIn at hq
  rw [ht] at hq
  simp only [] at hq
  rw [hm] at hq
  simp only [Prod.mk.injEq] at hq
  obtain ⟨rfl, rfl, rfl⟩ := hq
  have hl1 : s1.length ≤ s.length := rText_left_le ht
  have Ht := Lib.hid ht
  have Hm := Lib.hid hm
  clear ht hm
  rcases hx with rfl | rfl <;> rcases rEnd_cases (s2, b2) with he | he
  all_goals
    have He := Lib.hid he
    rw [he]
    clear he
    go_enter Try.func51, Try.ntmps51
    go_wp2_with fail
    have hb1 := (Below.refl w.heap.size w).alloc (Nat.le_refl _) (.cells #[str s, .bool false] 91)
    refine (refReadText_any s false 105 32 _ _ (Blk.new w _ _) (by decide) (by decide) hs (by decide) t s1 b1 Ht.out).mono ?_
    rintro e w2 ⟨rfl, hr2, hu2⟩
    have HR2 := Lib.hid hr2
    have hb2 := hb1.trans (upd_below hu2 (by simp) (Nat.le_refl _))
    clear hr2 hu2 hb1
    go_wp2_with fail
    refine (refReadInt_any s1 b1 113 1099511627776 _ _ HR2.out (by decide) (by decide) (by omega) (by decide) m s2 b2 Hm.out).mono ?_
    rintro e w3 ⟨rfl, hr3, hu3⟩
    have HR3 := Lib.hid hr3
    have hb3 := hb2.trans (upd_below hu3 hb2.size (Nat.le_refl _))
    clear hr3 hu3 hb2 HR2
    go_wp2_with fail
    refine (refEnd_any s2 b2 _ _ HR3.out).mono ?_
    rw [He.out]
    rintro e w4 ⟨rfl, rfl⟩
    go_wp2
    go_ret3
    exact ⟨rfl, hb3⟩
theorem refSeq_any (s : List UInt8) (w : World) (hs : s.length ≤ 140737488351232) :
    Calls Try.prog 51 #[str s] w fun e w' => e = .returned (.tuple #[str (seqR s).1, .int .i64 (seqR s).2.1, .bool (seqR s).2.2]) ∧ Below w.heap.size w w' := by
  match s, hs with
  | [], _ => exact refSeq_nil w
  | x :: s, hs =>
    rw [List.length_cons] at hs
    obtain ⟨⟨id, n, r⟩, hq⟩ : ∃ q, seqIn s = q := ⟨_, rfl⟩
    rw [seqR_cons, hq]
    by_cases hx : x = 80 ∨ x = 71
    · have := refSeq_hit x s w hx (by omega) id n r hq
      rcases rEnd_cases r with he | he
      · rw [if_pos ⟨hx, he⟩]
        rw [if_pos he] at this
        exact this
      · have hne : ¬ rEnd r = 0 := by rw [he]; decide
        rw [if_neg (fun h => hne h.2)]
        rw [if_neg hne] at this
        exact this
    · rw [if_neg (fun h => hx h.1)]
      exact refSeq_miss x s w (fun h => hx (.inl h)) (fun h => hx (.inr h))

/-! The plain laws. -/
theorem seqIn_back (id : List UInt8) (n : Nat) (rest : List UInt8) (hi : id.length ≤ 32) (hn : n ≤ 1099511627776) : seqIn (tText 105 id ++ (tNum 113 n ++ rest)) = (id, (n : Int), rest, false) := by
  unfold seqIn
  rw [rText_back 105 32 id _ (by decide) (by decide) (by omega) (by omega)]
  simp only []
  rw [rInt_back 113 1099511627776 n rest (by decide) (by decide) (by omega) (by omega)]
theorem seqR_back (k : UInt8) (hk : k = 80 ∨ k = 71) (id : List UInt8) (n : Int) (h0 : 0 ≤ n) (hi : id.length ≤ 32) (hn : n ≤ 1099511627776) : seqR (kWith k id n) = (id, n, true) := by
  obtain ⟨m, rfl⟩ := Int.eq_ofNat_of_zero_le h0
  unfold kWith
  rw [Int.toNat_natCast, seqR_cons]
  have := seqIn_back id m [] hi (by omega)
  rw [List.append_nil] at this
  rw [this, if_pos ⟨hk, rfl⟩]

set_option maxRecDepth 100000 in
set_option maxHeartbeats 800000 in
theorem awake16_any (w : World) :
    Calls Try.prog 37 #[] w fun e w' => e = .returned (.bool true) ∧ Below w.heap.size w w' := by
  have hq := seqR_back 80 (.inl rfl) [99, 49] 7 (by decide) (by decide) (by decide)
  obtain ⟨X, hX⟩ : ∃ X, kWith 80 [99, 49] 7 = X := ⟨_, rfl⟩
  have hl : X.length ≤ 19 := by rw [← hX]; exact kWith_le 80 [99, 49] 7
  rw [hX] at hq
  have HX := Lib.hid hX
  have HQ := Lib.hid hq
  clear hX hq
  go_enter Try.func37, Try.ntmps37
  go_wp2_with fail
  refine (kSent_any [99, 49] 7 _ (by decide) (by decide)).mono ?_
  rw [HX.out]
  rintro e w1 ⟨rfl, hb1⟩
  go_wp2_with fail
  refine (seq_any X _ (by omega)).mono ?_
  rw [HQ.out]
  rintro e w2 ⟨rfl, hb2⟩
  go_wp2
  go_ret
  exact ⟨rfl, bel_step hb1 hb2⟩

set_option maxHeartbeats 800000 in
theorem begins16_any (s t : List UInt8) (u : Bool) (w : World) (hu : beg s t = u) :
    Calls Try.prog 45 #[str s, str t] w fun e w' => e = .returned (.bool u) ∧ w = w' := by
  by_cases h : t.length ≤ s.length
  · have hq : (List.take t.length s == t) = u := hu
    clear hu
    go_enter Try.func45, Try.ntmps45
    go_wp2
    go_ret
    exact ⟨rfl, rfl⟩
  · obtain rfl : u = false := by
      rw [← hu, ← Bool.not_eq_true, beg_iff]
      rintro ⟨r, rfl⟩
      exact h (by simp)
    clear hu
    have h' : s.length < t.length := by omega
    go_enter Try.func45, Try.ntmps45
    go_wp2
    go_ret
    exact ⟨rfl, rfl⟩
end Go.Proofs.Ytjanmonoigpmcaa

/-
  What (*tlv.Reader).Text returns, and how it leaves the reader. For readers that are not nil, of texts within the reach.
-/
import Derived.Test.YtlkgloakcpfnnaaReader
namespace Go.Proofs.Ytlkgloakcpfnnaa
open Go.RowKit

/-- The number of the bytes 1, 2 and 3. -/
def n3 (x y z : UInt8) : Int := (x.toNat * 256 + y.toNat) * 256 + z.toNat
/-- A body, taken off. -/
def rText (c most : Int) (r : Rd) : List UInt8 × Rd :=
  match r with
  | (a :: x :: y :: z :: s, false) => if (a.toNat : Int) = c ∧ n3 x y z ≤ most ∧ n3 x y z ≤ s.length then (s.take (n3 x y z).toNat, s.drop (n3 x y z).toNat, false) else ([], a :: x :: y :: z :: s, true)
  | (s, _) => ([], s, true)

theorem i64_or8 (x y : Int) (hx : 0 ≤ x) (hx' : x ≤ 16777215) (hy : 0 ≤ y) (hy' : y ≤ 255) : bits BinOp.or IntKind.i64 (x * 256) y = x * 256 + y := by
  obtain ⟨x, rfl⟩ := Int.eq_ofNat_of_zero_le hx
  obtain ⟨y, rfl⟩ := Int.eq_ofNat_of_zero_le hy
  have hxn : x ≤ 16777215 := by omega
  have hyn : y ≤ 255 := by omega
  have e1 : ((x : Int) * 256) = ((x * 256 : Nat) : Int) := by omega
  have hk : (BitVec.ofInt 64 ((x * 256 : Nat) : Int) ||| BitVec.ofInt 64 (y : Int)).toNat = x * 256 + y := by
    rw [BitVec.toNat_or, BitVec.toNat_ofInt, BitVec.toNat_ofInt]
    have a1 : (((x * 256 : Nat) : Int) % ((2 ^ 64 : Nat) : Int)).toNat = x * 256 := by omega
    have a2 : ((y : Int) % ((2 ^ 64 : Nat) : Int)).toNat = y := by omega
    rw [a1, a2]
    have := Nat.two_pow_add_eq_or_of_lt (b := y) (i := 8) (by omega) x
    rw [Nat.mul_comm]
    exact this.symm
  rw [e1]
  show IntKind.i64.wrap ((BitVec.ofInt 64 ((x * 256 : Nat) : Int) ||| BitVec.ofInt 64 (y : Int)).toNat : Nat) = _
  rw [hk, IntKind.wrap_i64]
  omega

theorem bytes3 (w : World) (s : List UInt8) (c j : Nat) (h : j < s.length) :
    (w.alloc (.cells (bytesRow ⟨s.toArray⟩ c) 5 ((bytesRow ⟨s.toArray⟩ c).size, (bytesRow ⟨s.toArray⟩ c).size + 1))).cell? ⟨w.heap.size, j, none⟩ = some (.int .u8 (s[j].toNat : Int)) := by
  rw [World.cell?_alloc_mark, bytesRow_at ⟨s.toArray⟩ c j (by simpa using h)]
  simp

theorem take_four (s : List UInt8) (N : Nat) : List.take (4 + N - 4) s = List.take N s := by rw [show 4 + N - 4 = N by omega]
theorem take_cut (a x y z : UInt8) (s : List UInt8) (N : Nat) : List.take (s.length + 1 + 1 + 1 + 1 - (4 + N)) (List.drop (4 + N) (a :: x :: y :: z :: s)) = List.drop N s := by
  rw [show 4 + N = N + 1 + 1 + 1 + 1 by omega]
  simp only [List.drop_succ_cons]
  rw [List.take_of_length_le]
  rw [List.length_drop]
  omega

set_option maxRecDepth 100000 in
set_option maxHeartbeats 1600000 in
theorem readText_bad (s : List UInt8) (b : Bool) (c most : Int) (g : Nat) (w : World) (h : IsRd w g (s, b)) (c0 : 0 ≤ c) (c1 : c ≤ 255)
    (hb : b = true ∨ s = [] ∨ ∃ a r, s = a :: r ∧ ((a.toNat : Int) ≠ c ∨ r.length < 3)) :
    Calls Try.prog 55 #[.pointer (some ⟨g, 0, none⟩), .int .u8 c, .int .i64 most] w fun e w' => e = .returned (str []) ∧ IsRd w' g (s, true) ∧ w.grownBy w' (some g) := by
  have H := Lib.hid h
  obtain ⟨d0, d1, f0, f1⟩ := rd_cells h
  clear h
  by_cases hn : b = true ∨ s = []
  · have Hn := Lib.hid hn
    clear hb hn
    go_enter Try.func55, Try.ntmps55
    go_wp2_with fail
    refine (next_no s b g _ H.out Hn.out).mono ?_
    rintro e w1 ⟨rfl, rfl⟩
    go_wp2_with fail
    refine (fails_any s b g _ H.out).mono ?_
    rintro e w1 ⟨rfl, hr, hu⟩
    go_wp2
    go_ret
    exact ⟨rfl, hr, hu⟩
  · have hb' : b = false := by simpa using fun h => hn (.inl h)
    subst hb'
    obtain ⟨a, r, rfl, ha⟩ : ∃ a r, s = a :: r ∧ ((a.toNat : Int) ≠ c ∨ r.length < 3) := by
      rcases hb with h | h | h
      · cases h
      · exact absurd (.inr h) hn
      · exact h
    clear hn hb
    by_cases hac : (a.toNat : Int) = c
    · have hr3 : r.length < 3 := by
        rcases ha with h | h
        · exact absurd hac h
        · exact h
      clear ha
      subst hac
      go_enter Try.func55, Try.ntmps55
      go_wp2_with fail
      refine (next_yes a r g _ H.out).mono ?_
      rintro e w1 ⟨rfl, rfl⟩
      go_wp2_with fail
      refine (fails_any (a :: r) false g _ H.out).mono ?_
      rintro e w1 ⟨rfl, hr, hu⟩
      go_wp2
      go_ret
      exact ⟨rfl, hr, hu⟩
    · clear ha
      go_enter Try.func55, Try.ntmps55
      go_wp2_with fail
      refine (next_yes a r g _ H.out).mono ?_
      rintro e w1 ⟨rfl, rfl⟩
      go_wp2_with fail
      refine (fails_any (a :: r) false g _ H.out).mono ?_
      rintro e w1 ⟨rfl, hr, hu⟩
      go_wp2
      go_ret
      exact ⟨rfl, hr, hu⟩

set_option maxRecDepth 100000 in
set_option maxHeartbeats 1600000 in
theorem readText_long (a x y z : UInt8) (s : List UInt8) (most : Int) (g : Nat) (w : World) (h : IsRd w g (a :: x :: y :: z :: s, false)) (hs : s.length ≤ 140737488351232) (hm : most ≤ 9223372036854775807) :
    Calls Try.prog 55 #[.pointer (some ⟨g, 0, none⟩), .int .u8 a.toNat, .int .i64 most] w fun e w' =>
      ∃ t r, rText a.toNat most (a :: x :: y :: z :: s, false) = (t, r) ∧ e = .returned (str t) ∧ IsRd w' g r ∧ w.grownBy w' (some g) := by
  have H := Lib.hid h
  obtain ⟨d0, d1, f0, f1⟩ := rd_cells h
  have hlt := Blk.lt h
  clear h
  have hx : (x.toNat : Int) < 256 := by have := x.toNat_lt; omega
  have hy : (y.toNat : Int) < 256 := by have := y.toNat_lt; omega
  have hz : (z.toNat : Int) < 256 := by have := z.toNat_lt; omega
  have kb := run_bytes_of_string (P := Try.prog) w 9 24 5 ⟨[x, y, z].toArray⟩ Try.underlying9 Try.underlying24 Try.underlying5
  have e0 := bytes3 w [x, y, z] (grownCap w 3 0 5) 0 (by simp)
  have e1 := bytes3 w [x, y, z] (grownCap w 3 0 5) 1 (by simp)
  have e2 := bytes3 w [x, y, z] (grownCap w 3 0 5) 2 (by simp)
  simp only [List.getElem_cons_zero, List.getElem_cons_succ] at e0 e1 e2
  go_enter Try.func55, Try.ntmps55
  go_wp2_with fail
  refine (next_yes a _ g _ H.out).mono ?_
  rintro e w1 ⟨rfl, rfl⟩
  go_wp2_with fail
  have k0 : bits BinOp.or IntKind.i64 0 x.toNat = x.toNat := by have := i64_or8 0 x.toNat (by omega) (by omega) (by omega) (by omega); simpa using this
  have k1 : bits BinOp.or IntKind.i64 ((x.toNat : Int) * 256) y.toNat = x.toNat * 256 + y.toNat := i64_or8 _ _ (by omega) (by omega) (by omega) (by omega)
  have k2 : bits BinOp.or IntKind.i64 (((x.toNat : Int) * 256 + y.toNat) * 256) z.toNat = (x.toNat * 256 + y.toNat) * 256 + z.toNat := i64_or8 _ _ (by omega) (by omega) (by omega) (by omega)
  clear kb
  by_cases hok : n3 x y z ≤ most ∧ n3 x y z ≤ s.length
  · have hok1 : ((x.toNat : Int) * 256 + y.toNat) * 256 + z.toNat ≤ most := hok.1
    have hok2 : ((x.toNat : Int) * 256 + y.toNat) * 256 + z.toNat ≤ s.length := hok.2
    have Hok := Lib.hid hok
    clear hok
    refine wp_loop_rounds 4 ?_
    rw [rounds_succ]
    go_wp2
    rw [rounds_succ]
    go_wp2
    rw [rounds_succ]
    go_wp2
    rw [rounds_succ]
    go_wp2
    go_ret
    refine ⟨_, (_, false), ?_, rfl, ((Blk.set_ H.out 0 _).alloc _).drew, upd_drew (upd_alloc (upd_set w g 0 _) _)⟩
    have hN : (n3 x y z).toNat = (x.toNat * 256 + y.toNat) * 256 + z.toNat := by unfold n3; omega
    unfold rText
    simp only []
    rw [if_pos ⟨trivial, Hok.out⟩, hN, take_four, take_cut]
  · have hcase : most < ((x.toNat : Int) * 256 + y.toNat) * 256 + z.toNat ∨ (((x.toNat : Int) * 256 + y.toNat) * 256 + z.toNat ≤ most ∧ (s.length : Int) < ((x.toNat : Int) * 256 + y.toNat) * 256 + z.toNat) := by
      unfold n3 at hok
      omega
    have Hok := Lib.hid hok
    clear hok
    rcases hcase with h1 | ⟨h1, h2⟩
    all_goals
      refine wp_loop_rounds 4 ?_
      rw [rounds_succ]
      go_wp2
      rw [rounds_succ]
      go_wp2
      rw [rounds_succ]
      go_wp2
      rw [rounds_succ]
      go_wp2_with fail
      refine (fails_any (a :: x :: y :: z :: s) false g _ (Blk.drew (Blk.alloc H.out _))).mono ?_
      rintro e w1 ⟨rfl, hr, hu⟩
      go_wp2
      go_ret
      refine ⟨[], (a :: x :: y :: z :: s, true), ?_, rfl, hr, upd_trans (upd_drew (upd_alloc (World.grownBy.refl w _) _)) hu⟩
      unfold rText
      simp only []
      rw [if_neg (fun h => Hok.out h.2)]

/-- Whatever the reader: what Text returns. -/
theorem readText_any (s : List UInt8) (b : Bool) (c most : Int) (g : Nat) (w : World) (h : IsRd w g (s, b)) (c0 : 0 ≤ c) (c1 : c ≤ 255) (hs : s.length ≤ 140737488351232) (hm : most ≤ 9223372036854775807)
    (t : List UInt8) (s' : List UInt8) (b' : Bool) (hr : rText c most (s, b) = (t, s', b')) :
    Calls Try.prog 55 #[.pointer (some ⟨g, 0, none⟩), .int .u8 c, .int .i64 most] w fun e w' => e = .returned (str t) ∧ IsRd w' g (s', b') ∧ w.grownBy w' (some g) := by
  by_cases hb : b = true ∨ s = [] ∨ ∃ a r, s = a :: r ∧ ((a.toNat : Int) ≠ c ∨ r.length < 3)
  · have hn : rText c most (s, b) = ([], s, true) := by
      unfold rText
      split
      · rename_i a x y z r hh
        injection hh with h1 h2
        subst h1 h2
        rw [if_neg]
        rintro ⟨k1, k2, k3⟩
        rcases hb with hb | hb | ⟨a', r', hb, hb'⟩
        · cases hb
        · cases hb
        · injection hb with e1 e2
          subst e1 e2
          rcases hb' with hb' | hb'
          · exact hb' k1
          · simp at hb'; omega
      · rename_i hh
        injection hh with h1 h2
        subst h1
        rfl
    rw [hn] at hr
    injection hr with e1 e2
    injection e2 with e2 e3
    subst e1 e2 e3
    exact readText_bad s b c most g w h c0 c1 hb
  · have hb1 : b = false := by simpa using fun h => hb (.inl h)
    subst hb1
    match s, hs, h, hr, hb with
    | [], _, _, _, hb => exact absurd (.inr (.inl rfl)) hb
    | [a], _, _, _, hb => exact absurd (.inr (.inr ⟨a, [], rfl, .inr (by simp)⟩)) hb
    | [a, x], _, _, _, hb => exact absurd (.inr (.inr ⟨a, [x], rfl, .inr (by simp)⟩)) hb
    | [a, x, y], _, _, _, hb => exact absurd (.inr (.inr ⟨a, [x, y], rfl, .inr (by simp)⟩)) hb
    | a :: x :: y :: z :: s, hs, h, hr, hb =>
      have hac : (a.toNat : Int) = c := by
        apply Classical.byContradiction
        intro hne
        exact hb (.inr (.inr ⟨a, _, rfl, .inl hne⟩))
      subst hac
      refine (readText_long a x y z s most g w h (by simp at hs; omega) hm).mono ?_
      rintro e w' ⟨t', r', h1, h2, h3, h4⟩
      rw [hr] at h1
      injection h1 with e1 e2
      subst e1 e2
      exact ⟨h2, h3, h4⟩
end Go.Proofs.Ytlkgloakcpfnnaa

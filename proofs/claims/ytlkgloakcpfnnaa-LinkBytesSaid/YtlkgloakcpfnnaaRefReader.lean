/-
  What the document's own reader's Text returns, and how it leaves the reader. For texts within the reach.
-/
import Derived.Test.YtlkgloakcpfnnaaReadText
import Derived.Deep.QuietTactic
import Derived.BigQuiet
namespace Go.Proofs.Ytlkgloakcpfnnaa
open Go.RowKit

/-- Block g is the document's reader in state r. -/
def IsRR (w : World) (g : Nat) (r : Rd) : Prop := Blk w g 86 #[str r.1, .bool r.2]
theorem rr_cells {w : World} {g : Nat} {s : List UInt8} {b : Bool} (h : IsRR w g (s, b)) : w.cell? ⟨g, 0, none⟩ = some (str s) ∧ w.cell? ⟨g, 1, none⟩ = some (.bool b) ∧ w.frozen? ⟨g, 0, none⟩ = false ∧ w.frozen? ⟨g, 1, none⟩ = false :=
  ⟨Blk.cell h 0, Blk.cell h 1, Blk.frozen h 0, Blk.frozen h 1⟩
theorem rr_drewN {w : World} {g : Nat} {r : Rd} (h : IsRR w g r) (n : Nat) : IsRR (w.drewN n) g r := h
theorem upd_drewN (w : World) (n : Nat) (row : Option Nat) : w.grownBy (w.drewN n) row := ⟨rfl, rfl, rfl, Nat.le_refl _, fun _ _ _ => rfl⟩
theorem rText_short (c most : Int) (s : List UInt8) (b : Bool) (h : s.length < 4) : rText c most (s, b) = ([], s, true) := by
  unfold rText
  split
  · rename_i h0
    injection h0 with h1 h2
    subst h1
    simp only [List.length_cons] at h
    omega
  · rename_i h0
    injection h0 with h1 h2
    subst h1
    rfl
theorem rText_other (c most : Int) (a x y z : UInt8) (s : List UInt8) (h : ¬ (a.toNat : Int) = c) : rText c most (a :: x :: y :: z :: s, false) = ([], a :: x :: y :: z :: s, true) := by
  unfold rText
  simp only []
  rw [if_neg (fun k => h k.1)]
theorem rText_true (c most : Int) (s : List UInt8) : rText c most (s, true) = ([], s, true) := by
  unfold rText
  split
  · rename_i h; injection h with h1 h2; cases h2
  · rename_i h; injection h with h1 h2; subst h1; rfl

set_option maxRecDepth 100000 in
set_option maxHeartbeats 1600000 in
theorem refReadText_any (s : List UInt8) (b : Bool) (c most : Int) (g : Nat) (w : World) (h : IsRR w g (s, b)) (c0 : 0 ≤ c) (c1 : c ≤ 255) (hs : s.length ≤ 140737488351232) (hm : most ≤ 9223372036854775807)
    (t s' : List UInt8) (b' : Bool) (hr : rText c most (s, b) = (t, s', b')) :
    Calls Try.prog 59 #[.pointer (some ⟨g, 0, none⟩), .int .u8 c, .int .i64 most] w fun e w' => e = .returned (str t) ∧ IsRR w' g (s', b') ∧ w.grownBy w' (some g) := by
  have H := Lib.hid h
  obtain ⟨d0, d1, f0, f1⟩ := rr_cells h
  have hlt := Blk.lt h
  clear h
  cases b
  · by_cases h4 : s.length < 4
    · rw [rText_short c most s false h4] at hr
      simp only [Prod.mk.injEq] at hr
      obtain ⟨rfl, rfl, rfl⟩ := hr
      go_enter Try.func59, Try.ntmps59
      go_wp2
      go_ret
      exact ⟨rfl, Blk.set_ H.out 1 _, upd_set w g 1 _⟩
    · obtain ⟨a, x, y, z, r, rfl⟩ : ∃ a x y z r, s = a :: x :: y :: z :: r := by
        match s, h4 with
        | a :: x :: y :: z :: r, _ => exact ⟨a, x, y, z, r, rfl⟩
        | [], h => simp at h
        | [_], h => simp at h
        | [_, _], h => simp at h
        | [_, _, _], h => simp at h
      clear h4
      have hx : (x.toNat : Int) < 256 := by have := x.toNat_lt; omega
      have hy : (y.toNat : Int) < 256 := by have := y.toNat_lt; omega
      have hz : (z.toNat : Int) < 256 := by have := z.toNat_lt; omega
      simp only [List.length_cons] at hs
      by_cases hac : (a.toNat : Int) = c
      · by_cases hok : n3 x y z ≤ most ∧ n3 x y z ≤ r.length
        · have hN : (n3 x y z).toNat = x.toNat * 65536 + y.toNat * 256 + z.toNat := by unfold n3; omega
          have hn3 : n3 x y z = x.toNat * 65536 + y.toNat * 256 + z.toNat := by unfold n3; omega
          have hok1 := hok.1
          have hok2 := hok.2
          rw [hn3] at hok1 hok2
          unfold rText at hr
          simp only [] at hr
          rw [if_pos ⟨hac, hok⟩, hN] at hr
          simp only [Prod.mk.injEq] at hr
          obtain ⟨rfl, rfl, rfl⟩ := hr
          clear hok hN hn3
          subst hac
          go_enter Try.func59, Try.ntmps59
          go_wp2
          go_quiet (fail)
          go_wp2
          go_ret
          simp only [take_four, take_cut]
          exact ⟨rfl, Blk.set_ (rr_drewN H.out _) 0 _, upd_trans (upd_drewN w _ _) (upd_set _ g 0 _)⟩
        · have hn3 : n3 x y z = x.toNat * 65536 + y.toNat * 256 + z.toNat := by unfold n3; omega
          have hcase : most < x.toNat * 65536 + y.toNat * 256 + z.toNat ∨ ((x.toNat : Int) * 65536 + y.toNat * 256 + z.toNat ≤ most ∧ (r.length : Int) < x.toNat * 65536 + y.toNat * 256 + z.toNat) := by omega
          unfold rText at hr
          simp only [] at hr
          rw [if_neg (fun k => hok k.2)] at hr
          simp only [Prod.mk.injEq] at hr
          obtain ⟨rfl, rfl, rfl⟩ := hr
          clear hok hn3
          subst hac
          rcases hcase with h1 | ⟨h1, h2⟩
          all_goals
            go_enter Try.func59, Try.ntmps59
            go_wp2
            go_quiet (fail)
            go_wp2
            go_ret
            exact ⟨rfl, Blk.set_ (rr_drewN H.out _) 1 _, upd_trans (upd_drewN w _ _) (upd_set _ g 1 _)⟩
      · rw [rText_other c most a x y z r hac] at hr
        simp only [Prod.mk.injEq] at hr
        obtain ⟨rfl, rfl, rfl⟩ := hr
        have hac' : ((a.toNat : Int) != c) = true := by simpa using hac
        go_enter Try.func59, Try.ntmps59
        go_wp2
        go_ret
        exact ⟨rfl, Blk.set_ H.out 1 _, upd_set w g 1 _⟩
  · rw [rText_true] at hr
    simp only [Prod.mk.injEq] at hr
    obtain ⟨rfl, rfl, rfl⟩ := hr
    go_enter Try.func59, Try.ntmps59
    go_wp2
    go_ret
    exact ⟨rfl, Blk.set_ H.out 1 _, upd_set w g 1 _⟩
end Go.Proofs.Ytlkgloakcpfnnaa

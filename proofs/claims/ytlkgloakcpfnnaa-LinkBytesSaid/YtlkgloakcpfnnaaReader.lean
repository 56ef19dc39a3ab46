/-
  What the methods Good, fails, Next, Left, End and Text of tlv.Reader return, and how they leave the reader. For readers that are not nil, of texts within the reach.
-/
import Derived.Test.YtlkgloakcpfnnaaTlvNum
import Derived.Test.YtlkgloakcpfnnaaBlk
namespace Go.Proofs.Ytlkgloakcpfnnaa
open Go.RowKit

/-- A reader: what is left, and whether it is bad. -/
abbrev Rd := List UInt8 × Bool
/-- The reader behind address g is r. -/
def IsRd (w : World) (g : Nat) (r : Rd) : Prop := Blk w g 92 #[str r.1, .bool r.2]
theorem rd_cells {w : World} {g : Nat} {s : List UInt8} {b : Bool} (h : IsRd w g (s, b)) : w.cell? ⟨g, 0, none⟩ = some (str s) ∧ w.cell? ⟨g, 1, none⟩ = some (.bool b) ∧ w.frozen? ⟨g, 0, none⟩ = false ∧ w.frozen? ⟨g, 1, none⟩ = false :=
  ⟨Blk.cell h 0, Blk.cell h 1, Blk.frozen h 0, Blk.frozen h 1⟩

set_option maxHeartbeats 400000 in
theorem good_any (s : List UInt8) (b : Bool) (g : Nat) (w : World) (h : IsRd w g (s, b)) :
    Calls Try.prog 58 #[.pointer (some ⟨g, 0, none⟩)] w fun e w' => e = .returned (.bool !b) ∧ w = w' := by
  obtain ⟨c0, c1, f0, f1⟩ := rd_cells h
  clear h
  go_enter Try.func58, Try.ntmps58
  go_wp2
  go_ret
  exact ⟨by simp, rfl⟩

set_option maxHeartbeats 400000 in
theorem fails_any (s : List UInt8) (b : Bool) (g : Nat) (w : World) (h : IsRd w g (s, b)) :
    Calls Try.prog 72 #[.pointer (some ⟨g, 0, none⟩)] w fun e w' => e = .returned (.tuple #[]) ∧ IsRd w' g (s, true) ∧ w.grownBy w' (some g) := by
  obtain ⟨c0, c1, f0, f1⟩ := rd_cells h
  have H := Lib.hid h
  clear h
  go_enter Try.func72, Try.ntmps72
  go_wp2
  go_end0
  exact ⟨rfl, Blk.set_ H.out 1 _, upd_set w g 1 _⟩

/-- What stands next. -/
def rNext (r : Rd) : Int × Bool := if r.2 = true ∨ r.1 = [] then (0, false) else (((r.1.headD 0).toNat : Int), true)

set_option maxHeartbeats 800000 in
theorem next_no (s : List UInt8) (b : Bool) (g : Nat) (w : World) (h : IsRd w g (s, b)) (hb : b = true ∨ s = []) :
    Calls Try.prog 71 #[.pointer (some ⟨g, 0, none⟩)] w fun e w' => e = .returned (.tuple #[.int .u8 0, .bool false]) ∧ w = w' := by
  have H := Lib.hid h
  obtain ⟨c0, c1, f0, f1⟩ := rd_cells h
  clear h
  cases b
  · obtain rfl : s = [] := by simpa using hb
    clear hb
    go_enter Try.func71, Try.ntmps71
    go_wp2_with fail
    refine (good_any [] false g _ H.out).mono ?_
    rintro e w1 ⟨rfl, rfl⟩
    go_wp2
    go_ret2
    exact ⟨rfl, rfl⟩
  · clear hb
    go_enter Try.func71, Try.ntmps71
    go_wp2_with fail
    refine (good_any s true g _ H.out).mono ?_
    rintro e w1 ⟨rfl, rfl⟩
    go_wp2
    go_ret2
    exact ⟨rfl, rfl⟩

set_option maxHeartbeats 800000 in
theorem next_yes (x : UInt8) (s : List UInt8) (g : Nat) (w : World) (h : IsRd w g (x :: s, false)) :
    Calls Try.prog 71 #[.pointer (some ⟨g, 0, none⟩)] w fun e w' => e = .returned (.tuple #[.int .u8 x.toNat, .bool true]) ∧ w = w' := by
  have H := Lib.hid h
  obtain ⟨c0, c1, f0, f1⟩ := rd_cells h
  clear h
  go_enter Try.func71, Try.ntmps71
  go_wp2_with fail
  refine (good_any (x :: s) false g _ H.out).mono ?_
  rintro e w1 ⟨rfl, rfl⟩
  go_wp2
  go_ret2
  exact ⟨rfl, rfl⟩

set_option maxHeartbeats 800000 in
theorem left_any (s : List UInt8) (b : Bool) (g : Nat) (w : World) (h : IsRd w g (s, b)) :
    Calls Try.prog 56 #[.pointer (some ⟨g, 0, none⟩)] w fun e w' => e = .returned (.int .i64 (if b = true then 0 else s.length)) ∧ w = w' := by
  have H := Lib.hid h
  obtain ⟨c0, c1, f0, f1⟩ := rd_cells h
  clear h
  cases b
  all_goals
    go_enter Try.func56, Try.ntmps56
    go_wp2_with fail
    refine (good_any s _ g _ H.out).mono ?_
    rintro e w1 ⟨rfl, rfl⟩
    go_wp2
    go_ret
    exact ⟨rfl, rfl⟩

/-- Was all read? -/
def rEnd (r : Rd) : Int := if r.2 = true ∨ r.1 ≠ [] then 10 else 0
set_option maxHeartbeats 800000 in
theorem end_any (s : List UInt8) (b : Bool) (g : Nat) (w : World) (h : IsRd w g (s, b)) :
    Calls Try.prog 60 #[.pointer (some ⟨g, 0, none⟩)] w fun e w' => e = .returned (.int .i64 (rEnd (s, b))) ∧ w = w' := by
  have H := Lib.hid h
  obtain ⟨c0, c1, f0, f1⟩ := rd_cells h
  clear h
  cases b
  · cases s
    all_goals
      go_enter Try.func60, Try.ntmps60
      go_wp2_with fail
      refine (good_any _ false g _ H.out).mono ?_
      rintro e w1 ⟨rfl, rfl⟩
      go_wp2
      go_ret
      exact ⟨by simp [rEnd], rfl⟩
  · go_enter Try.func60, Try.ntmps60
    go_wp2_with fail
    refine (good_any s true g _ H.out).mono ?_
    rintro e w1 ⟨rfl, rfl⟩
    go_wp2
    go_ret
    exact ⟨by simp [rEnd], rfl⟩
end Go.Proofs.Ytlkgloakcpfnnaa

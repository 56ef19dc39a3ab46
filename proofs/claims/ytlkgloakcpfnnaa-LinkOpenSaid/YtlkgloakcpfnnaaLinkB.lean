/-
  What link.Check, is, Init, Try, opens, Ack, Confirm and Close return, for ends and names of at most 2^47 bytes a text.
-/
import Derived.Test.YtlkgloakcpfnnaaLinkA
namespace Go.Proofs.Ytlkgloakcpfnnaa
open Go.RowKit

/-- A text that fits. -/
def Fits (l : List UInt8) : Prop := l.length ≤ 140737488351232
theorem Fits.nil : Fits [] := by unfold Fits; simp

/-- An end: its state, on what it stands, on what the other one stands, the other one's name. -/
abbrev En := Int × List UInt8 × List UInt8 × List UInt8
def noEn : En := (0, [], [], [])
/-- May an end be? -/
def checkE (e : En) : Bool :=
  if e.1 = 1 then (partB e.2.1 && partB e.2.2.1) && decide (e.2.2.2 = [])
  else if e.1 = 2 ∨ e.1 = 3 ∨ e.1 = 4 then (partB e.2.1 && partB e.2.2.1) && partB e.2.2.2 else false
def isE (e : En) (k : Int) : Bool := decide (e.1 = k) && checkE e
def initR (o p : List UInt8) : En × Int := if partB o && partB p then ((1, o, p, []), 0) else (noEn, 1)
def tryR (o p : List UInt8) (t : En) : En × Int :=
  if (partB o && partB p) = false then (noEn, 1) else if (isE t 1 && decide (t.2.2.1 = o)) = false then (noEn, 13) else ((2, o, t.2.1, p), 0)
def meansE (own : En) (id : List UInt8) (t : En) : Bool := (decide (t.2.1 = own.2.2.1) && decide (t.2.2.1 = own.2.1)) && decide (t.2.2.2 = id)
def opensR (own : En) (st : Int) (id peer : List UInt8) (t : En) (other : Int) : En × Int :=
  if (isE own st && isE t other && meansE own id t) = true then ((3, own.2.1, own.2.2.1, peer), 0) else (noEn, 13)
def ackR (own : En) (id peer : List UInt8) (t : En) : En × Int := if (partB id && partB peer) = false then (noEn, 1) else opensR own 1 id peer t 2
def confirmR (own : En) (id : List UInt8) (t : En) : En × Int := opensR own 2 id own.2.2.2 t 3
def closeR (own : En) : En × Int := if isE own 3 = true then ((4, own.2.1, own.2.2.1, own.2.2.2), 0) else (noEn, 13)

theorem parts2_any (a b : List UInt8) (g : Nat) (v : Bool) (w : World) (hv : (partB a && partB b) = v) (fa : Fits a) (fb : Fits b)
    (c0 : w.cell? ⟨g, 0, none⟩ = some (str a)) (c1 : w.cell? ⟨g, 1, none⟩ = some (str b)) (hg : g < w.heap.size) :
    Calls Try.prog 49 #[.slice (some ⟨g, 0, none⟩) 2 2] w fun e w' => e = .returned (.bool v) ∧ Below w.heap.size w w' :=
  parts_any [a, b] g v w (by rw [← hv]; simp) (by simp) (by
    intro i h
    match i, h with
    | 0, _ => exact fa
    | 1, _ => exact fb) (by
    intro i h
    match i, h with
    | 0, _ => exact c0
    | 1, _ => exact c1) hg
theorem parts3_any (a b c : List UInt8) (g : Nat) (v : Bool) (w : World) (hv : ((partB a && partB b) && partB c) = v) (fa : Fits a) (fb : Fits b) (fc : Fits c)
    (c0 : w.cell? ⟨g, 0, none⟩ = some (str a)) (c1 : w.cell? ⟨g, 1, none⟩ = some (str b)) (c2 : w.cell? ⟨g, 2, none⟩ = some (str c)) (hg : g < w.heap.size) :
    Calls Try.prog 49 #[.slice (some ⟨g, 0, none⟩) 3 3] w fun e w' => e = .returned (.bool v) ∧ Below w.heap.size w w' :=
  parts_any [a, b, c] g v w (by rw [← hv]; simp [Bool.and_assoc]) (by simp) (by
    intro i h
    match i, h with
    | 0, _ => exact fa
    | 1, _ => exact fb
    | 2, _ => exact fc) (by
    intro i h
    match i, h with
    | 0, _ => exact c0
    | 1, _ => exact c1
    | 2, _ => exact c2) hg

theorem checkE_1 (a b c : List UInt8) : checkE (1, a, b, c) = ((partB a && partB b) && decide (c = [])) := by simp [checkE]
theorem checkE_2 (a b c : List UInt8) : checkE (2, a, b, c) = ((partB a && partB b) && partB c) := by simp [checkE]
theorem checkE_3 (a b c : List UInt8) : checkE (3, a, b, c) = ((partB a && partB b) && partB c) := by simp [checkE]
theorem checkE_4 (a b c : List UInt8) : checkE (4, a, b, c) = ((partB a && partB b) && partB c) := by simp [checkE]
theorem checkE_no (st : Int) (a b c : List UInt8) (h1 : st ≠ 1) (h2 : st ≠ 2) (h3 : st ≠ 3) (h4 : st ≠ 4) : checkE (st, a, b, c) = false := by simp [checkE, h1, h2, h3, h4]

set_option maxRecDepth 100000 in
set_option maxHeartbeats 1600000 in
theorem check_any (st : Int) (a b c : List UInt8) (v : Bool) (w : World) (hv : checkE (st, a, b, c) = v) (fa : Fits a) (fb : Fits b) (fc : Fits c) :
    Calls Try.prog 34 #[.agg #[.int .i64 st, str a, str b, str c]] w fun e w' => e = .returned (.bool v) ∧ Below w.heap.size w w' := by
  have Hv := Lib.hid hv
  clear hv
  by_cases h1 : st = 1
  · subst h1
    obtain ⟨u, hu⟩ : ∃ u, (partB a && partB b) = u := ⟨_, rfl⟩
    have Hu := Lib.hid hu
    clear hu
    cases u
    · go_enter Try.func34, Try.ntmps34
      go_wp2_with fail
      refine (parts2_any a b _ false _ Hu.out fa fb (by simp [go_sem]) (by simp [go_sem]) (by simp)).mono ?_
      rintro e w1 ⟨rfl, hb1⟩
      go_wp2
      go_ret
      exact ⟨by rw [← Hv.out, checkE_1, Hu.out]; rfl, bel_step (by go_grown) hb1⟩
    · by_cases hc : c = []
      · subst hc
        go_enter Try.func34, Try.ntmps34
        go_wp2_with fail
        refine (parts2_any a b _ true _ Hu.out fa fb (by simp [go_sem]) (by simp [go_sem]) (by simp)).mono ?_
        rintro e w1 ⟨rfl, hb1⟩
        obtain ⟨hc, hf⟩ := bcell hb1
        go_wp2
        go_ret
        exact ⟨by rw [← Hv.out, checkE_1, Hu.out]; rfl, bel_step (by go_grown) hb1⟩
      · have hc' : c.isEmpty = false := by simpa using hc
        have Hc := Lib.hid hc
        clear hc
        go_enter Try.func34, Try.ntmps34
        go_wp2_with fail
        refine (parts2_any a b _ true _ Hu.out fa fb (by simp [go_sem]) (by simp [go_sem]) (by simp)).mono ?_
        rintro e w1 ⟨rfl, hb1⟩
        obtain ⟨hc, hf⟩ := bcell hb1
        go_wp2
        go_ret
        exact ⟨by rw [← Hv.out, checkE_1, Hu.out, decide_eq_false Hc.out]; rfl, bel_step (by go_grown) hb1⟩
  · obtain ⟨u, hu⟩ : ∃ u, ((partB a && partB b) && partB c) = u := ⟨_, rfl⟩
    have Hu := Lib.hid hu
    clear hu
    by_cases h2 : st = 2
    · subst h2
      go_enter Try.func34, Try.ntmps34
      go_wp2_with fail
      refine (parts3_any a b c _ u _ Hu.out fa fb fc (by simp [go_sem]) (by simp [go_sem]) (by simp [go_sem]) (by simp)).mono ?_
      rintro e w1 ⟨rfl, hb1⟩
      go_wp2
      go_ret
      exact ⟨by rw [← Hv.out, checkE_2, Hu.out]; rfl, bel_step (by go_grown) hb1⟩
    by_cases h3 : st = 3
    · subst h3
      go_enter Try.func34, Try.ntmps34
      go_wp2_with fail
      refine (parts3_any a b c _ u _ Hu.out fa fb fc (by simp [go_sem]) (by simp [go_sem]) (by simp [go_sem]) (by simp)).mono ?_
      rintro e w1 ⟨rfl, hb1⟩
      go_wp2
      go_ret
      exact ⟨by rw [← Hv.out, checkE_3, Hu.out]; rfl, bel_step (by go_grown) hb1⟩
    by_cases h4 : st = 4
    · subst h4
      go_enter Try.func34, Try.ntmps34
      go_wp2_with fail
      refine (parts3_any a b c _ u _ Hu.out fa fb fc (by simp [go_sem]) (by simp [go_sem]) (by simp [go_sem]) (by simp)).mono ?_
      rintro e w1 ⟨rfl, hb1⟩
      go_wp2
      go_ret
      exact ⟨by rw [← Hv.out, checkE_4, Hu.out]; rfl, bel_step (by go_grown) hb1⟩
    · have hn := checkE_no st a b c h1 h2 h3 h4
      have Hn := Lib.hid hn
      clear hn
      go_enter Try.func34, Try.ntmps34
      go_wp2
      go_ret
      exact ⟨by rw [← Hv.out, Hn.out]; rfl, by go_grown⟩

set_option maxRecDepth 100000 in
set_option maxHeartbeats 800000 in
theorem is_any (st : Int) (a b c : List UInt8) (k : Int) (v : Bool) (w : World) (hv : isE (st, a, b, c) k = v) (fa : Fits a) (fb : Fits b) (fc : Fits c) :
    Calls Try.prog 50 #[.agg #[.int .i64 st, str a, str b, str c], .int .i64 k] w fun e w' => e = .returned (.bool v) ∧ Below w.heap.size w w' := by
  have Hv := Lib.hid hv
  clear hv
  by_cases h : st = k
  · subst h
    go_enter Try.func50, Try.ntmps50
    go_wp2_with fail
    refine (check_any st a b c v _ (by rw [← Hv.out]; simp [isE]) fa fb fc).mono ?_
    rintro e w1 ⟨rfl, hb1⟩
    go_wp2
    go_ret
    exact ⟨by simp, bel_step (by go_grown) hb1⟩
  · go_enter Try.func50, Try.ntmps50
    go_wp2
    go_ret
    exact ⟨by rw [← Hv.out]; simp [isE, h], by go_grown⟩
end Go.Proofs.Ytlkgloakcpfnnaa

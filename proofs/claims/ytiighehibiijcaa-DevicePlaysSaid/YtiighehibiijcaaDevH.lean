/-
  What Write and Flush of device.Device do; of a device, and of none. No conditions beside those in each theorem.
-/
import Derived.Test.YtiighehibiijcaaDevG
namespace Go.Proofs.Ytiighehibiijcaa
open Go.RowKit

def writeE (d : Dev) (k : Int) (s : List UInt8) : Int := if d.on then (if hasD d.n k then (if s.length = 64 then (if goesD d then 0 else 14) else 1) else 1) else 14
def writeR (d : Dev) (k : Int) (s : List UInt8) : Dev := if d.on then (if hasD d.n k then (if s.length = 64 then writeD d k s else d) else d) else d

set_option maxRecDepth 100000 in
set_option maxHeartbeats 2000000 in
theorem write_any (w : World) (g gm : Nat) (v : Value) (cap B : Nat) (d : Dev) (k : Int) (s : List UInt8) (hd : IsDev w g gm v cap B d) (hok : OkD d) :
    Calls Try.prog 17 #[.pointer (some ⟨g, 0, none⟩), .int .i64 k, str s] w
      fun e w' => e = .returned (.int .i64 (writeE d k s)) ∧ ∃ v', IsDev w' g gm v' cap B (writeR d k s) ∧ Touch g gm w v w' v' := by
  have hb : Below w.heap.size w (((w.alloc (.cells #[.pointer (some ⟨g, 0, none⟩)] 24)).alloc (.cells #[.int .i64 k] 3)).alloc (.cells #[str s] 9)) := (((Below.refl _ _).alloc (Nat.le_refl _) _).alloc (by simp) _).alloc (by simp; omega) _
  have HD1 := Lib.hid (hd.step hb)
  have T1 := Lib.hid (Touch.of_below (g := g) (gm := gm) (v := v) hb)
  have HB1 := Lib.hid (((Blk.new w 24 #[.pointer (some ⟨g, 0, none⟩)]).alloc (.cells #[.int .i64 k] 3)).alloc (.cells #[str s] 9))
  have HB2 := Lib.hid ((Blk.new_at (w := w.alloc (.cells #[.pointer (some ⟨g, 0, none⟩)] 24)) (n := w.heap.size + 1) (by simp) 3 #[.int .i64 k]).alloc (.cells #[str s] 9))
  have HB3 := Lib.hid (Blk.new_at (w := (w.alloc (.cells #[.pointer (some ⟨g, 0, none⟩)] 24)).alloc (.cells #[.int .i64 k] 3)) (n := w.heap.size + 1 + 1) (by simp) 9 #[str s])
  unfold writeE writeR
  have OK := Lib.hid hok
  obtain ⟨-, -, -, c3, -⟩ := dev_cells HD1.out
  obtain ⟨on, hon⟩ : ∃ u, d.on = u := ⟨_, rfl⟩
  rw [hon] at c3 ⊢
  clear hd hok hb hon
  cases on
  · go_enter Try.func17, Try.ntmps17
    go_wp2_with fail
    go_ret
    exact ⟨rfl, v, HD1.out, T1.out⟩
  · obtain ⟨u, hu⟩ : ∃ u, hasD d.n k = u := ⟨_, rfl⟩
    rw [hu]
    have HU := Lib.hid hu
    clear hu
    cases u
    · go_enter Try.func17, Try.ntmps17
      go_wp2_with fail
      refine (has_any _ g gm v cap B d k false HD1.out HU.out).mono ?_
      rintro e w1 ⟨rfl, rfl⟩
      go_wp2_with fail
      go_ret
      exact ⟨rfl, v, HD1.out, T1.out⟩
    · by_cases h64 : s.length = 64
      · have h64' : (s.length : Int) = 64 := by omega
        rw [if_pos h64, if_pos h64]
        simp only [if_true]
        obtain ⟨er, her⟩ : ∃ er, (if goesD d = true then (0 : Int) else 14) = er := ⟨_, rfl⟩
        rw [her]
        have HE := Lib.hid her
        clear her
        go_enter Try.func17, Try.ntmps17
        go_wp2_with fail
        refine (has_any _ g gm v cap B d k true HD1.out HU.out).mono ?_
        rintro e w1 ⟨rfl, rfl⟩
        go_wp2_with fail
        refine (step_put _ g gm v cap B d _ _ _ k s HD1.out OK.out HB1.out HB2.out HB3.out).mono ?_
        rw [HE.out]
        rintro e w2 ⟨rfl, v2, hd2, t2⟩
        have HD2 := Lib.hid hd2
        have T2 := Lib.hid (T1.out.trans t2)
        clear hd2 t2 c3
        go_wp2
        go_ret
        exact ⟨rfl, v2, HD2.out, T2.out⟩
      · have h64' : ¬ (s.length : Int) = 64 := by omega
        rw [if_neg h64, if_neg h64]
        simp only [if_true]
        go_enter Try.func17, Try.ntmps17
        go_wp2_with fail
        refine (has_any _ g gm v cap B d k true HD1.out HU.out).mono ?_
        rintro e w1 ⟨rfl, rfl⟩
        go_wp2_with fail
        go_ret
        exact ⟨rfl, v, HD1.out, T1.out⟩

def flushE (d : Dev) : Int := if d.on then (if goesD d then 0 else 14) else 14
def flushR (d : Dev) : Dev := if d.on then fluD d else d
set_option maxRecDepth 100000 in
set_option maxHeartbeats 2000000 in
theorem flush_any (w : World) (g gm : Nat) (v : Value) (cap B : Nat) (d : Dev) (hd : IsDev w g gm v cap B d) (hok : OkD d) (hw : WaitsOk d.waits) (hn : cap + d.waits.length < 4611686018427) :
    Calls Try.prog 19 #[.pointer (some ⟨g, 0, none⟩)] w
      fun e w' => e = .returned (.int .i64 (flushE d)) ∧ ∃ v' cap', cap' ≤ cap + d.waits.length ∧ IsDev w' g gm v' cap' B (flushR d) ∧ Touch g gm w v w' v' := by
  have hb : Below w.heap.size w (w.alloc (.cells #[.pointer (some ⟨g, 0, none⟩)] 24)) := (Below.refl _ _).alloc (Nat.le_refl _) _
  have HD1 := Lib.hid (hd.step hb)
  have T1 := Lib.hid (Touch.of_below (g := g) (gm := gm) (v := v) hb)
  have HB1 := Lib.hid (Blk.new w 24 #[.pointer (some ⟨g, 0, none⟩)])
  unfold flushE flushR
  have OK := Lib.hid hok
  obtain ⟨-, -, -, c3, -⟩ := dev_cells HD1.out
  obtain ⟨on, hon⟩ : ∃ u, d.on = u := ⟨_, rfl⟩
  rw [hon] at c3 ⊢
  clear hd hok hb hon
  cases on
  · go_enter Try.func19, Try.ntmps19
    go_wp2_with fail
    go_ret
    exact ⟨rfl, v, cap, Nat.le_add_right _ _, HD1.out, T1.out⟩
  · simp only [if_true]
    obtain ⟨er, her⟩ : ∃ er, (if goesD d = true then (0 : Int) else 14) = er := ⟨_, rfl⟩
    rw [her]
    have HE := Lib.hid her
    clear her
    go_enter Try.func19, Try.ntmps19
    go_wp2_with fail
    refine (step_flush _ g gm v cap B d _ HD1.out OK.out hw hn HB1.out).mono ?_
    rw [HE.out]
    rintro e w2 ⟨rfl, v2, cap2, hcap, hd2, t2⟩
    have HD2 := Lib.hid hd2
    have T2 := Lib.hid (T1.out.trans t2)
    clear hd2 t2 c3
    go_wp2
    go_ret
    exact ⟨rfl, v2, cap2, hcap, HD2.out, T2.out⟩
theorem write_nil (w : World) (k : Int) (s : List UInt8) :
    Calls Try.prog 17 #[.pointer none, .int .i64 k, str s] w fun e w' => e = .returned (.int .i64 1) ∧ Below w.heap.size w w' := by
  go_enter Try.func17, Try.ntmps17
  go_wp2_with fail
  go_ret
  exact ⟨rfl, (((Below.refl _ _).alloc (Nat.le_refl _) _).alloc (by simp) _).alloc (by simp; omega) _⟩
theorem flush_nil (w : World) :
    Calls Try.prog 19 #[.pointer none] w fun e w' => e = .returned (.int .i64 1) ∧ Below w.heap.size w w' := by
  go_enter Try.func19, Try.ntmps19
  go_wp2_with fail
  go_ret
  exact ⟨rfl, (Below.refl _ _).alloc (Nat.le_refl _) _⟩
end Go.Proofs.Ytiighehibiijcaa

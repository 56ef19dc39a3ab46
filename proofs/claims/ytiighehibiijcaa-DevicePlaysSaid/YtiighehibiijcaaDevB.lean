/-
  What has, Safe, Sectors, Steps, On, Arm and New of device.Device return and do; of a device, and of none. No conditions beside those in each theorem.
-/
import Derived.Test.YtiighehibiijcaaDevA
namespace Go.Proofs.Ytiighehibiijcaa
open Go.RowKit

/-- Is there such a sector? -/
def hasD (n k : Int) : Bool := decide (0 ≤ k) && decide (k < n)

set_option maxHeartbeats 800000 in
theorem has_any (w : World) (g gm : Nat) (v : Value) (cap B : Nat) (d : Dev) (k : Int) (u : Bool) (hd : IsDev w g gm v cap B d) (hu : hasD d.n k = u) :
    Calls Try.prog 48 #[.pointer (some ⟨g, 0, none⟩), .int .i64 k] w fun e w' => e = .returned (.bool u) ∧ w = w' := by
  obtain ⟨c0, -⟩ := dev_cells hd
  clear hd
  unfold hasD at hu
  by_cases h0 : 0 ≤ k
  · by_cases h1 : k < d.n
    · obtain rfl : u = true := by rw [← hu]; simp [h0, h1]
      clear hu
      go_enter Try.func48, Try.ntmps48
      go_wp2
      go_ret
      exact ⟨rfl, rfl⟩
    · obtain rfl : u = false := by rw [← hu]; simp [h0, h1]
      have h2 : decide (k < d.n) = false := by simpa using h1
      clear hu
      go_enter Try.func48, Try.ntmps48
      go_wp2
      go_ret
      exact ⟨rfl, rfl⟩
  · obtain rfl : u = false := by rw [← hu]; simp [h0]
    have h2 : decide (0 ≤ k) = false := by simpa using h0
    clear hu
    go_enter Try.func48, Try.ntmps48
    go_wp2
    go_ret
    exact ⟨rfl, rfl⟩
set_option maxHeartbeats 800000 in
theorem has_nil (w : World) (k : Int) :
    Calls Try.prog 48 #[.pointer none, .int .i64 k] w fun e w' => e = .returned (.bool false) ∧ w = w' := by
  go_enter Try.func48, Try.ntmps48
  go_wp2
  go_ret
  exact ⟨rfl, rfl⟩
set_option maxHeartbeats 400000 in
theorem sectors_any (w : World) (g gm : Nat) (v : Value) (cap B : Nat) (d : Dev) (hd : IsDev w g gm v cap B d) :
    Calls Try.prog 22 #[.pointer (some ⟨g, 0, none⟩)] w fun e w' => e = .returned (.int .i64 d.n) ∧ w = w' := by
  obtain ⟨c0, -⟩ := dev_cells hd
  clear hd
  go_enter Try.func22, Try.ntmps22
  go_wp2
  go_ret
  exact ⟨rfl, rfl⟩
set_option maxHeartbeats 400000 in
theorem sectors_nil (w : World) :
    Calls Try.prog 22 #[.pointer none] w fun e w' => e = .returned (.int .i64 0) ∧ w = w' := by
  go_enter Try.func22, Try.ntmps22
  go_wp2
  go_ret
  exact ⟨rfl, rfl⟩
set_option maxHeartbeats 400000 in
theorem steps_any (w : World) (g gm : Nat) (v : Value) (cap B : Nat) (d : Dev) (hd : IsDev w g gm v cap B d) :
    Calls Try.prog 23 #[.pointer (some ⟨g, 0, none⟩)] w fun e w' => e = .returned (.int .i64 d.steps) ∧ w = w' := by
  obtain ⟨-, -, -, -, -, -, c6⟩ := dev_cells hd
  clear hd
  go_enter Try.func23, Try.ntmps23
  go_wp2
  go_ret
  exact ⟨rfl, rfl⟩
set_option maxHeartbeats 400000 in
theorem steps_nil (w : World) :
    Calls Try.prog 23 #[.pointer none] w fun e w' => e = .returned (.int .i64 0) ∧ w = w' := by
  go_enter Try.func23, Try.ntmps23
  go_wp2
  go_ret
  exact ⟨rfl, rfl⟩
set_option maxHeartbeats 400000 in
theorem on_any (w : World) (g gm : Nat) (v : Value) (cap B : Nat) (d : Dev) (hd : IsDev w g gm v cap B d) :
    Calls Try.prog 27 #[.pointer (some ⟨g, 0, none⟩)] w fun e w' => e = .returned (.bool d.on) ∧ w = w' := by
  obtain ⟨-, -, -, c3, -⟩ := dev_cells hd
  clear hd
  go_enter Try.func27, Try.ntmps27
  go_wp2
  go_ret
  exact ⟨rfl, rfl⟩
set_option maxHeartbeats 400000 in
theorem on_nil (w : World) :
    Calls Try.prog 27 #[.pointer none] w fun e w' => e = .returned (.bool false) ∧ w = w' := by
  go_enter Try.func27, Try.ntmps27
  go_wp2
  go_ret
  exact ⟨rfl, rfl⟩

/-- What is safe of a sector that there is. -/
def safeD (d : Dev) (k : Int) : List UInt8 := (d.safe k).getD zero64
/-- 64 zero bytes, in a new block. -/
def row64 : Array Value := ((List.replicate 64 (0 : Int)).map (Value.int .u8)).toArray
theorem make64 (w : World) : (Instr.makeSlice 40 (.int .i64 64) (.int .i64 64)).run Try.prog w = .ok (.slice (some ⟨w.heap.size, 0, none⟩) 64 64) (w.alloc (.cells row64 5)) := by kernel_rfl
theorem conv64 (w : World) : (convert 40 9 (.slice (some ⟨w.heap.size, 0, none⟩) 64 64)).run Try.prog (w.alloc (.cells row64 5)) = .ok (str zero64) (w.alloc (.cells row64 5)) :=
  run_str_new (P := Try.prog) w 40 9 5 5 (List.replicate 64 0) 64 64 rfl (by intro x hx; have := List.eq_of_mem_replicate hx; omega) Try.underlying40 Try.underlying5 Try.underlying9
theorem wpList_make_run {P : Program} {ops : Array Oper} {o : Oper} {a : Act} {w w1 : World} {Q : Exit → Act → World → Prop} {rest : List Oper} (hg : o.guard = none) (l c : Operand) (t : TypeId) (hop : o.op = Op.makeSlice t l c) {lv cv r : Value} (hl : a.eval l = lv) (hc : a.eval c = cv)
    (hrun : (Instr.makeSlice t lv cv).run P w = .ok r w1) (hK : wpList P ops Q rest (a.put o.dst r) w1) : wpList P ops Q (o :: rest) a w := by
  refine wpList_plain hg fun K' hK' => ?_
  unfold Oper.wp
  simp [execOp, hop, hl, hc, hrun, Result.andThen]
  exact hK' _ _ hK

set_option maxRecDepth 100000 in
set_option maxHeartbeats 1600000 in
theorem safe_any (w : World) (g gm : Nat) (v : Value) (cap B : Nat) (d : Dev) (k : Int) (hd : IsDev w g gm v cap B d) (hk : (Lit.int .i64 k).wf = true) :
    Calls Try.prog 21 #[.pointer (some ⟨g, 0, none⟩), .int .i64 k] w fun e w' => e = .returned (str (if hasD d.n k = true then safeD d k else [])) ∧ Below w.heap.size w w' := by
  obtain ⟨u, hu⟩ : ∃ u, hasD d.n k = u := ⟨_, rfl⟩
  rw [hu]
  have HD := Lib.hid hd
  have HU := Lib.hid hu
  obtain ⟨-, c1, -⟩ := dev_cells hd
  clear hd hu
  cases u
  · go_enter Try.func21, Try.ntmps21
    go_wp2_with fail
    refine (has_any _ g gm v cap B d k false HD.out HU.out).mono ?_
    rintro e w1 ⟨rfl, rfl⟩
    go_wp2
    go_ret
    exact ⟨rfl, Below.refl _ _⟩
  · unfold safeD
    have hl := HD.out.2.1.look hk
    have HL := Lib.hid hl
    clear hl
    go_enter Try.func21, Try.ntmps21
    go_wp2_with fail
    refine (has_any _ g gm v cap B d k true HD.out HU.out).mono ?_
    rintro e w1 ⟨rfl, rfl⟩
    rcases hF : d.safe k with _ | s
    · have HF := Lib.hid hF
      clear hF
      have kc := conv64 w
      go_wp2_with (first | (at_lookup; refine wpList_look rfl _ _ _ rfl rfl rfl HL.out ?_; rw [HF.out]) | (at_make; refine wpList_make_run rfl _ _ _ rfl rfl rfl (make64 _) ?_))
      go_ret
      exact ⟨by rw [HF.out]; rfl, (Below.refl _ _).alloc (Nat.le_refl _) _⟩
    · have HF := Lib.hid hF
      clear hF
      go_wp2_with (at_lookup; refine wpList_look rfl _ _ _ rfl rfl rfl HL.out ?_; rw [HF.out])
      go_ret
      exact ⟨by rw [HF.out]; rfl, Below.refl _ _⟩
end Go.Proofs.Ytiighehibiijcaa

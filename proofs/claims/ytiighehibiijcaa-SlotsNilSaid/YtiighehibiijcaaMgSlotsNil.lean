/-
  What the functions of slots return of no log, of a zero one, of no device; SlotsNil of the statements' layer 7 returns true. For any text.
  The statement twinspanlaw07.SlotsNil: for every input the law returns true, and its arguments read as before. The walk is in SlotsNil; here is the row round it. No conditions.
-/
import Derived.Test.YtiighehibiijcaaMg6
import Derived.ProofKit
import Derived.OpenShut
import Derived.ShutString
import Derived.ChangeOld
import Derived.Below
namespace Go.Proofs.Ytiighehibiijcaa
open Go.RowKit
set_option linter.unusedSimpArgs false
set_option linter.unnecessarySimpa false
set_option linter.unusedVariables false

def IsZeroL (w : World) (h : Nat) : Prop := Blk w h 78 #[.pointer none, .int .i64 0, .int .i64 0, .int .i64 0, .string ByteArray.empty, .bool false]
theorem open_none (w : World) : Calls Try.prog 38 #[.pointer none] w fun e w' => e = .returned (.tuple #[.pointer none, .slice none 0 0, .int .i64 1]) ∧ Below w.heap.size w w' := by
  go_enter Try.func38, Try.ntmps38
  go_wp2_with fail
  refine (sectors_nil _).mono ?_
  rintro e w1 ⟨rfl, rfl⟩
  go_wp2_with fail
  go_ret3
  exact ⟨rfl, (Below.refl _ _).alloc (Nat.le_refl _) _⟩
theorem commit_none (w : World) (s : List UInt8) : Calls Try.prog 40 #[.pointer none, str s] w fun e w' => e = .returned (.int .i64 1) ∧ Below w.heap.size w w' := by
  go_enter Try.func40, Try.ntmps40
  go_wp2_with fail
  go_ret
  exact ⟨rfl, (Below.refl _ _).alloc (Nat.le_refl _) _⟩
theorem room_none (w : World) : Calls Try.prog 42 #[.pointer none] w fun e w' => e = .returned (.int .i64 0) ∧ w = w' := by
  go_enter Try.func42, Try.ntmps42
  go_wp2_with fail
  go_ret
  exact ⟨rfl, rfl⟩
theorem mark_none (w : World) : Calls Try.prog 43 #[.pointer none] w fun e w' => e = .returned (.agg #[.int .i64 0, .int .i64 0, .int .i64 0]) ∧ Below w.heap.size w w' := by
  go_enter Try.func43, Try.ntmps43
  go_wp2_with fail
  refine bodyPost_ret (results_cellrow rfl _ _ w.heap.size 62 #[.int .i64 0, .int .i64 0, .int .i64 0] _ rfl (Blk.new _ _ _) Try.underlying62 rfl (by kernel_rfl)) rfl ?_
  exact ⟨rfl, (Below.refl _ _).alloc (Nat.le_refl _) _⟩
theorem broken_none (w : World) : Calls Try.prog 44 #[.pointer none] w fun e w' => e = .returned (.bool true) ∧ w = w' := by
  go_enter Try.func44, Try.ntmps44
  go_wp2_with fail
  go_ret
  exact ⟨rfl, rfl⟩
theorem broken_zero (w : World) (h : Nat) (hz : IsZeroL w h) : Calls Try.prog 44 #[.pointer (some ⟨h, 0, none⟩)] w fun e w' => e = .returned (.bool true) ∧ w = w' := by
  have c0 := Blk.cell hz 0
  have c5 := Blk.cell hz 5
  go_enter Try.func44, Try.ntmps44
  go_wp2_with fail
  go_ret
  exact ⟨rfl, rfl⟩
theorem room_zero (w : World) (h : Nat) (hz : IsZeroL w h) : Calls Try.prog 42 #[.pointer (some ⟨h, 0, none⟩)] w fun e w' => e = .returned (.int .i64 0) ∧ w = w' := by
  have c0 := Blk.cell hz 0
  go_enter Try.func42, Try.ntmps42
  go_wp2_with fail
  go_ret
  exact ⟨rfl, rfl⟩
theorem commit_zero (w : World) (h : Nat) (hz : IsZeroL w h) (s : List UInt8) : Calls Try.prog 40 #[.pointer (some ⟨h, 0, none⟩), str s] w fun e w' => e = .returned (.int .i64 13) ∧ Below w.heap.size w w' := by
  have hba : Below w.heap.size w (w.alloc (.cells #[.pointer (some ⟨h, 0, none⟩)] 68)) := (Below.refl _ _).alloc (Nat.le_refl _) _
  have HX := Lib.hid (show IsZeroL (w.alloc (.cells #[.pointer (some ⟨h, 0, none⟩)] 68)) h from Blk.step hz hba)
  have HB := Lib.hid hba
  clear hba hz
  go_enter Try.func40, Try.ntmps40
  go_wp2_with fail
  refine (broken_zero _ h HX.out).mono ?_
  rintro e w1 ⟨rfl, rfl⟩
  go_wp2_with fail
  go_ret
  exact ⟨rfl, HB.out⟩
theorem open_two : openR (newD 2) = (none, [], 1) := by
  unfold openR
  rw [if_pos (by decide)]

set_option maxRecDepth 100000 in
set_option maxHeartbeats 1600000 in
theorem slotsNil_any (s : List UInt8) (w : World) : Calls Try.prog 12 #[str s] w fun e w' => e = .returned (.bool true) ∧ Below w.heap.size w w' := by
  go_enter Try.func12, Try.ntmps12
  go_wp2_with fail
  have HZ0 := Lib.hid (show IsZeroL (w.alloc (.cells #[.pointer none, .int .i64 0, .int .i64 0, .int .i64 0, .string ByteArray.empty, .bool false] 78)) w.heap.size from Blk.new _ _ _)
  have HB0 := Lib.hid ((Below.refl w.heap.size w).alloc (Nat.le_refl _) (.cells #[.pointer none, .int .i64 0, .int .i64 0, .int .i64 0, .string ByteArray.empty, .bool false] 78))
  obtain ⟨z, hz⟩ : ∃ z, w.heap.size = z := ⟨_, rfl⟩
  rw [hz] at HZ0 ⊢
  change Calls _ _ _ (w.alloc (.cells #[.pointer none, .int .i64 0, .int .i64 0, .int .i64 0, .string ByteArray.empty, .bool false] 78)) _
  generalize w.alloc (.cells #[.pointer none, .int .i64 0, .int .i64 0, .int .i64 0, .string ByteArray.empty, .bool false] 78) = w0 at HZ0 HB0 ⊢
  refine (open_none _).mono ?_
  rintro e w1 ⟨rfl, hb⟩
  have HZ1 := Lib.hid (show IsZeroL w1 z from Blk.step HZ0.out hb)
  have HB1 := Lib.hid (bel_step HB0.out hb)
  clear hb
  go_wp2_with fail
  refine (new_any _ 2 (by omega) (by omega)).mono ?_
  rintro e w2 ⟨rfl, hd, hb⟩
  have HD2 := Lib.hid hd
  clear hd
  have HZ2 := Lib.hid (show IsZeroL w2 z from Blk.step HZ1.out hb)
  have HB2 := Lib.hid (bel_step HB1.out hb)
  clear hb
  go_wp2_with fail
  refine (open_any _ _ _ _ _ _ _ HD2.out (by decide) (by decide) (fun k s h => by cases h) (by intro p hp; cases hp) (by decide) _ open_two).mono ?_
  rintro e w3 ⟨rfl, hb⟩
  have HZ3 := Lib.hid (show IsZeroL w3 z from Blk.step HZ2.out hb)
  have HB3 := Lib.hid (bel_step HB2.out hb)
  clear hb
  go_wp2_with fail
  refine (short_any s 20 _).mono ?_
  rintro e w4 ⟨rfl, rfl⟩
  have HZ4 := HZ3
  have HB4 := HB3
  go_wp2_with fail
  refine (awake07_any _).mono ?_
  rintro e w5 ⟨rfl, hb⟩
  have HZ5 := Lib.hid (show IsZeroL w5 z from Blk.step HZ4.out hb)
  have HB5 := Lib.hid (bel_step HB4.out hb)
  clear hb
  go_wp2_with fail
  refine (commit_none _ (s.take 20)).mono ?_
  rintro e w6 ⟨rfl, hb⟩
  have HZ6 := Lib.hid (show IsZeroL w6 z from Blk.step HZ5.out hb)
  have HB6 := Lib.hid (bel_step HB5.out hb)
  clear hb
  go_wp2_with fail
  refine (commit_zero _ z HZ6.out (s.take 20)).mono ?_
  rintro e w7 ⟨rfl, hb⟩
  have HZ7 := Lib.hid (show IsZeroL w7 z from Blk.step HZ6.out hb)
  have HB7 := Lib.hid (bel_step HB6.out hb)
  clear hb
  go_wp2_with fail
  refine (room_none _).mono ?_
  rintro e w8 ⟨rfl, rfl⟩
  have HZ8 := HZ7
  have HB8 := HB7
  go_wp2_with fail
  refine (room_zero _ z HZ8.out).mono ?_
  rintro e w9 ⟨rfl, rfl⟩
  have HZ9 := HZ8
  have HB9 := HB8
  go_wp2_with fail
  refine (mark_none _).mono ?_
  rintro e w10 ⟨rfl, hb⟩
  have HZ10 := Lib.hid (show IsZeroL w10 z from Blk.step HZ9.out hb)
  have HB10 := Lib.hid (bel_step HB9.out hb)
  clear hb
  have hfd : ∀ w' : World, (Instr.field 62 (.agg #[.int .i64 0, .int .i64 0, .int .i64 0]) 0).run Try.prog w' = .ok (.int .i64 0) w' := fun _ => by kernel_rfl
  go_wp2_with fail
  refine (broken_none _).mono ?_
  rintro e w11 ⟨rfl, rfl⟩
  have HZ11 := HZ10
  have HB11 := HB10
  go_wp2_with fail
  refine (broken_zero _ z HZ11.out).mono ?_
  rintro e w12 ⟨rfl, rfl⟩
  have HZ12 := HZ11
  have HB12 := HB11
  go_wp2_with fail
  go_ret
  exact ⟨rfl, by first | exact HB12.out | (rw [← hz]; exact HB12.out) | (rw [hz]; exact HB12.out)⟩
end Go.Proofs.Ytiighehibiijcaa

namespace Go.Proofs.Ytiighehibiijcaa.slotsNilLaw
open Go.ChangeShapes Go.WideShapes Go.ChangeAt Go.RowKit
open Go.ChangeMaps (open_string shut_string)
set_option linter.unusedVariables false

theorem own : ownKnob Try.prog.godebug = none := by kernel_rfl
theorem laidOut : laidOutB Try.prog = true := by kernel_rfl

set_option maxRecDepth 100000 in
theorem lifted (os : Os) (started : os.Started) (H : Type) (enc : TypeId × Value → H) :
    ReturnsInHanded {} Try.checked os 12 .any (Rows.slotsNilSpec.pre6 enc Try.prog Try.f12 Rows.slotsNilRow.domain false) (Rows.slotsNilSpec.post enc Try.prog Try.f12 false true false false) := by
  refine returnsInHanded_of_change (C := Try.checked) own started (by kernel_rfl) Try.func12
    (ChangeSpec.witness6 (enc := enc) (C := Try.checked) false ⟨#[], #[.string ByteArray.empty], []⟩ 16 (by kernel_rfl) (by kernel_rfl) (by kernel_rfl) (by kernel_rfl)) ?_
  intro W base args ds gs before hval0 hW hcnd _
  have hval : ∀ (j : Nat) t v, Try.f12.params[j]? = some t → args[j]? = some v → Value.okWide Try.prog W .any base t v := hval0
  have hW' := hW
  obtain ⟨p, q, hA0, hV, rfl, hfz, hnd⟩ := hW
  have hA : DataW.TrodAll enc Try.prog W 0 (fun _ => true) true Try.f12.params.toList args.toList ds p := hA0
  rw [Try.params12] at hA hval
  obtain ⟨v0, vs0, d0, ds0, p0, q0, hargs, rfl, rfl, h0, r0⟩ := trodAll_cons hA
  obtain ⟨rfl, rfl, rfl⟩ := trodAll_nil r0
  obtain rfl : args = #[v0] := by cases args; simp_all
  obtain ⟨rfl, rfl⟩ := trodVars_none hV
  have k0 := h0
  have lt0 : ∀ x ∈ p0, x.block < W.heap.size := by obtain ⟨m, hm⟩ := k0; exact DataW.trod_lt m _ _ _ hm
  obtain ⟨a0, rfl, rfl, rfl, w0⟩ := open_string Try.underlying9 (hval 0 9 v0 rfl rfl) h0
  clear hA0 hval0
  have hw := slotsNil_any a0.data.toList W
  simp only [str_data] at hw
  refine hw.mono fun e W' ⟨he, bel⟩ => ?_
  subst he
  exact ⟨_, rfl, _, _, _, [], _, [], hW', trodAll_mk1 (shut_bool Try.underlying4 _), (trodAll_cons_mk (Below.trod laidOut (by kernel_rfl) (of_decide_eq_true (by kernel_rfl)) k0 bel lt0) trodAll_mk0), rfl, bel.frame _, fun h => by cases h⟩

theorem over : Rows.slotsNilRow.holds Try.pinned (OpenSpec.ofChange Rows.slotsNilSpec) :=
  OpenClaim.holds_of_wide 12 Try.f12 rfl rfl rfl rfl rfl rfl rfl ⟨rfl, rfl, rfl, rfl, rfl⟩ rfl rfl rfl rfl rfl (by kernel_rfl) Try.func12 (by kernel_rfl)
    (of_decide_eq_true (by kernel_rfl)) (by unfold Func.isWrapper; first | (rw [if_pos (by decide +kernel)]; kernel_rfl) | (rw [if_neg (by decide +kernel)]; exact ⟨rfl, rfl⟩))
    (fun os started H enc _ => lifted os started H enc)

/-- The statement. -/
theorem proved : Rows.SlotsNilSaid := over
end Go.Proofs.Ytiighehibiijcaa.slotsNilLaw

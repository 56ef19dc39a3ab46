/-
  The statement twinspanlaw01.TlvOne: for every input the law returns true, and its arguments read as before. The walk is in TlvOne; here is the row round it. No conditions.
-/
import Derived.Test.YtjanmonoigpmcaaTlvOne
import Derived.Test.YtjanmonoigpmcaaOpenStrs
import Derived.Test.YtjanmonoigpmcaaOpenStrs2
import Derived.ProofKit
import Derived.OpenShut
import Derived.ShutString
import Derived.ChangeOld
import Derived.Below
import Derived.Test.YtjanmonoigpmcaaOpens
namespace Go.Proofs.Ytjanmonoigpmcaa.tlvOneLaw
open Go.ChangeShapes Go.WideShapes Go.ChangeAt Go.RowKit
open Go.ChangeMaps (open_string shut_string)
set_option linter.unusedVariables false

theorem own : ownKnob Try.prog.godebug = none := by kernel_rfl
theorem laidOut : laidOutB Try.prog = true := by kernel_rfl

set_option maxRecDepth 100000 in
theorem lifted (os : Os) (started : os.Started) (H : Type) (enc : TypeId × Value → H) :
    ReturnsInHanded {} Try.checked os 3 .any (Rows.tlvOneSpec.pre6 enc Try.prog Try.f3 Rows.tlvOneRow.domain false) (Rows.tlvOneSpec.post enc Try.prog Try.f3 false true false false) := by
  refine returnsInHanded_of_change (C := Try.checked) own started (by kernel_rfl) Try.func3
    (ChangeSpec.witness6 (enc := enc) (C := Try.checked) false ⟨#[], #[.agg #[.int .u8 0, .int .u64 0, .string ByteArray.empty], .agg #[.int .u8 0, .int .u64 0, .string ByteArray.empty], .agg #[.slice none 0 0, .slice none 0 0]], []⟩ 16 (by kernel_rfl) (by kernel_rfl) (by kernel_rfl) (by kernel_rfl)) ?_
  intro W base args ds gs before hval0 hW hcnd _
  have hval : ∀ (j : Nat) t v, Try.f3.params[j]? = some t → args[j]? = some v → Value.okWide Try.prog W .any base t v := hval0
  have hW' := hW
  obtain ⟨p, q, hA0, hV, rfl, hfz, hnd⟩ := hW
  have hA : DataW.TrodAll enc Try.prog W 0 (fun _ => true) true Try.f3.params.toList args.toList ds p := hA0
  rw [Try.params3] at hA hval
  obtain ⟨v0, vs0, d0, ds0, p0, q0, hargs, rfl, rfl, h0, r0⟩ := trodAll_cons hA
  obtain ⟨v1, vs1, d1, ds1, p1, q1, rfl, rfl, rfl, h1, r1⟩ := trodAll_cons r0
  obtain ⟨v2, vs2, d2, ds2, p2, q2, rfl, rfl, rfl, h2, r2⟩ := trodAll_cons r1
  obtain ⟨rfl, rfl, rfl⟩ := trodAll_nil r2
  obtain rfl : args = #[v0, v1, v2] := by cases args; simp_all
  obtain ⟨rfl, rfl⟩ := trodVars_none hV
  have k0 := h0
  have lt0 : ∀ x ∈ p0, x.block < W.heap.size := by obtain ⟨m, hm⟩ := k0; exact DataW.trod_lt m _ _ _ hm
  have k1 := h1
  have lt1 : ∀ x ∈ p1, x.block < W.heap.size := by obtain ⟨m, hm⟩ := k1; exact DataW.trod_lt m _ _ _ hm
  have k2 := h2
  have lt2 : ∀ x ∈ p2, x.block < W.heap.size := by obtain ⟨m, hm⟩ := k2; exact DataW.trod_lt m _ _ _ hm
  obtain ⟨c0, n0, a0, rfl, wc0, wn0⟩ := open_field Try.underlying24 (by kernel_rfl) (by kernel_rfl) Try.underlying5 Try.underlying22 Try.underlying9 (hval 0 24 v0 rfl rfl) h0
  obtain ⟨m0, rfl⟩ := Int.eq_ofNat_of_zero_le (bounds_u64 wn0).1
  obtain ⟨c1, n1, a1, rfl, wc1, wn1⟩ := open_field Try.underlying24 (by kernel_rfl) (by kernel_rfl) Try.underlying5 Try.underlying22 Try.underlying9 (hval 1 24 v1 rfl rfl) h1
  obtain ⟨m1, rfl⟩ := Int.eq_ofNat_of_zero_le (bounds_u64 wn1).1
  obtain ⟨v2a, v2b, L2a, L2b, rfl, hL2a, hL2b⟩ := open_strls2 Try.underlying26 Try.underlying25 Try.underlying9 (by kernel_rfl) (by kernel_rfl) (by kernel_rfl) (hval 2 26 v2 rfl rfl) h2
  clear hA0 hval0
  have hw := tlvOne_walk c0 m0 a0.data.toList (bounds_u8 wc0).1 (bounds_u8 wc0).2 (by have := (bounds_u64 wn0).2; omega) c1 m1 a1.data.toList (bounds_u8 wc1).1 (bounds_u8 wc1).2 (by have := (bounds_u64 wn1).2; omega) v2a v2b L2a L2b W hL2a hL2b
  simp only [str_data] at hw
  refine hw.mono fun e W' ⟨he, bel⟩ => ?_
  subst he
  exact ⟨_, rfl, _, _, _, [], _, [], hW', trodAll_mk1 (shut_bool Try.underlying4 _), (trodAll_cons_mk (Below.trod laidOut (by kernel_rfl) (of_decide_eq_true (by kernel_rfl)) k0 bel lt0) (trodAll_cons_mk (Below.trod laidOut (by kernel_rfl) (of_decide_eq_true (by kernel_rfl)) k1 bel lt1) (trodAll_cons_mk (Below.trod laidOut (by kernel_rfl) (of_decide_eq_true (by kernel_rfl)) k2 bel lt2) trodAll_mk0))), rfl, bel.frame _, fun h => by cases h⟩

theorem over : Rows.tlvOneRow.holds Try.pinned (OpenSpec.ofChange Rows.tlvOneSpec) :=
  OpenClaim.holds_of_wide 3 Try.f3 rfl rfl rfl rfl rfl rfl rfl ⟨rfl, rfl, rfl, rfl, rfl⟩ rfl rfl rfl rfl rfl (by kernel_rfl) Try.func3 (by kernel_rfl)
    (of_decide_eq_true (by kernel_rfl)) (by unfold Func.isWrapper; first | (rw [if_pos (by decide +kernel)]; kernel_rfl) | (rw [if_neg (by decide +kernel)]; exact ⟨rfl, rfl⟩))
    (fun os started H enc _ => lifted os started H enc)

/-- The statement. -/
theorem proved : Rows.TlvOneSaid := over
end Go.Proofs.Ytjanmonoigpmcaa.tlvOneLaw

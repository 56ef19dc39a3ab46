/-
  The walk of TlvOne: it returns true for every two fields and lists of texts. No conditions beside those in each theorem.
-/
import Derived.Test.YtjanmonoigpmcaaBegins
namespace Go.Proofs.Ytjanmonoigpmcaa
open Go.RowKit

theorem few01_at (v : Value) (L M : List (List UInt8)) (w w' : World) (hv : ReadS w v L) (hb : Below w.heap.size w w') (hM : few30 L 8 = M) :
    Calls Try.prog 19 #[v] w' fun e w'' => ∃ v', e = .returned v' ∧ OwnS w'' w'.heap.size v' M ∧ Below w'.heap.size w' w'' := by
  have := few01_any v L w' (ReadS.step hv hb)
  rw [hM] at this
  exact this
theorem cells2 {w : World} {g : Nat} {t : TypeId} {x y : Value} (h : Blk w g t #[x, y]) : w.cell? ⟨g, 0, none⟩ = some x ∧ w.cell? ⟨g, 1, none⟩ = some y := ⟨Blk.cell h 0, Blk.cell h 1⟩

/-- The three arguments where they lie. -/
def One3 (w : World) (g : Nat) (c n d k : Int) (s t : List UInt8) (v0 v1 : Value) : Prop :=
  Blk w g 24 #[.int .u8 c, .int .u64 n, str s] ∧ Blk w (g + 1) 24 #[.int .u8 d, .int .u64 k, str t] ∧ Blk w (g + 1 + 1) 26 #[v0, v1]
theorem One3.step {w w' : World} {g : Nat} {c n d k : Int} {s t : List UInt8} {v0 v1 : Value} (h : One3 w g c n d k s t v0 v1) (hb : Below w.heap.size w w') : One3 w' g c n d k s t v0 v1 :=
  ⟨Blk.step h.1 hb, Blk.step h.2.1 hb, Blk.step h.2.2 hb⟩
theorem One3.cells {w : World} {g : Nat} {c n d k : Int} {s t : List UInt8} {v0 v1 : Value} (h : One3 w g c n d k s t v0 v1) :
    w.cell? ⟨g, 0, none⟩ = some (.int .u8 c) ∧ w.cell? ⟨g, 1, none⟩ = some (.int .u64 n) ∧ w.cell? ⟨g, 2, none⟩ = some (str s) ∧ w.cell? ⟨g + 1, 0, none⟩ = some (.int .u8 d) ∧ w.cell? ⟨g + 1, 1, none⟩ = some (.int .u64 k) ∧ w.cell? ⟨g + 1, 2, none⟩ = some (str t) ∧
    w.cell? ⟨g + 1 + 1, 0, none⟩ = some v0 ∧ w.cell? ⟨g + 1 + 1, 1, none⟩ = some v1 :=
  ⟨(cells3 h.1).1, (cells3 h.1).2.1, (cells3 h.1).2.2, (cells3 h.2.1).1, (cells3 h.2.1).2.1, (cells3 h.2.1).2.2, (cells2 h.2.2).1, (cells2 h.2.2).2⟩

set_option maxRecDepth 100000 in
set_option maxHeartbeats 3200000 in
theorem tlvOne_walk (c : Int) (n : Nat) (s : List UInt8) (c0 : 0 ≤ c) (c1 : c ≤ 255) (hn : n < 256 ^ 8) (d : Int) (k : Nat) (t : List UInt8) (d0 : 0 ≤ d) (d1 : d ≤ 255) (hk : k < 256 ^ 8) (v0 v1 : Value) (L0 L1 : List (List UInt8)) (w : World) (hv0 : ReadS w v0 L0) (hv1 : ReadS w v1 L1) :
    Calls Try.prog 3 #[.agg #[.int .u8 c, .int .u64 n, str s], .agg #[.int .u8 d, .int .u64 k, str t], .agg #[v0, v1]] w fun e w' => e = .returned (.bool true) ∧ Below w.heap.size w w' := by
  have Hn := Lib.hid hn
  have Hk := Lib.hid hk
  clear hn hk
  obtain ⟨A, hA⟩ : ∃ A, s.take 60 = A := ⟨_, rfl⟩
  obtain ⟨B, hB⟩ : ∃ B, t.take 60 = B := ⟨_, rfl⟩
  have hAl : A.length ≤ 60 := by rw [← hA, List.length_take]; omega
  have hBl : B.length ≤ 60 := by rw [← hB, List.length_take]; omega
  obtain ⟨M, hM⟩ : ∃ M, few30 L0 8 = M := ⟨_, rfl⟩
  obtain ⟨N, hN⟩ : ∃ N, few30 L1 8 = N := ⟨_, rfl⟩
  have hMb : ∀ b ∈ M, b.length ≤ 30 := by rw [← hM]; exact few30_le L0 8
  have hNb : ∀ b ∈ N, b.length ≤ 30 := by rw [← hN]; exact few30_le L1 8
  have hMl : M.length ≤ 8 := by rw [← hM]; exact few30_most L0
  have hNl : N.length ≤ 8 := by rw [← hN]; exact few30_most L1
  have hcM : (catT c M).length ≤ 272 := by rw [catT_length]; have := sumT_le _ 30 hMb; omega
  have hcN : (catT d N).length ≤ 272 := by rw [catT_length]; have := sumT_le _ 30 hNb; omega
  have HA := Lib.hid hA
  have HB := Lib.hid hB
  have HM := Lib.hid hM
  have HN := Lib.hid hN
  have HMb := Lib.hid hMb
  have HNb := Lib.hid hNb
  have HV0 := Lib.hid hv0
  have HV1 := Lib.hid hv1
  clear hA hB hM hN hMb hNb hv0 hv1
  go_enter Try.func3, Try.ntmps3
  go_wp2_with fail
  have T0 := Lib.hid (show One3 (((w.alloc (.cells #[.int .u8 c, .int .u64 n, str s] 24)).alloc (.cells #[.int .u8 d, .int .u64 k, str t] 24)).alloc (.cells #[v0, v1] 26)) w.heap.size c n d k s t v0 v1 from
    ⟨((Blk.new w _ _).alloc _).alloc _, (Blk.new_at (w := w.alloc (.cells #[.int .u8 c, .int .u64 n, str s] 24)) (n := w.heap.size + 1) (by simp) _ _).alloc _, Blk.new_at (w := (w.alloc (.cells #[.int .u8 c, .int .u64 n, str s] 24)).alloc (.cells #[.int .u8 d, .int .u64 k, str t] 24)) (n := w.heap.size + 1 + 1) (by simp) _ _⟩)
  have hb0 : Below w.heap.size w (((w.alloc (.cells #[.int .u8 c, .int .u64 n, str s] 24)).alloc (.cells #[.int .u8 d, .int .u64 k, str t] 24)).alloc (.cells #[v0, v1] 26)) := (((Below.refl _ w).alloc (Nat.le_refl _) _).alloc (by simp) _).alloc (by simp; omega) _
  generalize ((w.alloc (.cells #[.int .u8 c, .int .u64 n, str s] 24)).alloc (.cells #[.int .u8 d, .int .u64 k, str t] 24)).alloc (.cells #[v0, v1] 26) = u0 at *
  refine (awake01_any _).mono ?_
  rintro e u1 ⟨rfl, hq1⟩
  have T1 := Lib.hid (T0.out.step hq1)
  have hb1 := bel_step hb0 hq1
  obtain ⟨e1, e2, e3, e4, e5, e6, e7, e8⟩ := One3.cells T1.out
  clear hq1 hb0 T0
  go_wp2_with fail
  refine (short01_any s 60 _).mono ?_
  rw [HA.out]
  rintro e uq ⟨rfl, rfl⟩
  go_wp2_with fail
  refine (short01_any t 60 _).mono ?_
  rw [HB.out]
  rintro e uq ⟨rfl, rfl⟩
  go_wp2_with fail
  clear e1 e2 e3 e4 e5 e6 e7 e8
  refine (text_any c A _ c0 c1 (by omega)).mono ?_
  rintro e u2 ⟨rfl, hq2⟩
  have T2 := Lib.hid (T1.out.step hq2)
  have hb2 := bel_step hb1 hq2
  obtain ⟨e1, e2, e3, e4, e5, e6, e7, e8⟩ := One3.cells T2.out
  clear hq2 hb1 T1
  go_wp2_with fail
  clear e1 e2 e3 e4 e5 e6 e7 e8
  refine (text_any d B _ d0 d1 (by omega)).mono ?_
  rintro e u3 ⟨rfl, hq3⟩
  have T3 := Lib.hid (T2.out.step hq3)
  have hb3 := bel_step hb2 hq3
  obtain ⟨e1, e2, e3, e4, e5, e6, e7, e8⟩ := One3.cells T3.out
  clear hq3 hb2 T2
  go_wp2_with fail
  clear e1 e2 e3 e4 e5 e6 e7 e8
  refine (num_any c n _ c0 c1 Hn.out).mono ?_
  rintro e u4 ⟨rfl, hq4⟩
  have T4 := Lib.hid (T3.out.step hq4)
  have hb4 := bel_step hb3 hq4
  obtain ⟨e1, e2, e3, e4, e5, e6, e7, e8⟩ := One3.cells T4.out
  clear hq4 hb3 T3
  go_wp2_with fail
  clear e1 e2 e3 e4 e5 e6 e7 e8
  refine (num_any d k _ d0 d1 Hk.out).mono ?_
  rintro e u5 ⟨rfl, hq5⟩
  have T5 := Lib.hid (T4.out.step hq5)
  have hb5 := bel_step hb4 hq5
  obtain ⟨e1, e2, e3, e4, e5, e6, e7, e8⟩ := One3.cells T5.out
  clear hq5 hb4 T4
  go_wp2_with fail
  clear e1 e2 e3 e4 e5 e6 e7 e8
  refine (few01_at v0 L0 M w _ HV0.out hb5 HM.out).mono ?_
  rintro e u6 ⟨vm, rfl, hom, hq6⟩
  have T6 := Lib.hid (T5.out.step hq6)
  have hb6 := bel_step hb5 hq6
  have OM6 := Lib.hid hom
  clear hom
  obtain ⟨e1, e2, e3, e4, e5, e6, e7, e8⟩ := One3.cells T6.out
  clear hq6 hb5 T5
  go_wp2_with fail
  clear e1 e2 e3 e4 e5 e6 e7 e8
  refine (few01_at v1 L1 N w _ HV1.out hb6 HN.out).mono ?_
  rintro e u7 ⟨vn, rfl, hon, hq7⟩
  have T7 := Lib.hid (T6.out.step hq7)
  have hb7 := bel_step hb6 hq7
  have OM7 := Lib.hid (OM6.out.step hq7)
  have ON7 := Lib.hid hon
  clear hon
  obtain ⟨e1, e2, e3, e4, e5, e6, e7, e8⟩ := One3.cells T7.out
  clear hq7 hb6 T6
  go_wp2_with fail
  clear e1 e2 e3 e4 e5 e6 e7 e8
  refine (tlvAll_any c _ M _ OM7.out.reads c0 c1 (by omega)).mono ?_
  rintro e u8 ⟨rfl, hq8⟩
  have T8 := Lib.hid (T7.out.step hq8)
  have hb8 := bel_step hb7 hq8
  have OM8 := Lib.hid (OM7.out.step hq8)
  have ON8 := Lib.hid (ON7.out.step hq8)
  obtain ⟨e1, e2, e3, e4, e5, e6, e7, e8⟩ := One3.cells T8.out
  clear hq8 hb7 T7
  go_wp2_with fail
  clear e1 e2 e3 e4 e5 e6 e7 e8
  refine (tlvAll_any d _ N _ ON8.out.reads d0 d1 (by omega)).mono ?_
  rintro e u9 ⟨rfl, hq9⟩
  have T9 := Lib.hid (T8.out.step hq9)
  have hb9 := bel_step hb8 hq9
  have OM9 := Lib.hid (OM8.out.step hq9)
  have ON9 := Lib.hid (ON8.out.step hq9)
  obtain ⟨e1, e2, e3, e4, e5, e6, e7, e8⟩ := One3.cells T9.out
  clear hq9 hb8 T8
  go_wp2_with fail
  clear e1 e2 e3 e4 e5 e6 e7 e8
  refine (same_any _ _ M N _ _ _ OM9.out ON9.out).mono ?_
  rintro e u10 ⟨rfl, hq10⟩
  have T10 := Lib.hid (T9.out.step hq10)
  have hb10 := bel_step hb9 hq10
  have OM10 := Lib.hid (OM9.out.step hq10)
  have ON10 := Lib.hid (ON9.out.step hq10)
  obtain ⟨e1, e2, e3, e4, e5, e6, e7, e8⟩ := One3.cells T10.out
  clear hq10 hb9 T9
  go_wp2_with fail
  obtain ⟨us, hus⟩ : ∃ u, sameL M N = u := ⟨_, rfl⟩
  rw [hus]
  have hus' := Lib.hid hus
  clear hus
  by_cases hcd : c = d
  · subst hcd
    have hx : beg (tText c A) (tText c B) = (A == B) := beg_text c0 c1 (by omega) (by omega)
    have hy : beg (tNum c n) (tNum c k) = ((n : Int) == (k : Int)) := beg_num c0 c1 Hn.out Hk.out
    have hz : beg (tAll c M) (tAll c N) = us := by rw [beg_all c0 c1 (fun b hb => by have := HMb.out b hb; omega) (fun b hb => by have := HNb.out b hb; omega) (by omega) (by omega), hus'.out]
    obtain ⟨x1, h1⟩ : ∃ u, (A == B) = u := ⟨_, rfl⟩
    obtain ⟨x2, h2⟩ : ∃ u, ((n : Int) == (k : Int)) = u := ⟨_, rfl⟩
    rw [h1] at hx
    rw [h2] at hy
    have HX := Lib.hid hx
    have HY := Lib.hid hy
    have HZ := Lib.hid hz
    clear hx hy hz
    go_wp2_with fail
    refine (begins01_any _ _ x1 _ HX.out).mono ?_
    rintro e uq ⟨rfl, rfl⟩
    go_wp2_with fail
    refine (begins01_any _ _ x2 _ HY.out).mono ?_
    rintro e uq ⟨rfl, rfl⟩
    go_wp2_with fail
    refine (begins01_any _ _ us _ HZ.out).mono ?_
    rintro e uq ⟨rfl, rfl⟩
    go_wp2
    go_ret
    exact ⟨rfl, hb10⟩
  · have hx := Lib.hid (beg_other (s := A) (t := B) c0 c1 d0 d1 hcd)
    have hy := Lib.hid (beg_other (s := digs n) (t := digs k) c0 c1 d0 d1 hcd)
    have hz := Lib.hid (beg_other (s := catT c M) (t := catT d N) c0 c1 d0 d1 hcd)
    have hcd' : ((c : Int) == d) = false := by simpa using hcd
    clear hcd
    go_wp2_with fail
    refine (begins01_any _ _ false _ hx.out).mono ?_
    rintro e uq ⟨rfl, rfl⟩
    go_wp2_with fail
    refine (begins01_any _ _ false _ hy.out).mono ?_
    rintro e uq ⟨rfl, rfl⟩
    go_wp2_with fail
    refine (begins01_any _ _ false _ hz.out).mono ?_
    rintro e uq ⟨rfl, rfl⟩
    go_wp2
    go_ret
    exact ⟨rfl, hb10⟩
end Go.Proofs.Ytjanmonoigpmcaa

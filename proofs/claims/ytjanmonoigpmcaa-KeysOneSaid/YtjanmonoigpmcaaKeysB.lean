/-
  What keys.ReadNumber and keys.Seq return, and the document's: the same. For texts within the reach.
-/
import Derived.Test.YtjanmonoigpmcaaRefInt
import Derived.Test.YtjanmonoigpmcaaKeysA
import Derived.Test.YtjanmonoigpmcaaShelf
import Derived.Test.YtjanmonoigpmcaaUntil
import Derived.RegionTactic
import Derived.BigRegion
namespace Go.Proofs.Ytjanmonoigpmcaa
open Go.RowKit

theorem one_cell {w : World} {g : Nat} {t : TypeId} {x : Value} (h : Blk w g t #[x]) : w.cell? ⟨g, 0, none⟩ = some x ∧ w.frozen? ⟨g, 0, none⟩ = false := ⟨Blk.cell h 0, Blk.frozen h 0⟩
theorem blk_ne {w : World} {g g' : Nat} {t t' : TypeId} {cs cs' : Array Value} (h : Blk w g t cs) (h' : Blk w g' t' cs') (ht : t ≠ t') : g ≠ g' := by
  rintro rfl
  unfold Blk at h h'
  rw [h] at h'
  injection h' with h'
  injection h' with _ h4 _
  exact ht h4

/-- A number, as a value tells it. -/
def readNumR (s : List UInt8) : Int × Int := if rEnd (rInt 110 1099511627776 (s, false)).2 = 0 then ((rInt 110 1099511627776 (s, false)).1, 0) else (0, 10)
theorem rEnd_cases (r : Rd) : rEnd r = 0 ∨ rEnd r = 10 := by unfold rEnd; split <;> simp

set_option maxHeartbeats 800000 in
theorem readNumber_any (s : List UInt8) (w : World) (hs : s.length ≤ 140737488351232) :
    Calls Try.prog 47 #[str s] w fun e w' => e = .returned (.tuple #[.int .i64 (readNumR s).1, .int .i64 (readNumR s).2]) ∧ Below w.heap.size w w' := by
  obtain ⟨⟨n, s1, b1⟩, ht⟩ : ∃ q, rInt 110 1099511627776 (s, false) = q := ⟨_, rfl⟩
  have hr : readNumR s = if rEnd (s1, b1) = 0 then (n, 0) else (0, 10) := by unfold readNumR; rw [ht]
  have Ht := Lib.hid ht
  clear ht
  rcases rEnd_cases (s1, b1) with he | he
  all_goals
    rw [he] at hr
    simp at hr
    rw [hr]
    have He := Lib.hid he
    clear he hr
    go_enter Try.func47, Try.ntmps47
    go_wp2_with fail
    refine (read_any s _).mono ?_
    rintro e w1 ⟨rfl, rfl⟩
    have hb1 := (Below.refl w.heap.size w).alloc (Nat.le_refl _) (.cells #[str s, .bool false] 51)
    go_wp2_with fail
    refine (readInt_any s false 110 1099511627776 _ _ (read_isRd s w) (by decide) (by decide) hs (by decide) n s1 b1 Ht.out).mono ?_
    rintro e w2 ⟨rfl, hr2, hu2⟩
    have HR2 := Lib.hid hr2
    have hb2 := hb1.trans (upd_below hu2 (by simp) (Nat.le_refl _))
    clear hr2 hu2 hb1
    go_wp2_with fail
    refine (end_any s1 b1 _ _ HR2.out).mono ?_
    rw [He.out]
    rintro e w3 ⟨rfl, rfl⟩
    go_wp2
    go_ret2
    exact ⟨rfl, hb2⟩
set_option maxHeartbeats 800000 in
theorem refReadNumber_any (s : List UInt8) (w : World) (hs : s.length ≤ 140737488351232) :
    Calls Try.prog 50 #[str s] w fun e w' => e = .returned (.tuple #[.int .i64 (readNumR s).1, .int .i64 (readNumR s).2]) ∧ Below w.heap.size w w' := by
  obtain ⟨⟨n, s1, b1⟩, ht⟩ : ∃ q, rInt 110 1099511627776 (s, false) = q := ⟨_, rfl⟩
  have hr : readNumR s = if rEnd (s1, b1) = 0 then (n, 0) else (0, 10) := by unfold readNumR; rw [ht]
  have Ht := Lib.hid ht
  clear ht
  rcases rEnd_cases (s1, b1) with he | he
  all_goals
    rw [he] at hr
    simp at hr
    rw [hr]
    have He := Lib.hid he
    clear he hr
    go_enter Try.func50, Try.ntmps50
    go_wp2_with fail
    have hb1 := (Below.refl w.heap.size w).alloc (Nat.le_refl _) (.cells #[str s, .bool false] 91)
    refine (refReadInt_any s false 110 1099511627776 _ _ (Blk.new w _ _) (by decide) (by decide) hs (by decide) n s1 b1 Ht.out).mono ?_
    rintro e w2 ⟨rfl, hr2, hu2⟩
    have HR2 := Lib.hid hr2
    have hb2 := hb1.trans (upd_below hu2 (by simp) (Nat.le_refl _))
    clear hr2 hu2 hb1
    go_wp2_with fail
    refine (refEnd_any s1 b1 _ _ HR2.out).mono ?_
    rw [He.out]
    rintro e w3 ⟨rfl, rfl⟩
    go_wp2
    go_ret2
    exact ⟨rfl, hb2⟩

theorem cut_yes (x : UInt8) (s : List UInt8) (w : World) :
    Calls Try.prog 64 #[str (x :: s), str [x]] w fun e w' => e = .returned (.tuple #[str s, .bool true]) ∧ w = w' := by
  refine (Try.strings_CutPrefix _ _ w).mono ?_
  rintro e w' ⟨rfl, rfl⟩
  exact ⟨by simp [Lib.trimPrefix, Lib.hasPrefix], rfl⟩
theorem cut_no (x : UInt8) (s : List UInt8) (w : World) (h : s.head? ≠ some x) :
    Calls Try.prog 64 #[str s, str [x]] w fun e w' => e = .returned (.tuple #[str s, .bool false]) ∧ w = w' := by
  refine (Try.strings_CutPrefix _ _ w).mono ?_
  rintro e w' ⟨rfl, rfl⟩
  have hp : Lib.hasPrefix s [x] = false := by
    cases s with
    | nil => rfl
    | cons y s =>
      have hne : ¬ x = y := fun he => h (by simp [he])
      show (x == y && List.isPrefixOf [] s) = false
      simp [hne]
  exact ⟨by simp [Lib.trimPrefix, hp], rfl⟩

/-- What a packet's key says, without its letter. -/
def seqIn (s : List UInt8) : List UInt8 × Int × Rd := ((rText 105 32 (s, false)).1, rInt 113 1099511627776 (rText 105 32 (s, false)).2)
def seqR (s : List UInt8) : List UInt8 × Int × Bool :=
  match s with
  | [] => ([], 0, false)
  | x :: s => if (x = 80 ∨ x = 71) ∧ rEnd (seqIn s).2.2 = 0 then ((seqIn s).1, (seqIn s).2.1, true) else ([], 0, false)

set_option maxRecDepth 100000 in
set_option maxHeartbeats 1600000 in
theorem seq1_any (s : List UInt8) (gI gN : Nat) (x0 y0 : Value) (w : World) (hI : Blk w gI 9 #[x0]) (hN : Blk w gN 3 #[y0]) (hs : s.length ≤ 140737488351232) (hlt : gN < w.heap.size) (B : Nat) (hB : B ≤ gI ∧ B ≤ gN)
    (id : List UInt8) (n : Int) (r : Rd) (hr : seqIn s = (id, n, r)) (u : Bool) (hu : ((rEnd r : Int) == 0) = u) :
    Calls Try.prog 63 #[str s, .pointer (some ⟨gI, 0, none⟩), .pointer (some ⟨gN, 0, none⟩)] w fun e w' => e = .returned (.bool u) ∧ Blk w' gI 9 #[str id] ∧ Blk w' gN 3 #[.int .i64 n] ∧ Below B w w' := by
  obtain ⟨⟨t, s1, b1⟩, ht⟩ : ∃ q, rText 105 32 (s, false) = q := ⟨_, rfl⟩
  obtain ⟨⟨m, s2, b2⟩, hm⟩ : ∃ q, rInt 113 1099511627776 (s1, b1) = q := ⟨_, rfl⟩
  unfold seqIn at hr
  rw [ht] at hr
  simp only [] at hr
  rw [hm] at hr
  simp only [Prod.mk.injEq] at hr
  obtain ⟨rfl, rfl, rfl⟩ := hr
  have hl1 : s1.length ≤ s.length := rText_left_le ht
  have Ht := Lib.hid ht
  have Hm := Lib.hid hm
  have HI := Lib.hid hI
  have HN := Lib.hid hN
  have HU := Lib.hid hu
  have hbw := Blk.lt hI
  clear ht hm hI hN hu
  go_enter Try.func63, Try.ntmps63
  go_wp2_with fail
  refine (read_any s _).mono ?_
  rintro e w1 ⟨rfl, rfl⟩
  have R1 := Lib.hid (read_isRd s w)
  have HI1 := Lib.hid (HI.out.alloc (.cells #[str s, .bool false] 51))
  have HN1 := Lib.hid (HN.out.alloc (.cells #[str s, .bool false] 51))
  have hb1 : Below B w _ := (Below.refl B w).alloc (by omega) (.cells #[str s, .bool false] 51)
  clear HI HN
  go_wp2_with fail
  refine (readText_any s false 105 32 _ _ R1.out (by decide) (by decide) hs (by decide) t s1 b1 Ht.out).mono ?_
  rintro e w2 ⟨rfl, hr2, hu2⟩
  have R2 := Lib.hid hr2
  have HI2 := Lib.hid (HI1.out.grown hu2 (by simp; omega))
  have HN2 := Lib.hid (HN1.out.grown hu2 (by simp; omega))
  have hb2 := hb1.trans (upd_below hu2 (by simp; omega) (by omega))
  obtain ⟨c1, f1⟩ := one_cell HI2.out
  clear hr2 hu2 R1 HI1 HN1 hb1
  go_wp2_with fail
  have HI3 := Lib.hid (HI2.out.set_ 0 (str t))
  have HN3 := Lib.hid (HN2.out.far (p := ⟨gI, 0, none⟩) (blk_ne HN2.out HI2.out (by decide)) (str t))
  have R3 := Lib.hid (Blk.far R2.out (p := ⟨gI, 0, none⟩) (blk_ne R2.out HI2.out (by decide)) (str t))
  have hb3 := hb2.setCell (p := ⟨gI, 0, none⟩) hB.1 (str t)
  clear R2 HI2 HN2 hb2 c1 f1
  generalize w2.setCell ⟨gI, 0, none⟩ (str t) = w3 at *
  refine (readInt_any s1 b1 113 1099511627776 _ _ R3.out (by decide) (by decide) (by omega) (by decide) m s2 b2 Hm.out).mono ?_
  rintro e w4 ⟨rfl, hr4, hu4⟩
  have R4 := Lib.hid hr4
  have HI4 := Lib.hid (HI3.out.grown hu4 (by simp; omega))
  have HN4 := Lib.hid (HN3.out.grown hu4 (by simp; omega))
  have hb4 := hb3.trans (upd_below hu4 (by have := Blk.lt HI3.out; omega) (by omega))
  obtain ⟨c1, f1⟩ := one_cell HN4.out
  clear hr4 hu4 R3 HI3 HN3 hb3
  go_wp2_with fail
  have HN5 := Lib.hid (HN4.out.set_ 0 (.int .i64 m))
  have HI5 := Lib.hid (HI4.out.far (p := ⟨gN, 0, none⟩) (blk_ne HI4.out HN4.out (by decide)) (.int .i64 m))
  have R5 := Lib.hid (Blk.far R4.out (p := ⟨gN, 0, none⟩) (blk_ne R4.out HN4.out (by decide)) (.int .i64 m))
  have hb5 := hb4.setCell (p := ⟨gN, 0, none⟩) hB.2 (.int .i64 m)
  clear R4 HI4 HN4 hb4 c1 f1
  generalize w4.setCell ⟨gN, 0, none⟩ (.int .i64 m) = w5 at *
  refine (end_any s2 b2 _ _ R5.out).mono ?_
  rintro e w6 ⟨rfl, rfl⟩
  have hu := HU.out
  go_wp2
  go_ret
  exact ⟨rfl, HI5.out, HN5.out, hb5⟩

set_option maxRecDepth 100000 in
set_option maxHeartbeats 1600000 in
theorem seq_ok80 (s : List UInt8) (w : World) (hs : s.length ≤ 140737488351232) (id : List UInt8) (n : Int) (r : Rd) (hq : seqIn s = (id, n, r)) (he : rEnd r = 0) :
    Calls Try.prog 49 #[str (80 :: s)] w fun e w' => e = .returned (.tuple #[str id, .int .i64 n, .bool true]) ∧ Below w.heap.size w w' := by
  have Hq := Lib.hid hq
  have He := Lib.hid he
  clear hq he
  have i0 : ∀ w, Sem.run Try.prog (Instr.index 86 (.agg #[.string { data := #[80] }, .string { data := #[71] }]) (.int .i64 0)) w = .ok (.string { data := #[80] }) w := fun _ => by kernel_rfl
  have i1 : ∀ w, Sem.run Try.prog (Instr.index 86 (.agg #[.string { data := #[80] }, .string { data := #[71] }]) (.int .i64 1)) w = .ok (.string { data := #[71] }) w := fun _ => by kernel_rfl
  go_enter Try.func49, Try.ntmps49
  go_wp2_with fail
  have HI0 := Lib.hid ((Blk.new w 9 #[str []]).alloc (.cells #[.int .i64 0] 3))
  have HN0 := Lib.hid (Blk.new_at (w := w.alloc (.cells #[str []] 9)) (n := w.heap.size + 1) (by simp) 3 #[.int .i64 0])
  have hb0 : Below w.heap.size w ((w.alloc (.cells #[str []] 9)).alloc (.cells #[.int .i64 0] 3)) := ((Below.refl _ w).alloc (Nat.le_refl _) _).alloc (by simp) _
  generalize (w.alloc (.cells #[str []] 9)).alloc (.cells #[.int .i64 0] 3) = w0 at *
  go_step3
  go_wp2_with fail
  go_step3
  go_wp2_with fail
  refine wp_loop_rounds 3 ?_
  rw [rounds_succ]
  go_wp2_with fail

  refine (cut_yes 80 s _).mono ?_
  rintro e w1 ⟨rfl, rfl⟩
  go_wp2_with fail
  refine (seq1_any s w.heap.size (w.heap.size + 1) _ _ _ HI0.out HN0.out hs (Blk.lt HN0.out) w.heap.size ⟨Nat.le_refl _, by omega⟩ id n r Hq.out true (by rw [He.out]; rfl)).mono ?_
  rintro e w2 ⟨rfl, hI2, hN2, hb2⟩
  have HI2 := Lib.hid hI2
  have HN2 := Lib.hid hN2
  have hb2' := hb0.trans hb2
  obtain ⟨cI, fI⟩ := one_cell hI2
  obtain ⟨cN, fN⟩ := one_cell hN2
  clear hI2 hN2 hb2 hb0 HI0 HN0 i0 i1
  go_wp2_with fail

  go_region
  have HI3 := Lib.hid (((HI2.out.set_ 0 (str id)).far (p := ⟨w.heap.size + 1, 0, none⟩) (by simp) (.int .i64 n)).drew)
  have HN3 := Lib.hid (((HN2.out.far (p := ⟨w.heap.size, 0, none⟩) (by simp) (str id)).set_ 0 (.int .i64 n)).drew)
  have hb3 := ((hb2'.setCell (p := ⟨w.heap.size, 0, none⟩) (Nat.le_refl _) (str id)).setCell (p := ⟨w.heap.size + 1, 0, none⟩) (Nat.le_succ _) (.int .i64 n)).drew
  clear cI fI cN fN HI2 HN2 hb2'
  generalize ((w2.setCell ⟨w.heap.size, 0, none⟩ (str id)).setCell ⟨w.heap.size + 1, 0, none⟩ (.int .i64 n)).drew = w3 at *
  have cI := (one_cell HI3.out).1
  have cN := (one_cell HN3.out).1
  go_wp2
  rw [Exit.noGoto_ret]
  exact bodyPost_ret (v := .tuple #[str id, .int .i64 n, .bool true]) (by simp [results, Try.results49, go_sem, cI, cN]) rfl ⟨rfl, hb3⟩


set_option maxRecDepth 100000 in
set_option maxHeartbeats 1600000 in
theorem seq_bad80 (s : List UInt8) (w : World) (hs : s.length ≤ 140737488351232) (id : List UInt8) (n : Int) (r : Rd) (hq : seqIn s = (id, n, r)) (he : rEnd r = 10) :
    Calls Try.prog 49 #[str (80 :: s)] w fun e w' => e = .returned (.tuple #[str [], .int .i64 0, .bool false]) ∧ Below w.heap.size w w' := by
  have Hq := Lib.hid hq
  have He := Lib.hid he
  clear hq he
  have i0 : ∀ w, Sem.run Try.prog (Instr.index 86 (.agg #[.string { data := #[80] }, .string { data := #[71] }]) (.int .i64 0)) w = .ok (.string { data := #[80] }) w := fun _ => by kernel_rfl
  have i1 : ∀ w, Sem.run Try.prog (Instr.index 86 (.agg #[.string { data := #[80] }, .string { data := #[71] }]) (.int .i64 1)) w = .ok (.string { data := #[71] }) w := fun _ => by kernel_rfl
  go_enter Try.func49, Try.ntmps49
  go_wp2_with fail
  have HI0 := Lib.hid ((Blk.new w 9 #[str []]).alloc (.cells #[.int .i64 0] 3))
  have HN0 := Lib.hid (Blk.new_at (w := w.alloc (.cells #[str []] 9)) (n := w.heap.size + 1) (by simp) 3 #[.int .i64 0])
  have hb0 : Below w.heap.size w ((w.alloc (.cells #[str []] 9)).alloc (.cells #[.int .i64 0] 3)) := ((Below.refl _ w).alloc (Nat.le_refl _) _).alloc (by simp) _
  generalize (w.alloc (.cells #[str []] 9)).alloc (.cells #[.int .i64 0] 3) = w0 at *
  go_step3
  go_wp2_with fail
  go_step3
  go_wp2_with fail
  refine wp_loop_rounds 3 ?_
  rw [rounds_succ]
  go_wp2_with fail

  refine (cut_yes 80 s _).mono ?_
  rintro e w1 ⟨rfl, rfl⟩
  go_wp2_with fail
  refine (seq1_any s w.heap.size (w.heap.size + 1) _ _ _ HI0.out HN0.out hs (Blk.lt HN0.out) w.heap.size ⟨Nat.le_refl _, by omega⟩ id n r Hq.out false (by rw [He.out]; rfl)).mono ?_
  rintro e w2 ⟨rfl, hI2, hN2, hb2⟩
  have HI2 := Lib.hid hI2
  have HN2 := Lib.hid hN2
  have hb2' := hb0.trans hb2
  obtain ⟨cI, fI⟩ := one_cell hI2
  obtain ⟨cN, fN⟩ := one_cell hN2
  clear hI2 hN2 hb2 hb0 HI0 HN0 i0 i1
  go_wp2_with fail

  have HI3 := Lib.hid (((HI2.out.set_ 0 (str [])).far (p := ⟨w.heap.size + 1, 0, none⟩) (by simp) (.int .i64 0)))
  have HN3 := Lib.hid (((HN2.out.far (p := ⟨w.heap.size, 0, none⟩) (by simp) (str [])).set_ 0 (.int .i64 0)))
  have hb3 := ((hb2'.setCell (p := ⟨w.heap.size, 0, none⟩) (Nat.le_refl _) (str [])).setCell (p := ⟨w.heap.size + 1, 0, none⟩) (Nat.le_succ _) (.int .i64 0))
  clear cI fI cN fN HI2 HN2 hb2'
  have hWW : ∃ W, W = ((w2.setCell ⟨w.heap.size, 0, none⟩ (str [])).setCell ⟨w.heap.size + 1, 0, none⟩ (.int .i64 0)) := ⟨_, rfl⟩
  have cI := (one_cell HI3.out).1
  have cN := (one_cell HN3.out).1
  generalize ((w2.setCell ⟨w.heap.size, 0, none⟩ (str [])).setCell ⟨w.heap.size + 1, 0, none⟩ (.int .i64 0)) = w3 at *
  rw [Exit.noGoto_ret]
  exact bodyPost_ret (v := .tuple #[str [], .int .i64 0, .bool false]) (by simp [results, Try.results49, go_sem, cI, cN]) rfl ⟨rfl, hb3⟩


set_option maxRecDepth 100000 in
set_option maxHeartbeats 1600000 in
theorem seq_ok71 (s : List UInt8) (w : World) (hs : s.length ≤ 140737488351232) (id : List UInt8) (n : Int) (r : Rd) (hq : seqIn s = (id, n, r)) (he : rEnd r = 0) :
    Calls Try.prog 49 #[str (71 :: s)] w fun e w' => e = .returned (.tuple #[str id, .int .i64 n, .bool true]) ∧ Below w.heap.size w w' := by
  have Hq := Lib.hid hq
  have He := Lib.hid he
  clear hq he
  have i0 : ∀ w, Sem.run Try.prog (Instr.index 86 (.agg #[.string { data := #[80] }, .string { data := #[71] }]) (.int .i64 0)) w = .ok (.string { data := #[80] }) w := fun _ => by kernel_rfl
  have i1 : ∀ w, Sem.run Try.prog (Instr.index 86 (.agg #[.string { data := #[80] }, .string { data := #[71] }]) (.int .i64 1)) w = .ok (.string { data := #[71] }) w := fun _ => by kernel_rfl
  go_enter Try.func49, Try.ntmps49
  go_wp2_with fail
  have HI0 := Lib.hid ((Blk.new w 9 #[str []]).alloc (.cells #[.int .i64 0] 3))
  have HN0 := Lib.hid (Blk.new_at (w := w.alloc (.cells #[str []] 9)) (n := w.heap.size + 1) (by simp) 3 #[.int .i64 0])
  have hb0 : Below w.heap.size w ((w.alloc (.cells #[str []] 9)).alloc (.cells #[.int .i64 0] 3)) := ((Below.refl _ w).alloc (Nat.le_refl _) _).alloc (by simp) _
  generalize (w.alloc (.cells #[str []] 9)).alloc (.cells #[.int .i64 0] 3) = w0 at *
  go_step3
  go_wp2_with fail
  go_step3
  go_wp2_with fail
  refine wp_loop_rounds 3 ?_
  rw [rounds_succ]
  go_wp2_with fail

  refine (cut_no 80 (71 :: s) _ (by simp)).mono ?_
  rintro e w1 ⟨rfl, rfl⟩
  go_wp2_with fail
  rw [rounds_succ]
  go_wp2_with fail

  refine (cut_yes 71 s _).mono ?_
  rintro e w1 ⟨rfl, rfl⟩
  go_wp2_with fail
  refine (seq1_any s w.heap.size (w.heap.size + 1) _ _ _ HI0.out HN0.out hs (Blk.lt HN0.out) w.heap.size ⟨Nat.le_refl _, by omega⟩ id n r Hq.out true (by rw [He.out]; rfl)).mono ?_
  rintro e w2 ⟨rfl, hI2, hN2, hb2⟩
  have HI2 := Lib.hid hI2
  have HN2 := Lib.hid hN2
  have hb2' := hb0.trans hb2
  obtain ⟨cI, fI⟩ := one_cell hI2
  obtain ⟨cN, fN⟩ := one_cell hN2
  clear hI2 hN2 hb2 hb0 HI0 HN0 i0 i1
  go_wp2_with fail

  go_region
  have HI3 := Lib.hid (((HI2.out.set_ 0 (str id)).far (p := ⟨w.heap.size + 1, 0, none⟩) (by simp) (.int .i64 n)).drew)
  have HN3 := Lib.hid (((HN2.out.far (p := ⟨w.heap.size, 0, none⟩) (by simp) (str id)).set_ 0 (.int .i64 n)).drew)
  have hb3 := ((hb2'.setCell (p := ⟨w.heap.size, 0, none⟩) (Nat.le_refl _) (str id)).setCell (p := ⟨w.heap.size + 1, 0, none⟩) (Nat.le_succ _) (.int .i64 n)).drew
  clear cI fI cN fN HI2 HN2 hb2'
  generalize ((w2.setCell ⟨w.heap.size, 0, none⟩ (str id)).setCell ⟨w.heap.size + 1, 0, none⟩ (.int .i64 n)).drew = w3 at *
  have cI := (one_cell HI3.out).1
  have cN := (one_cell HN3.out).1
  go_wp2
  rw [Exit.noGoto_ret]
  exact bodyPost_ret (v := .tuple #[str id, .int .i64 n, .bool true]) (by simp [results, Try.results49, go_sem, cI, cN]) rfl ⟨rfl, hb3⟩


set_option maxRecDepth 100000 in
set_option maxHeartbeats 1600000 in
theorem seq_bad71 (s : List UInt8) (w : World) (hs : s.length ≤ 140737488351232) (id : List UInt8) (n : Int) (r : Rd) (hq : seqIn s = (id, n, r)) (he : rEnd r = 10) :
    Calls Try.prog 49 #[str (71 :: s)] w fun e w' => e = .returned (.tuple #[str [], .int .i64 0, .bool false]) ∧ Below w.heap.size w w' := by
  have Hq := Lib.hid hq
  have He := Lib.hid he
  clear hq he
  have i0 : ∀ w, Sem.run Try.prog (Instr.index 86 (.agg #[.string { data := #[80] }, .string { data := #[71] }]) (.int .i64 0)) w = .ok (.string { data := #[80] }) w := fun _ => by kernel_rfl
  have i1 : ∀ w, Sem.run Try.prog (Instr.index 86 (.agg #[.string { data := #[80] }, .string { data := #[71] }]) (.int .i64 1)) w = .ok (.string { data := #[71] }) w := fun _ => by kernel_rfl
  go_enter Try.func49, Try.ntmps49
  go_wp2_with fail
  have HI0 := Lib.hid ((Blk.new w 9 #[str []]).alloc (.cells #[.int .i64 0] 3))
  have HN0 := Lib.hid (Blk.new_at (w := w.alloc (.cells #[str []] 9)) (n := w.heap.size + 1) (by simp) 3 #[.int .i64 0])
  have hb0 : Below w.heap.size w ((w.alloc (.cells #[str []] 9)).alloc (.cells #[.int .i64 0] 3)) := ((Below.refl _ w).alloc (Nat.le_refl _) _).alloc (by simp) _
  generalize (w.alloc (.cells #[str []] 9)).alloc (.cells #[.int .i64 0] 3) = w0 at *
  go_step3
  go_wp2_with fail
  go_step3
  go_wp2_with fail
  refine wp_loop_rounds 3 ?_
  rw [rounds_succ]
  go_wp2_with fail

  refine (cut_no 80 (71 :: s) _ (by simp)).mono ?_
  rintro e w1 ⟨rfl, rfl⟩
  go_wp2_with fail
  rw [rounds_succ]
  go_wp2_with fail

  refine (cut_yes 71 s _).mono ?_
  rintro e w1 ⟨rfl, rfl⟩
  go_wp2_with fail
  refine (seq1_any s w.heap.size (w.heap.size + 1) _ _ _ HI0.out HN0.out hs (Blk.lt HN0.out) w.heap.size ⟨Nat.le_refl _, by omega⟩ id n r Hq.out false (by rw [He.out]; rfl)).mono ?_
  rintro e w2 ⟨rfl, hI2, hN2, hb2⟩
  have HI2 := Lib.hid hI2
  have HN2 := Lib.hid hN2
  have hb2' := hb0.trans hb2
  obtain ⟨cI, fI⟩ := one_cell hI2
  obtain ⟨cN, fN⟩ := one_cell hN2
  clear hI2 hN2 hb2 hb0 HI0 HN0 i0 i1
  go_wp2_with fail

  have HI3 := Lib.hid (((HI2.out.set_ 0 (str [])).far (p := ⟨w.heap.size + 1, 0, none⟩) (by simp) (.int .i64 0)))
  have HN3 := Lib.hid (((HN2.out.far (p := ⟨w.heap.size, 0, none⟩) (by simp) (str [])).set_ 0 (.int .i64 0)))
  have hb3 := ((hb2'.setCell (p := ⟨w.heap.size, 0, none⟩) (Nat.le_refl _) (str [])).setCell (p := ⟨w.heap.size + 1, 0, none⟩) (Nat.le_succ _) (.int .i64 0))
  clear cI fI cN fN HI2 HN2 hb2'
  have hWW : ∃ W, W = ((w2.setCell ⟨w.heap.size, 0, none⟩ (str [])).setCell ⟨w.heap.size + 1, 0, none⟩ (.int .i64 0)) := ⟨_, rfl⟩
  have cI := (one_cell HI3.out).1
  have cN := (one_cell HN3.out).1
  generalize ((w2.setCell ⟨w.heap.size, 0, none⟩ (str [])).setCell ⟨w.heap.size + 1, 0, none⟩ (.int .i64 0)) = w3 at *
  rw [Exit.noGoto_ret]
  exact bodyPost_ret (v := .tuple #[str [], .int .i64 0, .bool false]) (by simp [results, Try.results49, go_sem, cI, cN]) rfl ⟨rfl, hb3⟩


set_option maxRecDepth 100000 in
set_option maxHeartbeats 1600000 in
theorem seq_miss (s : List UInt8) (w : World) (h80 : s.head? ≠ some 80) (h71 : s.head? ≠ some 71) :
    Calls Try.prog 49 #[str s] w fun e w' => e = .returned (.tuple #[str [], .int .i64 0, .bool false]) ∧ Below w.heap.size w w' := by
  have H80 := Lib.hid h80
  have H71 := Lib.hid h71
  clear h80 h71
  have i0 : ∀ w, Sem.run Try.prog (Instr.index 86 (.agg #[.string { data := #[80] }, .string { data := #[71] }]) (.int .i64 0)) w = .ok (.string { data := #[80] }) w := fun _ => by kernel_rfl
  have i1 : ∀ w, Sem.run Try.prog (Instr.index 86 (.agg #[.string { data := #[80] }, .string { data := #[71] }]) (.int .i64 1)) w = .ok (.string { data := #[71] }) w := fun _ => by kernel_rfl
  go_enter Try.func49, Try.ntmps49
  go_wp2_with fail
  have HI0 := Lib.hid ((Blk.new w 9 #[str []]).alloc (.cells #[.int .i64 0] 3))
  have HN0 := Lib.hid (Blk.new_at (w := w.alloc (.cells #[str []] 9)) (n := w.heap.size + 1) (by simp) 3 #[.int .i64 0])
  have hb0 : Below w.heap.size w ((w.alloc (.cells #[str []] 9)).alloc (.cells #[.int .i64 0] 3)) := ((Below.refl _ w).alloc (Nat.le_refl _) _).alloc (by simp) _
  generalize (w.alloc (.cells #[str []] 9)).alloc (.cells #[.int .i64 0] 3) = w0 at *
  go_step3
  go_wp2_with fail
  go_step3
  go_wp2_with fail
  refine wp_loop_rounds 3 ?_
  rw [rounds_succ]
  go_wp2_with fail
  refine (cut_no 80 s _ H80.out).mono ?_
  rintro e w1 ⟨rfl, rfl⟩
  go_wp2_with fail
  rw [rounds_succ]
  go_wp2_with fail
  refine (cut_no 71 s _ H71.out).mono ?_
  rintro e w1 ⟨rfl, rfl⟩
  go_wp2_with fail
  rw [rounds_succ]
  have HI2 := HI0
  have HN2 := HN0
  obtain ⟨cI, fI⟩ := one_cell HI2.out
  obtain ⟨cN, fN⟩ := one_cell HN2.out
  clear HI0 HN0 i0 i1
  go_wp2_with fail
  have HI3 := Lib.hid (((HI2.out.set_ 0 (str [])).far (p := ⟨w.heap.size + 1, 0, none⟩) (by simp) (.int .i64 0)))
  have HN3 := Lib.hid (((HN2.out.far (p := ⟨w.heap.size, 0, none⟩) (by simp) (str [])).set_ 0 (.int .i64 0)))
  have hb3 := ((hb0.setCell (p := ⟨w.heap.size, 0, none⟩) (Nat.le_refl _) (str [])).setCell (p := ⟨w.heap.size + 1, 0, none⟩) (Nat.le_succ _) (.int .i64 0))
  clear cI fI cN fN HI2 HN2 hb0
  have hWW : ∃ W, W = ((w0.setCell ⟨w.heap.size, 0, none⟩ (str [])).setCell ⟨w.heap.size + 1, 0, none⟩ (.int .i64 0)) := ⟨_, rfl⟩
  have cI := (one_cell HI3.out).1
  have cN := (one_cell HN3.out).1
  generalize ((w0.setCell ⟨w.heap.size, 0, none⟩ (str [])).setCell ⟨w.heap.size + 1, 0, none⟩ (.int .i64 0)) = w3 at *
  rw [Exit.noGoto_ret]
  exact bodyPost_ret (v := .tuple #[str [], .int .i64 0, .bool false]) (by simp [results, Try.results49, go_sem, cI, cN]) rfl ⟨rfl, hb3⟩


theorem seqR_cons (x : UInt8) (s : List UInt8) : seqR (x :: s) = if (x = 80 ∨ x = 71) ∧ rEnd (seqIn s).2.2 = 0 then ((seqIn s).1, (seqIn s).2.1, true) else ([], 0, false) := rfl
theorem seq_any (s : List UInt8) (w : World) (hs : s.length ≤ 140737488351232) :
    Calls Try.prog 49 #[str s] w fun e w' => e = .returned (.tuple #[str (seqR s).1, .int .i64 (seqR s).2.1, .bool (seqR s).2.2]) ∧ Below w.heap.size w w' := by
  match s, hs with
  | [], _ => exact seq_miss [] w (by simp) (by simp)
  | x :: s, hs =>
    rw [List.length_cons] at hs
    obtain ⟨⟨id, n, r⟩, hq⟩ : ∃ q, seqIn s = q := ⟨_, rfl⟩
    rw [seqR_cons, hq]
    by_cases h80 : x = 80
    · subst h80
      rcases rEnd_cases r with he | he
      · rw [if_pos ⟨.inl rfl, he⟩]
        exact seq_ok80 s w (by omega) id n r hq he
      · rw [if_neg (fun h => by rw [he] at h; exact absurd h.2 (by decide))]
        exact seq_bad80 s w (by omega) id n r hq he
    · by_cases h71 : x = 71
      · subst h71
        rcases rEnd_cases r with he | he
        · rw [if_pos ⟨.inr rfl, he⟩]
          exact seq_ok71 s w (by omega) id n r hq he
        · rw [if_neg (fun h => by rw [he] at h; exact absurd h.2 (by decide))]
          exact seq_bad71 s w (by omega) id n r hq he
      · rw [if_neg (fun h => h.1.elim h80 h71)]
        exact seq_miss (x :: s) w (by simpa using h80) (by simpa using h71)
end Go.Proofs.Ytjanmonoigpmcaa

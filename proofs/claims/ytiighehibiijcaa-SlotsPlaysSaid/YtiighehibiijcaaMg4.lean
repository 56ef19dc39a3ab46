/-
  What strings.Builder's copyCheck and WriteString do, of a builder that the call has made itself: the library's own contracts' walks, over this program's numbers. No conditions beside those in each theorem.
  The shelf's contract of strings.Builder's String at this program's numbers (as the kit's lay-shelf and lay-plain write it), and that of Len.
  A log as memory holds it; what room, Room, Mark, Broken of slots.Slots return; what Open's own closure does. No conditions beside those in each theorem.
  What slots.Open returns, of a device. For devices of 0 to 4096 sectors, whose sectors have 64 bytes.
  What puts of slots.Slots does: sector by sector, from the one on in which the log ends. No conditions beside those in each theorem.
  What the closures in Commit of slots.Slots do. No conditions beside those in each theorem.
  What does of slots.Slots does: step by step, till one fails. No conditions beside those in each theorem.
  Commit of slots.Slots: its four steps are functions that are entered. No conditions beside those in each theorem.
  What Commit of slots.Slots does, of a log and its device. No conditions beside those in each theorem.
  What Commit of slots.Slots does, of a log and its device (under way). No conditions beside those in each theorem.
  What Commit of slots.Slots does to a log and its device, as plain Lean; the device's bounds behind each of its steps. No conditions beside those in each theorem.
  What Commit of slots.Slots does where it goes on. No conditions beside those in each theorem.
  What Commit of slots.Slots does, of any log. For marks to 2^62, logs to 1000000 bytes, records to 2^20 bytes, devices of 4096 sectors at most.
-/
import Derived.Test.YtiighehibiijcaaMg3
import Derived.Shelf.Strings.Builder1
import Derived.Shelf.Strings.BuilderF
import Derived.Shelf.Strings.BuilderK
import Derived.Deep.QuietTactic
import Derived.BigQuiet
import Derived.Lib.BufferWrite
import Derived.Deep.WholeRow
import Derived.Conc.MuLone
import Derived.Deep.MidRow
namespace Go.Proofs.Ytiighehibiijcaa
open Go.RowKit

theorem sizeBuilder : (Try.prog.info? 103).map (·.size) = some 2 := by kernel_rfl
theorem liesBuilder : liesAt Try.prog Try.prog.depth 103 (2 / Try.prog.cellsOf 103) 0 103 1 = true := by kernel_rfl
theorem infoByte : (Try.prog.info? 5).map (fun i => (i.zero, i.size, i.bytes)) = some (some (.int .u8 0), 1, 1) := by kernel_rfl

set_option maxHeartbeats 1000000 in
set_option maxRecDepth 100000 in
theorem copyCheck_used (b : Nat) (w : World) (h0 : w.cell? ⟨b, 0, none⟩ = some (.pointer (some ⟨b, 0, none⟩))) :
    Calls Try.prog 72 #[.pointer (some ⟨b, 0, none⟩)] w fun e w' => e = .returned (.tuple #[]) ∧ w' = w := by
  obtain ⟨j, hj, _⟩ := Option.map_eq_some_iff.1 sizeBuilder
  go_enter Try.func72, Try.ntmps72
  go_wp2
  rw [Lib.run_neq_ptr_same w _ Try.underlying101 hj]
  go_wp2
  go_end0
  exact ⟨rfl, rfl⟩

set_option maxHeartbeats 1000000 in
set_option maxRecDepth 100000 in
theorem copyCheck_fresh (b : Nat) (w : World) (h0 : w.cell? ⟨b, 0, none⟩ = some (.pointer none)) (hsh : w.shape? b = some (103, 2)) (hfz : w.frozen? ⟨b, 0, none⟩ = false) :
    Calls Try.prog 72 #[.pointer (some ⟨b, 0, none⟩)] w fun e w' => e = .returned (.tuple #[]) ∧ w' = w.setCell ⟨b, 0, none⟩ (.pointer (some ⟨b, 0, none⟩)) := by
  obtain ⟨j, hj, hjs⟩ := Option.map_eq_some_iff.1 sizeBuilder
  go_enter Try.func72, Try.ntmps72
  go_wp2
  rw [Lib.run_to_unsafe w ⟨b, 0, none⟩ Try.underlying101 Try.underlying122 hj (by rw [hjs]; decide) hsh (Nat.zero_lt_succ 1)]
  simp only [Result.andThen]
  rw [Oper.upon_value]
  go_wp2
  rw [run_callFunc_extern Try.func81 (by kernel_rfl) (by kernel_rfl) (by kernel_rfl) (e := Extern.AbiNoEscape.same) (by kernel_rfl)]
  rw [Lib.run_noEscape]
  simp only [Result.andThen]
  rw [Oper.upon_value]
  go_wp2
  rw [Lib.run_from_unsafe w ⟨b, 0, none⟩ Try.underlying122 Try.underlying101 hj hsh liesBuilder]
  simp only [Result.andThen]
  rw [Oper.upon_value]
  go_wp2
  go_end0
  exact ⟨rfl, rfl⟩

theorem copyCheck_any (B b : Nat) (bs : List Value) (w : World) (h : Lib.IsBuilder 103 5 B b bs w) :
    Calls Try.prog 72 #[.pointer (some ⟨b, 0, none⟩)] w fun e w' => e = .returned (.tuple #[]) ∧ (Lib.BuilderAt 103 5 B b (.pointer (some ⟨b, 0, none⟩)) bs w' ∧ Below B w w') := by
  rcases h with h | h
  · refine (copyCheck_fresh b w h.cell0 h.shape h.frozen0).mono ?_
    rintro e w' ⟨rfl, rfl⟩
    exact ⟨rfl, h.used _, (Below.refl B w).setCell (p := ⟨b, 0, none⟩) h.1 _⟩
  · refine (copyCheck_used b w h.cell0).mono ?_
    rintro e w' ⟨rfl, rfl⟩
    exact ⟨rfl, h, Below.refl B _⟩

set_option maxHeartbeats 2000000 in
set_option maxRecDepth 100000 in
theorem writeString_any (B b : Nat) (bs : List Value) (s : ByteArray) (w : World) (h : Lib.IsBuilder 103 5 B b bs w) (hlen : bs.length + s.size ≤ 140737488355328) (hBw : B ≤ w.heap.size) :
    Calls Try.prog 58 #[.pointer (some ⟨b, 0, none⟩), .string s] w fun e w' => e = .returned (.tuple #[.int .i64 s.size, .nilIface]) ∧ (Lib.BuilderAt 103 5 B b (.pointer (some ⟨b, 0, none⟩)) (bs ++ Lib.strCells s) w' ∧ Below B w w') := by
  obtain ⟨i0, hi, hz0, hz1, hz2⟩ := info_parts infoByte
  go_enter Try.func58, Try.ntmps58
  go_wp2_with fail
  refine (copyCheck_any B b bs _ h).mono ?_
  rintro e w1 ⟨rfl, h1, hb1⟩
  obtain ⟨hB, v, hbk, hown, hne⟩ := h1
  have c0 : w1.cell? ⟨b, 0, none⟩ = some (.pointer (some ⟨b, 0, none⟩)) := by rw [Lib.cell_of_heap hbk]; rfl
  have c1 : w1.cell? ⟨b, 1, none⟩ = some v := by rw [Lib.cell_of_heap hbk]; rfl
  go_wp2_with (at_builtin; refine Lib.wpList_append_own_string _ rfl _ _ 40 9 rfl B 5 i0 Try.underlying40 Try.underlying9 hi hz0 hz1 hz2 _ _ _ rfl hown s rfl ?c3 ?c4 ?c5 ?_)
  case c3 => unfold maxLen; omega
  case c4 => omega
  case c5 => have := hb1.size; omega
  intro v' w2 hown' hgrow _
  have hlt : b < w1.heap.size := by
    rcases Nat.lt_or_ge b w1.heap.size with h' | h'
    · exact h'
    · simp [Array.getElem?_eq_none h'] at hbk
  have hb2 : w2.heap[b]? = some (.cells #[.pointer (some ⟨b, 0, none⟩), v] 103 (0, 0)) := by
    rw [hgrow.block b hlt (fun e => hne e.symm)]
    exact hbk
  have d0 : w2.cell? ⟨b, 0, none⟩ = some (.pointer (some ⟨b, 0, none⟩)) := by rw [Lib.cell_of_heap hb2]; rfl
  have d1 : w2.cell? ⟨b, 1, none⟩ = some v := by rw [Lib.cell_of_heap hb2]; rfl
  have f1 : w2.frozen? ⟨b, 1, none⟩ = false := Lib.frozen_of_heap hb2 1
  obtain ⟨ao, n', cap, rfl⟩ : ∃ ao n' cap, v' = .slice ao n' cap := by
    rcases hown'.2 with ⟨hv, _⟩ | ⟨g, cap, cur, hv, _⟩
    · exact ⟨_, _, _, hv⟩
    · exact ⟨_, _, _, hv⟩
  go_wp2
  go_ret2
  refine ⟨rfl, ?_, ?_⟩
  · exact Lib.BuilderAt.put (T := 103) (e := 5) hB hb2 (bs' := bs ++ Lib.strCells s) (by simpa [Lib.strCells_length] using hown') (by decide)
  · exact (hb1.grown hgrow (by have := hb1.size; omega) (fun k hk => (hown.lt k hk).1)).setCell (p := ⟨b, 1, none⟩) hB _
end Go.Proofs.Ytiighehibiijcaa

namespace Go.Proofs.Ytiighehibiijcaa
open Go.RowKit
open Go.Shelf
def lays169_ren : Go.Shelf.Ren := ⟨fun | 169 => 60 | n => n, fun | 70 => 101 | 9 => 9 | 0 => 0 | 72 => 103 | 37 => 40 | 127 => 113 | 3 => 3 | 5 => 5 | n => n, fun | n => n⟩
theorem lays169 : Go.Proofs.Lays.n169 Try.prog lays169_ren := {
  mixed := by kernel_rfl
  f169 := Try.func60.trans (congrArg some (by kernel_rfl))
  t0 := Try.underlying0
  a0 := Try.isAgg0
  z0 := Try.sizeOf0
  v0 := Try.zeroValue0
  t3 := Try.underlying3
  a3 := Try.isAgg3
  z3 := Try.sizeOf3
  v3 := Try.zeroValue3
  t9 := Try.underlying9
  a9 := Try.isAgg9
  z9 := Try.sizeOf9
  v9 := Try.zeroValue9
  t37 := Try.underlying40
  a37 := Try.isAgg40
  z37 := Try.sizeOf40
  v37 := Try.zeroValue40
  t70 := Try.underlying101
  a70 := Try.isAgg101
  z70 := Try.sizeOf101
  v70 := Try.zeroValue101
  t72 := Try.underlying103
  a72 := Try.isAgg103
  z72 := Try.sizeOf103
  v72 := Try.zeroValue103
  t127 := Try.underlying113
  a127 := Try.isAgg113
  z127 := Try.sizeOf113
  v127 := Try.zeroValue113 }
theorem Builder_Extra_169 : Builder.Extra Try.prog lays169_ren := {
  sizeBuilder := by kernel_rfl
  liesBuilder := by kernel_rfl
  t5 := Try.underlying5
  a5 := Try.isAgg5
  z5 := Try.sizeOf5
  v5 := Try.zeroValue5
  infoByte := by kernel_rfl
  cellsByte := by kernel_rfl
  sizeByte := by kernel_rfl
  neB5 := by decide }
theorem Builder_String (B b : Nat) (l : List UInt8) (w : World) (h : Lib.IsBuilder 103 5 B b (Lib.byteCells l) w) (h0 : l ≠ []) :
    Calls Try.prog 60 #[.pointer (some ⟨b, 0, none⟩)] w fun e w' => e = .returned (.string ⟨l.toArray⟩) ∧ Below B w w' := Any.Builder_String lays169 Builder_Extra_169 B b l w h h0
theorem Builder_String_empty (B b : Nat) (w : World) (h : Lib.IsBuilder 103 5 B b [] w) (hBw : B ≤ w.heap.size) :
    Calls Try.prog 60 #[.pointer (some ⟨b, 0, none⟩)] w fun e w' => e = .returned (.string ⟨#[]⟩) ∧ Below B w w' := Any.Builder_String_empty lays169 Builder_Extra_169 B b w h hBw
theorem Builder_String_any (B b : Nat) (l : List UInt8) (w : World) (h : Lib.IsBuilder 103 5 B b (Lib.byteCells l) w) (hBw : B ≤ w.heap.size) :
    Calls Try.prog 60 #[.pointer (some ⟨b, 0, none⟩)] w fun e w' => e = .returned (.string ⟨l.toArray⟩) ∧ Below B w w' := Any.Builder_String_any lays169 Builder_Extra_169 B b l w h hBw

theorem builderLen_any (B b : Nat) (l : List UInt8) (w : World) (h : Lib.IsBuilder 103 5 B b (Lib.byteCells l) w) :
    Calls Try.prog 59 #[.pointer (some ⟨b, 0, none⟩)] w fun e w' => e = .returned (.int .i64 l.length) ∧ w' = w := by
  have hl : (Lib.byteCells l).length = l.length := by simp [Lib.byteCells]
  have h2 : ∃ p ao cap, w.heap[b]? = some (.cells #[p, .slice ao l.length cap] 103 (0, 0)) := by
    rw [← hl]
    rcases h with h | h
    all_goals
      obtain ⟨hB, v, hbk, hown, hne⟩ := h
      rcases hown.2 with ⟨hv, hnil⟩ | ⟨g, cap, cur, hv, _⟩
      · subst hv
        exact ⟨_, _, _, by rw [hbk, hnil]⟩
      · subst hv
        exact ⟨_, _, _, hbk⟩
  obtain ⟨p, ao, cap, hbk⟩ := h2
  have c1 : w.cell? ⟨b, 1, none⟩ = some (.slice ao l.length cap) := by rw [Lib.cell_of_heap hbk]; rfl
  go_enter Try.func59, Try.ntmps59
  go_wp2_with fail
  go_ret
  exact ⟨rfl, rfl⟩
end Go.Proofs.Ytiighehibiijcaa

namespace Go.Proofs.Ytiighehibiijcaa
open Go.RowKit
set_option linter.unusedSimpArgs false
set_option linter.unnecessarySimpa false
set_option linter.unusedVariables false

/-- A log: its device, its mark, the bytes behind the last whole sector, whether it is broken. -/
structure Log where
  mark : Mk
  fin : List UInt8
  broken : Bool
def IsLog (w : World) (h g : Nat) (x : Log) : Prop :=
  Blk w h 78 #[.pointer (some ⟨g, 0, none⟩), .int .i64 x.mark.1, .int .i64 x.mark.2.1, .int .i64 x.mark.2.2, str x.fin, .bool x.broken]
theorem log_cells {w : World} {h g : Nat} {x : Log} (hx : IsLog w h g x) : w.cell? ⟨h, 0, none⟩ = some (.pointer (some ⟨g, 0, none⟩)) ∧ w.cell? ⟨h, 1, none⟩ = some (.int .i64 x.mark.1) ∧ w.cell? ⟨h, 2, none⟩ = some (.int .i64 x.mark.2.1) ∧
    w.cell? ⟨h, 3, none⟩ = some (.int .i64 x.mark.2.2) ∧ w.cell? ⟨h, 4, none⟩ = some (str x.fin) ∧ w.cell? ⟨h, 5, none⟩ = some (.bool x.broken) :=
  ⟨Blk.cell hx 0, Blk.cell hx 1, Blk.cell hx 2, Blk.cell hx 3, Blk.cell hx 4, Blk.cell hx 5⟩
theorem quiet_mine {P : Program} {f : FuncId} {args : Array Value} {w : World} {n : Nat} {v : Value}
    (h : Calls P f args (w.drewN n) fun e w' => e = .returned v ∧ w.drewN n = w') : Calls P f args (w.drewN n) fun e w'' => e = .returned v ∧ ∃ m, w'' = w.drewN m :=
  h.mono fun _ _ ⟨he, hm⟩ => ⟨he, n, hm.symm⟩
theorem bel_drewN {B : Nat} {w w' : World} (h : Below B w w') (n : Nat) : Below B w (w'.drewN n) := ⟨h.os, h.tape, h.output, h.size, h.block⟩
def roomD (d : Dev) : Int := (d.n - 2) * 64

theorem builder_step {T e : TypeId} {B b : Nat} {bs : List Value} {w w' : World} (h : Lib.IsBuilder T e B b bs w) (hb : Below w.heap.size w w') : Lib.IsBuilder T e B b bs w' := by
  have one : ∀ p, Lib.BuilderAt T e B b p bs w → Lib.BuilderAt T e B b p bs w' := by
    rintro p ⟨h1, v, h2, h3, h4⟩
    have hlt : b < w.heap.size := Lib.BuilderAt.lt ⟨h1, v, h2, h3, h4⟩
    refine ⟨h1, v, (hb.block b hlt).trans h2, ?_, h4⟩
    exact World.ownsRow.kept h3 (row := Option.none) ⟨hb.os, hb.tape, hb.output, hb.size, fun k hk _ => hb.block k hk⟩ (by
      rcases hv : v.ownBlock with _ | k
      · exact .inl rfl
      · exact .inr (by simp))
  exact h.elim (fun h => .inl (one _ h)) (fun h => .inr (one _ h))

set_option maxHeartbeats 800000 in
theorem room_any (w : World) (g gm : Nat) (v : Value) (cap B : Nat) (d : Dev) (hd : IsDev w g gm v cap B d) (n0 : 0 ≤ d.n) (n1 : d.n ≤ 4096) :
    Calls Try.prog 56 #[.pointer (some ⟨g, 0, none⟩)] w fun e w' => e = .returned (.int .i64 (roomD d)) ∧ w = w' := by
  unfold roomD
  go_enter Try.func56, Try.ntmps56
  go_wp2_with fail
  refine (sectors_any _ g gm v cap B d hd).mono ?_
  rintro e w1 ⟨rfl, rfl⟩
  go_wp2_with fail
  go_ret
  exact ⟨rfl, rfl⟩

set_option maxRecDepth 100000 in
set_option maxHeartbeats 1600000 in
theorem logRoom_any (w : World) (h g gm : Nat) (v : Value) (cap B : Nat) (d : Dev) (x : Log) (hx : IsLog w h g x) (hd : IsDev w g gm v cap B d) (n0 : 0 ≤ d.n) (n1 : d.n ≤ 4096) (m0 : -1000000 ≤ x.mark.2.1) (m1 : x.mark.2.1 ≤ 1000000) :
    Calls Try.prog 42 #[.pointer (some ⟨h, 0, none⟩)] w fun e w' => e = .returned (.int .i64 (roomD d - x.mark.2.1)) ∧ Below w.heap.size w w' := by
  obtain ⟨c0, c1, c2, c3, c4, c5⟩ := log_cells hx
  have hr0 : -1000000 ≤ roomD d := by unfold roomD; omega
  have hr1 : roomD d ≤ 1000000 := by unfold roomD; omega
  go_enter Try.func42, Try.ntmps42
  go_wp2_with fail
  go_quiet ((go_at_call 56; exact quiet_mine (room_any _ g gm v cap B d (hd.drew _) n0 n1)))
  go_wp2
  go_ret
  exact ⟨rfl, bel_drewN (Below.refl _ _) _⟩

set_option maxHeartbeats 800000 in
theorem logMark_any (w : World) (h g : Nat) (x : Log) (hx : IsLog w h g x) :
    Calls Try.prog 43 #[.pointer (some ⟨h, 0, none⟩)] w fun e w' => e = .returned (.agg #[.int .i64 x.mark.1, .int .i64 x.mark.2.1, .int .i64 x.mark.2.2]) ∧ Below w.heap.size w w' := by
  obtain ⟨c0, c1, c2, c3, c4, c5⟩ := log_cells hx
  have hlt := Blk.lt hx
  go_enter Try.func43, Try.ntmps43
  go_wp2_with fail
  refine bodyPost_ret (results_cellrow rfl _ _ w.heap.size 62 _ _ rfl (Blk.new _ _ _) Try.underlying62 rfl (by kernel_rfl)) rfl ?_
  exact ⟨rfl, (Below.refl _ _).alloc (Nat.le_refl _) _⟩

set_option maxHeartbeats 800000 in
theorem logBroken_any (w : World) (h g : Nat) (x : Log) (hx : IsLog w h g x) :
    Calls Try.prog 44 #[.pointer (some ⟨h, 0, none⟩)] w fun e w' => e = .returned (.bool x.broken) ∧ w = w' := by
  obtain ⟨c0, c1, c2, c3, c4, c5⟩ := log_cells hx
  obtain ⟨mark, fin, br⟩ := x
  simp only [] at c1 c2 c3 c4 c5
  cases br
  all_goals
    go_enter Try.func44, Try.ntmps44
    go_wp2_with fail
    go_ret
    exact ⟨rfl, rfl⟩

set_option maxRecDepth 100000 in
set_option maxHeartbeats 1600000 in
theorem open1_any (w : World) (g gm : Nat) (v : Value) (cap B : Nat) (d : Dev) (k : Int) (x b : Nat) (l : List UInt8) (hd : IsDev w g gm v cap B d) (hk : (Lit.int .i64 k).wf = true) (hn : d.waits.length < 4611686018427)
    (hx : Blk w x 24 #[.pointer (some ⟨g, 0, none⟩)]) (hb : Lib.IsBuilder 103 5 b b (Lib.byteCells l) w) (hl : l.length + (readS d k).length ≤ 140737488355328) :
    Calls Try.prog 57 #[.int .i64 k, .pointer (some ⟨x, 0, none⟩), .pointer (some ⟨b, 0, none⟩)] w
      fun e w' => e = .returned (.bool (readE d k == 0)) ∧ Lib.IsBuilder 103 5 b b (Lib.byteCells (l ++ readS d k)) w' ∧ Below b w w' := by
  have cx := hx.cell 0
  have hbl : b < w.heap.size := hb.elim Lib.BuilderAt.lt Lib.BuilderAt.lt
  go_enter Try.func57, Try.ntmps57
  go_wp2_with fail
  refine (read_any _ g gm v cap B d k hd hk hn).mono ?_
  rintro e w1 ⟨rfl, hb1⟩
  have bb1 := builder_step hb hb1
  have z1 := hb1.size
  go_wp2_with fail
  refine (writeString_any b b (Lib.byteCells l) ⟨(readS d k).toArray⟩ _ bb1 (by simpa [Lib.byteCells, ByteArray.size] using hl) (by omega)).mono ?_
  rintro e w2 ⟨rfl, bb2, hb2⟩
  have hsc : Lib.byteCells l ++ Lib.strCells ⟨(readS d k).toArray⟩ = Lib.byteCells (l ++ readS d k) := by simp [Lib.byteCells, Lib.strCells]
  rw [hsc] at bb2
  go_wp2_with fail
  go_ret
  exact ⟨rfl, .inr bb2, (hb1.mono (by omega)).trans hb2⟩
end Go.Proofs.Ytiighehibiijcaa

namespace Go.Proofs.Ytiighehibiijcaa
open Go.RowKit
set_option linter.unusedSimpArgs false
set_option linter.unnecessarySimpa false
set_option linter.unusedVariables false

/-- The newest mark of a device. -/
def markD (d : Dev) : Mk := newR (unpackR (readS d 0)).1 (unpackR (readS d 1)).1
/-- k sectors, from the second on. -/
def secsD (d : Dev) : Nat → List UInt8
  | 0 => []
  | k + 1 => secsD d k ++ readS d (2 + k)
def logD (d : Dev) : List UInt8 := (secsD d (((markD d).2.1.toNat + 63) / 64)).take (markD d).2.1.toNat
/-- What Open tells: a log, if there is one; the records; the error. -/
def openR (d : Dev) : Option Log × List (List UInt8) × Int :=
  if d.n ≤ 2 then (none, [], 1)
  else if d.on = false then (none, [], 14)
  else if roomD d < (markD d).2.1 then (none, [], 10)
  else if (allR (logD d)).2 = (logD d).length ∧ (((allR (logD d)).1.length : Nat) : Int) = (markD d).2.2 then
    (some ⟨markD d, (logD d).drop ((logD d).length - (logD d).length % 64), false⟩, (allR (logD d)).1, 0)
  else (none, [], 10)
def OpenIs (w w' : World) (g : Nat) (e : Ending) : Option Log × List (List UInt8) × Int → Prop
  | (none, _, er) => e = .returned (.tuple #[.pointer none, .slice none 0 0, .int .i64 er])
  | (some x, rs, er) => ∃ h v, e = .returned (.tuple #[.pointer (some ⟨h, 0, none⟩), v, .int .i64 er]) ∧ w.heap.size ≤ h ∧ IsLog w' h g x ∧ OwnS w' w.heap.size v rs

theorem lastW_mem {k : Int} : ∀ (l : List (Int × List UInt8)) (s : List UInt8), lastW k l = some s → ∃ p ∈ l, p.2 = s := by
  intro l
  induction l with
  | nil => intro s h; cases h
  | cons p l ih =>
    intro s h
    simp only [lastW] at h
    rcases hq : lastW k l with _ | t
    · rw [hq] at h
      simp only [Option.none_or] at h
      split at h
      · injection h with h; exact ⟨p, by simp, h⟩
      · cases h
    · rw [hq] at h
      simp only [Option.some_or] at h
      injection h with h
      subst h
      obtain ⟨p', h1, h2⟩ := ih t hq
      exact ⟨p', by simp [h1], h2⟩
theorem readD_length {d : Dev} (hs : SafeOk d) (hw : WaitOk d.n d.waits) (k : Int) : (readD d k).length = 64 := by
  unfold readD
  rcases hq : lastW k d.waits with _ | s
  · exact hs.safeD k
  · obtain ⟨p, h1, h2⟩ := lastW_mem _ _ hq
    rw [← h2]
    exact (hw p h1).2.1
theorem readS_length {d : Dev} (hs : SafeOk d) (hw : WaitOk d.n d.waits) (k : Int) : (readS d k).length ≤ 64 := by
  unfold readS
  split
  · split
    · rw [readD_length hs hw]; exact Nat.le_refl _
    · simp
  · simp
theorem readS_has {d : Dev} (hs : SafeOk d) (hw : WaitOk d.n d.waits) (hon : d.on = true) {k : Int} (h0 : 0 ≤ k) (h1 : k < d.n) : (readS d k).length = 64 ∧ readE d k = 0 := by
  have hh : hasD d.n k = true := by simp [hasD, h0, h1]
  unfold readS readE
  rw [hon, hh]
  exact ⟨readD_length hs hw k, rfl⟩
theorem unpackR_range {s : List UInt8} {e b c : Int} {ok : Bool} (h : unpackR s = ((e, b, c), ok)) : (0 ≤ e ∧ e ≤ 1099511627776) ∧ (0 ≤ b ∧ b ≤ 1099511627776) ∧ (0 ≤ c ∧ c ≤ 1099511627776) := by
  unfold unpackR at h
  split at h
  · rename_i hh
    obtain ⟨⟨h0, h1, h2, h3⟩, -⟩ := hh
    simp only [Prod.mk.injEq] at h
    obtain ⟨⟨rfl, rfl, rfl⟩, -⟩ := h
    omega
  · simp only [Prod.mk.injEq] at h
    obtain ⟨⟨rfl, rfl, rfl⟩, -⟩ := h
    omega
theorem newR_range {e0 b0 c0 e1 b1 c1 e b c : Int} {P : Int → Int → Int → Prop} (h : newR (e0, b0, c0) (e1, b1, c1) = (e, b, c)) (h0 : P e0 b0 c0) (h1 : P e1 b1 c1) : P e b c := by
  unfold newR at h
  split at h
  · simp only [Prod.mk.injEq] at h; obtain ⟨rfl, rfl, rfl⟩ := h; exact h1
  · simp only [Prod.mk.injEq] at h; obtain ⟨rfl, rfl, rfl⟩ := h; exact h0
theorem secsD_length {d : Dev} (hs : SafeOk d) (hw : WaitOk d.n d.waits) (hon : d.on = true) : ∀ k : Nat, (k : Int) + 2 ≤ d.n → (secsD d k).length = 64 * k := by
  intro k
  induction k with
  | zero => intro _; rfl
  | succ k ih =>
    intro h
    have h2 := (readS_has hs hw hon (k := 2 + (k : Int)) (by omega) (by omega)).1
    simp only [secsD, List.length_append]
    rw [ih (by omega), h2]
    omega
theorem builder_below {T e : TypeId} {b : Nat} {w : World} {n : Nat} {bs : List Value} (h : Lib.IsBuilder T e b b bs w) : Lib.IsBuilder T e b b bs (w.drewN n) := h

set_option maxRecDepth 100000 in
set_option maxHeartbeats 3200000 in
theorem open_any (w : World) (g gm : Nat) (v : Value) (cap B : Nat) (d : Dev) (hd : IsDev w g gm v cap B d) (n0 : 0 ≤ d.n) (n1 : d.n ≤ 4096) (hs : SafeOk d) (hw : WaitOk d.n d.waits) (hl : d.waits.length < 4611686018427)
    (r : Option Log × List (List UInt8) × Int) (hr : openR d = r) :
    Calls Try.prog 38 #[.pointer (some ⟨g, 0, none⟩)] w fun e w' => OpenIs w w' g e r ∧ Below w.heap.size w w' := by
  have HR := Lib.hid hr
  have X1 := Blk.new w 24 #[.pointer (some ⟨g, 0, none⟩)]
  have B1 : Below w.heap.size w (w.alloc (.cells #[.pointer (some ⟨g, 0, none⟩)] 24)) := (Below.refl _ _).alloc (Nat.le_refl _) _
  have HD := Lib.hid hd
  have HD1 := Lib.hid (hd.step B1)
  have HX1 := Lib.hid X1
  have HB1 := Lib.hid B1
  clear hr hd X1 B1
  go_enter Try.func38, Try.ntmps38
  go_wp2_with fail
  refine (sectors_any _ g gm v cap B d HD1.out).mono ?_
  rintro e w1 ⟨rfl, rfl⟩
  by_cases h2 : d.n ≤ 2
  · have hrr : openR d = (none, [], 1) := by unfold openR; rw [if_pos h2]
    rw [HR.out] at hrr
    subst hrr
    go_wp2_with fail
    go_ret3
    exact ⟨rfl, HB1.out⟩
  obtain ⟨on, hon⟩ : ∃ on, d.on = on := ⟨_, rfl⟩
  cases on
  · have hrr : openR d = (none, [], 14) := by unfold openR; rw [if_neg h2, if_pos hon]
    rw [HR.out] at hrr
    subst hrr
    have he : readE d 0 = 14 := by unfold readE; rw [hon]; rfl
    have HE := Lib.hid he
    clear he hon
    go_wp2_with fail
    refine (read_any _ g gm v cap B d 0 HD1.out rfl hl).mono ?_
    rw [HE.out]
    rintro e w2 ⟨rfl, hb2⟩
    have HB2 := Lib.hid (bel_step HB1.out hb2)
    clear hb2
    go_wp2_with fail
    go_ret3
    exact ⟨rfl, HB2.out⟩
  have he : readE d 0 = 0 := by unfold readE hasD; rw [hon]; simp; omega
  have he1 : readE d 1 = 0 := by unfold readE hasD; rw [hon]; simp; omega
  have HE := Lib.hid he
  have HE1 := Lib.hid he1
  have HON := Lib.hid hon
  clear he he1 hon
  go_wp2_with fail
  refine (read_any _ g gm v cap B d 0 HD1.out rfl hl).mono ?_
  rw [HE.out]
  rintro e w2 ⟨rfl, hb2⟩
  have HB2 := Lib.hid (bel_step HB1.out hb2)
  have HX2 := Lib.hid (HX1.out.step hb2)
  have cx2 := HX2.out.cell 0
  have HD2 := Lib.hid (HD1.out.step hb2)
  clear hb2
  go_wp2_with fail
  refine (read_any _ g gm v cap B d 1 HD2.out rfl hl).mono ?_
  rw [HE1.out]
  rintro e w3 ⟨rfl, hb3⟩
  have HB3 := Lib.hid (bel_step HB2.out hb3)
  have HX3 := Lib.hid (HX2.out.step hb3)
  have cx3 := HX3.out.cell 0
  have HD3 := Lib.hid (HD2.out.step hb3)
  clear hb3 cx2
  obtain ⟨⟨⟨e0, b0, c0⟩, k0⟩, hu0⟩ : ∃ q, unpackR (readS d 0) = q := ⟨_, rfl⟩
  obtain ⟨⟨⟨e1, b1, c1⟩, k1⟩, hu1⟩ : ∃ q, unpackR (readS d 1) = q := ⟨_, rfl⟩
  obtain ⟨⟨me, mb, mc⟩, hm⟩ : ∃ q, markD d = q := ⟨_, rfl⟩
  have HM := Lib.hid hm
  unfold markD at hm
  rw [hu0, hu1] at hm
  simp only [] at hm
  have HU0 := Lib.hid hu0
  have HU1 := Lib.hid hu1
  have HN := Lib.hid hm
  clear hu0 hu1 hm
  go_wp2_with fail
  refine (newest_any (readS d 0) (readS d 1) ?_ ?_ _ e0 b0 c0 e1 b1 c1 me mb mc k0 k1 HU0.out HU1.out HN.out).mono ?_
  · have := readS_length hs hw 0; omega
  · have := readS_length hs hw 1; omega
  rintro e w4 ⟨rfl, hb4⟩
  have HB4 := Lib.hid (bel_step HB3.out hb4)
  have HX4 := Lib.hid (HX3.out.step hb4)
  have HD4 := Lib.hid (HD3.out.step hb4)
  clear hb4 cx3
  go_wp2_with fail
  obtain ⟨w5, hw5⟩ : ∃ w5, w4.alloc (.cells #[.int .i64 me, .int .i64 mb, .int .i64 mc] 62) = w5 := ⟨_, rfl⟩
  obtain ⟨q, hq⟩ : ∃ q, w4.heap.size = q := ⟨_, rfl⟩
  have m5 : Blk w5 q 62 #[.int .i64 me, .int .i64 mb, .int .i64 mc] := by rw [← hw5]; exact Blk.new_at hq.symm _ _
  have x5 : Blk w5 w.heap.size 24 #[.pointer (some ⟨g, 0, none⟩)] := by rw [← hw5]; exact HX4.out.alloc _
  have d5 : IsDev w5 g gm v cap B d := by rw [← hw5]; exact HD4.out.step ((Below.refl _ _).alloc (Nat.le_refl _) _)
  have b5 : Below w.heap.size w w5 := by rw [← hw5]; exact HB4.out.alloc HB4.out.size _
  have hwq : w.heap.size ≤ q := by rw [← hq]; exact HB4.out.size
  rw [hw5, hq]
  have hrg : (0 ≤ me ∧ me ≤ 1099511627776) ∧ (0 ≤ mb ∧ mb ≤ 1099511627776) ∧ (0 ≤ mc ∧ mc ≤ 1099511627776) :=
    newR_range (P := fun e b c => (0 ≤ e ∧ e ≤ 1099511627776) ∧ (0 ≤ b ∧ b ≤ 1099511627776) ∧ (0 ≤ c ∧ c ≤ 1099511627776)) HN.out (unpackR_range HU0.out) (unpackR_range HU1.out)
  obtain ⟨M, rfl⟩ : ∃ M : Nat, mb = (M : Int) := ⟨mb.toNat, by omega⟩
  have HRG := Lib.hid hrg
  have HM5 := Lib.hid m5
  have HX5 := Lib.hid x5
  have HD5 := Lib.hid d5
  have HB5 := Lib.hid b5
  have cx5 : w5.cell? ⟨w.heap.size, 0, none⟩ = some (.pointer (some ⟨g, 0, none⟩)) := x5.cell 0
  have cm5 : w5.cell? ⟨q, 1, none⟩ = some (.int .i64 (M : Int)) := m5.cell 1
  clear hq hw5 m5 x5 d5 b5 hrg HU0 HU1 HN HB1 HB2 HB3 HB4 HX1 HX2 HX3 HX4 HD1 HD2 HD3 HD4 HE HE1
  obtain ⟨rm, hrm⟩ : ∃ rm, roomD d = rm := ⟨_, rfl⟩
  have hrm0 : rm = (d.n - 2) * 64 := by rw [← hrm]; rfl
  have hroom : ∀ n, Calls Try.prog 56 #[.pointer (some ⟨g, 0, none⟩)] (w5.drewN n) fun e w' => e = .returned (.int .i64 rm) ∧ w5.drewN n = w' := fun n => by rw [← hrm]; exact room_any _ g gm v cap B d (HD5.out.drew _) n0 n1
  have HRO := Lib.hid hroom
  have HRM := Lib.hid hrm0
  clear hroom hrm0
  by_cases hgt : rm < (M : Int)
  · have hrr : openR d = (none, [], 10) := by unfold openR; rw [if_neg (by omega), if_neg (by rw [HON.out]; simp), if_pos (by rw [HM.out, hrm]; exact hgt)]
    rw [HR.out] at hrr
    subst hrr
    go_quiet ((go_at_call 56; exact quiet_mine (HRO.out _)))
    go_wp2_with fail
    go_ret3
    exact ⟨rfl, bel_drewN HB5.out _⟩
  go_quiet ((go_at_call 56; exact quiet_mine (HRO.out _)))
  go_wp2_with fail
  obtain ⟨b, hb⟩ : ∃ b, w5.heap.size = b := ⟨_, rfl⟩
  have hfb : Lib.IsBuilder 103 5 b b (Lib.byteCells (secsD d 0)) ((w5.drewN nq).alloc (.cells #[.pointer none, .slice none 0 0] 103)) := by
    rw [← hb]; exact Lib.fresh_isBuilder _ _ (w5.drewN nq)
  have b6 : Below w5.heap.size w5 ((w5.drewN nq).alloc (.cells #[.pointer none, .slice none 0 0] 103)) := (bel_drewN (Below.refl w5.heap.size w5) nq).alloc (Nat.le_refl _) _
  have hqb : q < b := by rw [← hb]; exact HM5.out.lt
  have hxb : w.heap.size < b := by rw [← hb]; exact HX5.out.lt
  rw [hb]
  generalize (w5.drewN nq).alloc (.cells #[.pointer none, .slice none 0 0] 103) = w6 at hfb b6 ⊢
  have HM6 := Lib.hid (HM5.out.step b6)
  have HX6 := Lib.hid (HX5.out.step b6)
  have HD6 := Lib.hid (HD5.out.step b6)
  have HB6 := Lib.hid (bel_step HB5.out b6)
  have HF6 := Lib.hid hfb
  have hb6 : b ≤ w6.heap.size := by rw [← hb]; exact b6.size
  have HQ := Lib.hid (And.intro hwq (And.intro hqb (And.intro hxb hb6)))
  clear hfb b6 hqb hxb hb hb6 hwq cx5 cm5
  go_loopw [11] (fun i wr => ∃ k : Nat, i = .int .i64 (2 + (k : Int)) ∧ (k = 0 ∨ 64 * ((k : Int) - 1) < (M : Int)) ∧ Lib.IsBuilder 103 5 b b (Lib.byteCells (secsD d k)) wr ∧ Below b w6 wr) (fun i _ => (M + 3) - (intOf i).toNat)
  case atStart => exact ⟨0, rfl, .inl rfl, HF6.out, Below.refl _ _⟩
  case round =>
    obtain ⟨k, rfl, hk, hf, hbk⟩ := hrel
    have hm := Blk.below HM6.out hbk HQ.out.2.1
    have hx := Blk.below HX6.out hbk HQ.out.2.2.1
    have hB := HB6.out.trans (hbk.mono (Nat.le_of_lt HQ.out.2.2.1))
    have HM7 := Lib.hid hm
    have HX7 := Lib.hid hx
    have HB7 := Lib.hid hB
    have HF7 := Lib.hid hf
    have HK7 := Lib.hid hbk
    have hrm0 := HRM.out
    have hrg := HRG.out
    have hkn : (k : Int) + 2 ≤ d.n := by omega
    have hkl := secsD_length hs hw HON.out k hkn
    have hlen : ∀ n, Calls Try.prog 59 #[.pointer (some ⟨b, 0, none⟩)] (wr.drewN n) fun e w' => e = .returned (.int .i64 ((64 * k : Nat) : Int)) ∧ wr.drewN n = w' := fun n => by
      rw [← hkl]
      exact (builderLen_any b b (secsD d k) _ (builder_below HF7.out)).mono fun _ _ h => ⟨h.1, h.2.symm⟩
    have HL7 := Lib.hid hlen
    have cm : wr.cell? ⟨q, 1, none⟩ = some (.int .i64 (M : Int)) := hm.cell 1
    have HKN := Lib.hid hkn
    have HKL := Lib.hid hkl
    clear hm hx hB hf hbk hrm0 hkn hkl hlen
    by_cases hlt : ((64 * k : Nat) : Int) < (M : Int)
    · go_wp2_with fail
      go_quiet ((go_at_call 59; exact quiet_mine (HL7.out _)))
      go_wp2_with fail
      have hrm0 := HRM.out
      have hkn2 : 2 + (k : Int) < d.n := by omega
      obtain ⟨hsl, hse⟩ := readS_has hs hw HON.out (k := 2 + (k : Int)) (by omega) hkn2
      have hwf : (Lit.int .i64 (2 + (k : Int))).wf = true := by
        rw [← wrap_small (2 + (k : Int)) (by omega) (by omega)]
        exact wf_wrap _ _
      refine (open1_any _ g gm v cap B d (2 + (k : Int)) w.heap.size b (secsD d k) ((HD.out.step HB7.out).drew _) hwf hl HX7.out (builder_below HF7.out) (by rw [HKL.out, hsl]; omega)).mono ?_
      rw [hse]
      rintro e w8 ⟨rfl, hf8, hb8⟩
      have HF8 := Lib.hid hf8
      have HB8 := Lib.hid ((bel_drewN HK7.out _).trans hb8)
      clear hf8 hb8 hsl hse hrm0
      go_wp2_with fail
      go_roundw
      case rel => exact ⟨k + 1, by go_num, .inr (by omega), HF8.out, HB8.out⟩
      case measure => simp [intOf]; omega
    · go_wp2_with fail
      go_quiet ((go_at_call 59; exact quiet_mine (HL7.out _)))
      go_wp2_with fail
      have hML : M ≤ (secsD d k).length := by rw [HKL.out]; omega
      have hf7 := builder_below (n := nq) HF7.out
      have hb7 := bel_drewN HB7.out nq
      have hk7 := bel_drewN HK7.out nq
      have cm7 : (wr.drewN nq).cell? ⟨q, 1, none⟩ = some (.int .i64 (M : Int)) := cm
      generalize wr.drewN nq = w7 at hf7 hb7 hk7 cm7 ⊢
      clear cm
      refine until_begin 5 (fun w' => w'.cell? ⟨q, 1, none⟩ = some (.int .i64 (M : Int)) ∧ Hid (Below w.heap.size w w' ∧ Below b w6 w')) (by kernel_rfl) ⟨cm7, Lib.hid ⟨hb7.drew, hk7.drew⟩⟩ (fun hS => ?_)
      refine until_take 1 (some 54) (u := ?_) rfl rfl (by kernel_rfl) (by kernel_rfl) (by kernel_rfl) (by kernel_rfl) (fun _ _ _ h => h) (by rfl) (fun wS hv => ?_) hS ?_
      rotate_left
      · clear hv
        go_simp
        all_goals with_reducible rfl
      try simp only [Act.put, List.setIfInBounds_toArray, List.set]
      refine until_take 2 (some 55) (u := ?_) rfl rfl (by kernel_rfl) (by kernel_rfl) (by kernel_rfl) (by kernel_rfl) (fun _ _ _ h => h) (by rfl) (fun wS hv => ?_) hS ?_
      rotate_left
      · obtain ⟨k1, -⟩ := hv
        go_simp
        all_goals with_reducible rfl
      try simp only [Act.put, List.setIfInBounds_toArray, List.set]
      refine until_one 0 (by kernel_rfl) rfl (fun K hK => ?_)
      go_simp
      refine (Builder_String_any b b (secsD d k) _ (builder_below (n := 1) hf7) ?_).mono ?_
      · exact Nat.le_trans HQ.out.2.2.2 hk7.size
      rintro e w8 ⟨rfl, hb8⟩
      refine hK.out _ _ ⟨(hb8.cell (p := ⟨q, 1, none⟩) HQ.out.2.1).trans hS.1, Lib.hid ⟨hS.2.out.1.trans (hb8.mono (Nat.le_of_lt HQ.out.2.2.1)), hS.2.out.2.trans hb8⟩⟩ (fun hS => ?_)
      clear hK K
      try simp only [Act.put, List.setIfInBounds_toArray, List.set]
      refine until_take 3 (some 56) (u := ?_) rfl rfl (by kernel_rfl) (by kernel_rfl) (by kernel_rfl) (by kernel_rfl) (fun _ _ _ h => h) (by rfl) (fun wS hv => ?_) hS ?_
      rotate_left
      · clear hv
        go_simp
        all_goals with_reducible rfl
      try simp only [Act.put, List.setIfInBounds_toArray, List.set]
      refine until_take 4 (some 12) (u := ?_) rfl rfl (by kernel_rfl) (by kernel_rfl) (by kernel_rfl) (by kernel_rfl) (fun _ _ _ h => h) (by rfl) (fun wS hv => ?_) hS ?_
      rotate_left
      · clear hv
        go_simp
        all_goals with_reducible rfl
      try simp only [Act.put, List.setIfInBounds_toArray, List.set]
      refine until_done (by kernel_rfl) ?_
      have hlog : List.take M (secsD d k) = logD d := by
        unfold logD
        rw [HM.out]
        simp only [Int.toNat_natCast]
        rw [show (M + 63) / 64 = k by omega]
      obtain ⟨L, hL⟩ : ∃ L, logD d = L := ⟨_, rfl⟩
      rw [hlog, hL]
      have hLl : L.length = M := by rw [← hL, ← hlog, List.length_take]; omega
      have hMs : M ≤ 262144 := by have := HRM.out; omega
      obtain ⟨⟨rs, N⟩, hA⟩ : ∃ q, allR L = q := ⟨_, rfl⟩
      have HA := Lib.hid hA
      have HL := Lib.hid hL
      have HLl := Lib.hid hLl
      have HM8 := Lib.hid ((Blk.below HM6.out hS.2.out.2 HQ.out.2.1))
      have HX8 := Lib.hid ((Blk.below HX6.out hS.2.out.2 HQ.out.2.2.1))
      have HB8 := Lib.hid hS.2.out.1
      clear hA hL hlog hML hf7 hb7 hk7 cm7 hb8 hS
      go_wp2_with fail
      refine (all_any L _ (by rw [HLl.out]; omega)).mono ?_
      rw [HA.out]
      rintro e w9 ⟨vr, rfl, ho9, hb9⟩
      have HM9 := Lib.hid (HM8.out.step hb9)
      have HX9 := Lib.hid (HX8.out.step hb9)
      have HB9 := Lib.hid (bel_step HB8.out hb9)
      have HO9 := Lib.hid ho9
      clear ho9 hb9
      have cm2 : w9.cell? ⟨q, 2, none⟩ = some (.int .i64 mc) := HM9.out.cell 2
      obtain ⟨pr, cr, hvr⟩ : ∃ p c, vr = .slice p rs.length c := by
        rcases HO9.out.read with ⟨rfl, h0⟩ | ⟨g', cap', rfl, _⟩
        · rw [show rs = [] from h0]; exact ⟨_, _, rfl⟩
        · exact ⟨_, _, rfl⟩
      subst hvr
      by_cases hN : N = L.length
      · have e1 : ((N : Int) == (L.length : Int)) = true := by rw [hN]; simp
        have e2 : ((N : Int) != (L.length : Int)) = false := by rw [hN]; simp
        by_cases hC : ((rs.length : Nat) : Int) = mc
        · have e3 : (((rs.length : Nat) : Int) == mc) = true := by simpa using hC
          have e4 : (((rs.length : Nat) : Int) != mc) = false := by simpa using hC
          have hrr : openR d = (some ⟨(me, (M : Int), mc), L.drop (L.length - L.length % 64), false⟩, rs, 0) := by
            unfold openR
            rw [if_neg (by omega), if_neg (by rw [HON.out]; simp), if_neg (by rw [HM.out, hrm]; simp only []; omega), HM.out, HL.out, HA.out, if_pos ⟨hN, hC⟩]
          obtain ⟨T, hT⟩ : ∃ T, M - M % 64 = T := ⟨_, rfl⟩
          have hTM : T ≤ M := by omega
          have hwT : IntKind.i64.wrap ((M : Int) - (M : Int).tmod 64) = (T : Int) := by
            rw [show (M : Int).tmod 64 = ((M % 64 : Nat) : Int) from rfl]
            rw [show (M : Int) - ((M % 64 : Nat) : Int) = (T : Int) by omega]
            exact IntWalk.i64_in _ (by omega)
          have hfin : L.drop (L.length - L.length % 64) = List.take (M - T) (List.drop T L) := by
            rw [HLl.out, hT, List.take_of_length_le (by rw [List.length_drop, HLl.out]; exact Nat.le_refl _)]
          rw [hfin] at hrr
          have HT := Lib.hid hT
          clear hT hfin
          have HO := Lib.hid (HO9.out.weak HB8.out.size)
          rw [HR.out] at hrr
          subst hrr
          go_wp2_with fail
          refine until_begin 16 (fun w' => w'.cell? ⟨w.heap.size, 0, none⟩ = some (.pointer (some ⟨g, 0, none⟩)) ∧ w'.cell? ⟨q, 0, none⟩ = some (.int .i64 me) ∧ w'.cell? ⟨q, 1, none⟩ = some (.int .i64 (M : Int)) ∧ w'.cell? ⟨q, 2, none⟩ = some (.int .i64 mc)) (by kernel_rfl) ⟨HX9.out.cell 0, HM9.out.cell 0, HM9.out.cell 1, HM9.out.cell 2⟩ (fun hS => ?_)
          refine until_take 0 (some 73) (u := ?_) rfl rfl (by kernel_rfl) (by kernel_rfl) (by kernel_rfl) (by kernel_rfl) (fun _ _ _ h => h) (by rfl) (fun wS hv => ?_) hS ?_
          rotate_left
          · obtain ⟨k1, k2, k3, k4⟩ := hv
            go_simp
            all_goals with_reducible rfl
          try simp only [Act.put, List.setIfInBounds_toArray, List.set]
          refine until_take 1 (some 74) (u := ?_) rfl rfl (by kernel_rfl) (by kernel_rfl) (by kernel_rfl) (by kernel_rfl) (fun _ _ _ h => h) (by rfl) (fun wS hv => ?_) hS ?_
          rotate_left
          · obtain ⟨k1, k2, k3, k4⟩ := hv
            go_simp
            all_goals with_reducible rfl
          try simp only [Act.put, List.setIfInBounds_toArray, List.set]
          refine until_take 2 (some 75) (u := ?_) rfl rfl (by kernel_rfl) (by kernel_rfl) (by kernel_rfl) (by kernel_rfl) (fun _ _ _ h => h) (by rfl) (fun wS hv => ?_) hS ?_
          rotate_left
          · clear hv
            go_simp
            all_goals with_reducible rfl
          try simp only [Act.put, List.setIfInBounds_toArray, List.set]
          refine until_take 3 (some 76) (u := ?_) rfl rfl (by kernel_rfl) (by kernel_rfl) (by kernel_rfl) (by kernel_rfl) (fun _ _ _ h => h) (by rfl) (fun wS hv => ?_) hS ?_
          rotate_left
          · clear hv
            go_simp
            all_goals with_reducible rfl
          try simp only [Act.put, List.setIfInBounds_toArray, List.set]
          refine until_take 4 (some 77) (u := ?_) rfl rfl (by kernel_rfl) (by kernel_rfl) (by kernel_rfl) (by kernel_rfl) (fun _ _ _ h => h) (by rfl) (fun wS hv => ?_) hS ?_
          rotate_left
          · clear hv
            go_simp
            all_goals with_reducible rfl
          try simp only [Act.put, List.setIfInBounds_toArray, List.set]
          refine until_take 5 (some 78) (u := ?_) rfl rfl (by kernel_rfl) (by kernel_rfl) (by kernel_rfl) (by kernel_rfl) (fun _ _ _ h => h) (by rfl) (fun wS hv => ?_) hS ?_
          rotate_left
          · clear hv
            go_simp
            all_goals with_reducible rfl
          try simp only [Act.put, List.setIfInBounds_toArray, List.set]
          refine until_take 6 (some 79) (u := ?_) rfl rfl (by kernel_rfl) (by kernel_rfl) (by kernel_rfl) (by kernel_rfl) (fun _ _ _ h => h) (by rfl) (fun wS hv => ?_) hS ?_
          rotate_left
          · clear hv
            go_simp
            all_goals with_reducible rfl
          try simp only [Act.put, List.setIfInBounds_toArray, List.set]
          refine until_take 7 (some 80) (u := ?_) rfl rfl (by kernel_rfl) (by kernel_rfl) (by kernel_rfl) (by kernel_rfl) (fun _ _ _ h => h) (by rfl) (fun wS hv => ?_) hS ?_
          rotate_left
          · clear hv
            go_simp
            all_goals with_reducible rfl
          try simp only [Act.put, List.setIfInBounds_toArray, List.set]
          refine until_take 8 (some 81) (u := ?_) rfl rfl (by kernel_rfl) (by kernel_rfl) (by kernel_rfl) (by kernel_rfl) (fun _ _ _ h => h) (by rfl) (fun wS hv => ?_) hS ?_
          rotate_left
          · clear hv
            go_simp
            all_goals with_reducible rfl
          try simp only [Act.put, List.setIfInBounds_toArray, List.set]
          refine until_take 9 (some 82) (u := ?_) rfl rfl (by kernel_rfl) (by kernel_rfl) (by kernel_rfl) (by kernel_rfl) (fun _ _ _ h => h) (by rfl) (fun wS hv => ?_) hS ?_
          rotate_left
          · clear hv
            go_simp
            all_goals with_reducible rfl
          try simp only [Act.put, List.setIfInBounds_toArray, List.set]
          refine until_take 10 (some 83) (u := ?_) rfl rfl (by kernel_rfl) (by kernel_rfl) (by kernel_rfl) (by kernel_rfl) (fun _ _ _ h => h) (by rfl) (fun wS hv => ?_) hS ?_
          rotate_left
          · clear hv
            go_simp
            all_goals with_reducible rfl
          try simp only [Act.put, List.setIfInBounds_toArray, List.set]
          refine until_take 12 (some 85) (u := ?_) rfl rfl (by kernel_rfl) (by kernel_rfl) (by kernel_rfl) (by kernel_rfl) (fun _ _ _ h => h) (by rfl) (fun wS hv => ?_) hS ?_
          rotate_left
          · clear hv
            go_simp
            all_goals with_reducible rfl
          try simp only [Act.put, List.setIfInBounds_toArray, List.set]
          refine until_one 11 (by kernel_rfl) rfl (fun K hK => ?_)
          go_simp
          refine hK.out _ _ ⟨(HX9.out.alloc _).drew.cell 0, (HM9.out.alloc _).drew.cell 0, (HM9.out.alloc _).drew.cell 1, (HM9.out.alloc _).drew.cell 2⟩ (fun hS => ?_)
          clear hK K
          try simp only [Act.put, List.setIfInBounds_toArray, List.set]
          refine until_take 13 (some 2) (u := ?_) rfl rfl (by kernel_rfl) (by kernel_rfl) (by kernel_rfl) (by kernel_rfl) (fun _ _ _ h => h) (by rfl) (fun wS hv => ?_) hS ?_
          rotate_left
          · clear hv
            go_simp
            all_goals with_reducible rfl
          try simp only [Act.put, List.setIfInBounds_toArray, List.set]
          refine until_take 14 (some 3) (u := ?_) rfl rfl (by kernel_rfl) (by kernel_rfl) (by kernel_rfl) (by kernel_rfl) (fun _ _ _ h => h) (by rfl) (fun wS hv => ?_) hS ?_
          rotate_left
          · clear hv
            go_simp
            all_goals with_reducible rfl
          try simp only [Act.put, List.setIfInBounds_toArray, List.set]
          refine until_take 15 (some 4) (u := ?_) rfl rfl (by kernel_rfl) (by kernel_rfl) (by kernel_rfl) (by kernel_rfl) (fun _ _ _ h => h) (by rfl) (fun wS hv => ?_) hS ?_
          rotate_left
          · clear hv
            go_simp
            all_goals with_reducible rfl
          try simp only [Act.put, List.setIfInBounds_toArray, List.set]
          refine until_done (by kernel_rfl) ?_
          go_wp2
          go_ret3
          exact ⟨⟨w9.heap.size, _, rfl, HB9.out.size, (Blk.new _ _ _).drew, (HO.out.alloc _).drew⟩, (HB9.out.alloc HB9.out.size _).drew⟩
        · have e3 : (((rs.length : Nat) : Int) == mc) = false := by simpa using hC
          have e4 : (((rs.length : Nat) : Int) != mc) = true := by simpa using hC
          have hrr : openR d = (none, [], 10) := by
            unfold openR
            rw [if_neg (by omega), if_neg (by rw [HON.out]; simp), if_neg (by rw [HM.out, hrm]; simp only []; omega), HM.out, HL.out, HA.out, if_neg (fun h => hC h.2)]
          rw [HR.out] at hrr
          subst hrr
          go_wp2_with fail
          go_ret3
          exact ⟨rfl, HB9.out⟩
      · have e1 : ((N : Int) == (L.length : Int)) = false := by simpa using fun h => hN (by omega)
        have e2 : ((N : Int) != (L.length : Int)) = true := by simpa using fun h => hN (by omega)
        have hrr : openR d = (none, [], 10) := by
          unfold openR
          rw [if_neg (by omega), if_neg (by rw [HON.out]; simp), if_neg (by rw [HM.out, hrm]; simp only []; omega), HM.out, HL.out, HA.out, if_neg (fun h => hN h.1)]
        rw [HR.out] at hrr
        subst hrr
        go_wp2_with fail
        go_ret3
        exact ⟨rfl, HB9.out⟩
end Go.Proofs.Ytiighehibiijcaa

namespace Go.Proofs.Ytiighehibiijcaa
open Go.RowKit
set_option linter.unusedSimpArgs false
set_option linter.unnecessarySimpa false
set_option linter.unusedVariables false

/-- The first 64 bytes, and zero bytes behind. -/
def chunk (s : List UInt8) : List UInt8 := s.take 64 ++ zero64.drop (Nat.min s.length 64)
theorem chunk_length (s : List UInt8) : (chunk s).length = 64 := by
  unfold chunk
  rw [List.length_append, List.length_take, List.length_drop, zero64_length]
  have : Nat.min s.length 64 = min s.length 64 := rfl
  omega
/-- k more steps are within the bounds. -/
def OkN (d : Dev) (k : Nat) : Prop := 0 ≤ d.left ∧ d.left < 9223372036854775808 ∧ 0 ≤ d.steps ∧ d.steps + k < 4611686018427387904 ∧ d.waits.length + k < 4611686018427
theorem OkN.ok {d : Dev} {k : Nat} (h : OkN d k) : OkD d := by unfold OkN at h; unfold OkD; omega
theorem OkN.write {d : Dev} {k : Nat} (h : OkN d (k + 1)) (at_ : Int) (s : List UInt8) : OkN (writeR d at_ s) k := by
  unfold OkN at h
  have hk : OkN d k := by unfold OkN; omega
  have hl : ¬ (goesD d = true ∧ d.armed = true ∧ d.left = 0) := by
    rintro ⟨h1, h2, h3⟩
    simp [goesD, h2, h3] at h1
  unfold writeR
  split
  · split
    · split
      · unfold writeD stepD
        unfold OkN
        by_cases hg : goesD d = true
        · by_cases ha : d.armed = true
          · have h0 : d.left ≠ 0 := fun e => hl ⟨hg, ha, e⟩
            simp only [hg, ha, if_true, List.length_append, List.length_singleton]
            omega
          · simp only [hg, if_true, ha, if_false, List.length_append, List.length_singleton, Bool.false_eq_true]
            omega
        · simp only [hg, if_false, List.length_append, List.length_singleton, Bool.false_eq_true]
          omega
      · exact hk
    · exact hk
  · exact hk
/-- What is written; the error. -/
def putsF : Nat → Dev → Int → List UInt8 → Dev × Int
  | 0, d, _, _ => (d, 0)
  | k + 1, d, at_, s => if s = [] then (d, 0) else if writeE d at_ (chunk s) = 0 then putsF k (writeR d at_ (chunk s)) (at_ + 1) (s.drop 64) else (writeR d at_ (chunk s), writeE d at_ (chunk s))

theorem run_copy_str {P : Program} (w : World) (dT sT ty elem : TypeId) (g dLen dCap : Nat) (l : List UInt8) (cur : Array Value) (t : TypeId)
    (hu : P.underlying dT = some (.slice elem)) (hs : (P.info? elem).map (·.size) = some 1) (hg : w.heap[g]? = some (.cells cur t (0, 0))) (hd : cur.size = dLen) :
    (Builtin.copy_ #[dT, sT] ty #[.slice (some ⟨g, 0, none⟩) dLen dCap, str l]).run P w =
      .ok (goInt ((Nat.min l.length dLen : Nat) : Int)) (w.setRow g (Lib.byteCells (l.take dLen) ++ cur.toList.drop (Nat.min l.length dLen)).toArray) := by
  have hlen : (Lib.byteCells (l.take dLen)).length = Nat.min l.length dLen := by rw [Lib.byteCells_length, List.length_take]; exact Nat.min_comm _ _
  have hst := run_storeCells_at P g 0 t (Lib.byteCells (l.take dLen)) 0 cur w hg (by rw [hlen, ← hd]; have : Nat.min l.length cur.size ≤ cur.size := Nat.min_le_right _ _; omega) (Lib.byteCells_one _)
  have htk : List.take (Nat.min l.length dLen) (List.map (fun b : UInt8 => Value.int IntKind.u8 (b.toNat : Int)) l) = Lib.byteCells (l.take dLen) := by
    unfold Lib.byteCells
    rw [← List.map_take]
    congr 1
    rcases Nat.le_total l.length dLen with h | h
    · rw [show Nat.min l.length dLen = l.length from Nat.min_eq_left h, List.take_of_length_le (Nat.le_refl _), List.take_of_length_le h]
    · rw [show Nat.min l.length dLen = dLen from Nat.min_eq_right h]
  rw [hlen] at hst
  simp only [Nat.add_zero, Nat.zero_add, List.take_zero, List.nil_append] at hst
  have hsz : (ByteArray.mk l.toArray).size = l.length := by simp [ByteArray.size]
  cases hq : P.info? elem with
  | none => simp [hq] at hs
  | some i =>
    simp [str, Builtin.copy_, run_underlying hu, Builtin.lenOf, Builtin.firstCells, sizeOf, typeInfo, hq, hsz]
    rw [htk, hst]
    simp [Result.andThen]

theorem wpList_copyS {P : Program} {ops : Array Oper} {o : Oper} {a : Act} {w : World} {Q : Exit → Act → World → Prop} {rest : List Oper} (hg : o.guard = none) (d x : Operand) (dT sT : TypeId)
    (hop : o.op = Op.call { callee := Callee.builtin Builtin.copy, args := #[d, x], argTypes := #[dT, sT] }) {dv xv r : Value} {w' : World} (hd : a.eval d = dv) (hx : a.eval x = xv)
    (hrun : (Builtin.copy_ #[dT, sT] o.type #[dv, xv]).run P w = .ok r w') (hK : wpList P ops Q rest (a.put o.dst r) w') : wpList P ops Q (o :: rest) a w := by
  refine wpList_plain hg fun K' hK' => ?_
  unfold Oper.wp
  simp [execOp, hop, resolve, invoke, builtin, hd, hx, hrun, Result.andThen]
  exact hK' _ _ hK

theorem rowB_chunk (s : List UInt8) : (Lib.byteCells (s.take 64) ++ (rowB zero64).toList.drop (Nat.min s.length 64)).toArray = rowB (chunk s) := by
  simp [rowB, chunk, Lib.byteCells, List.map_drop, List.map_append]
theorem copy_chunk (w : World) (l : List UInt8) (ty : TypeId) :
    (Builtin.copy_ #[40, 9] ty #[.slice (some ⟨w.heap.size, 0, none⟩) 64 64, str l]).run Try.prog (w.alloc (.cells (rowB zero64) 95)) =
      .ok (goInt ((Nat.min l.length 64 : Nat) : Int)) (w.alloc (.cells (rowB (chunk l)) 95)) := by
  rw [run_copy_str _ 40 9 ty 5 w.heap.size 64 64 l (rowB zero64) 95 Try.underlying40 (by kernel_rfl) (heap_alloc_new w _) (by simp [rowB, Lib.byteCells, zero64_length]), World.setRow_alloc_new, rowB_chunk]

set_option maxRecDepth 100000 in
set_option maxHeartbeats 3200000 in
theorem puts_any (w : World) (h g gm : Nat) (v : Value) (cap B : Nat) (d : Dev) (x : Log) (s : List UInt8) (k0 M : Nat) (D : Dev) (er : Int) (hx : IsLog w h g x) (hd : IsDev w g gm v cap B d) (hM : x.mark.2.1 = (M : Int)) (hM1 : M ≤ 1000000)
    (hk : s.length ≤ 64 * k0) (hk1 : k0 ≤ 1000000) (hok : OkN d k0) (hp : putsF k0 d (2 + ((M / 64 : Nat) : Int)) s = (D, er)) :
    Calls Try.prog 66 #[.pointer (some ⟨h, 0, none⟩), str s] w
      fun e w' => e = .returned (.int .i64 er) ∧ ∃ v', IsDev w' g gm v' cap B D ∧ Touch g gm w v w' v' := by
  obtain ⟨c0, c1, c2, c3, c4, c5⟩ := log_cells hx
  rw [hM] at c2
  have HX := Lib.hid hx
  have HD := Lib.hid hd
  have HOK := Lib.hid hok
  have HP := Lib.hid hp
  have hq : IntKind.i64.wrap ((M : Int).tdiv 64) = ((M / 64 : Nat) : Int) := by
    rw [show (M : Int).tdiv 64 = ((M / 64 : Nat) : Int) from rfl]
    exact IntWalk.i64_in _ (by omega)
  have hq2 : (M : Int).tdiv 64 = ((M / 64 : Nat) : Int) := rfl
  obtain ⟨Q, hQ⟩ : ∃ Q, M / 64 = Q := ⟨_, rfl⟩
  rw [hQ] at hq hq2 HP
  have hQ1 : Q ≤ 1000000 := by omega
  clear hx hd hok hp hQ
  go_enter Try.func66, Try.ntmps66
  go_wp2_with fail
  clear hq hq2 c0 c1 c2 c3 c4 c5
  go_loopw [1, 5] (fun sv av wr => ∃ (k : Nat) (s' : List UInt8) (d' : Dev) (v' : Value) (at_ : Int), k ≤ k0 ∧ sv = str s' ∧ av = .int .i64 at_ ∧ 0 ≤ at_ ∧ at_ + k ≤ 2000010 ∧ s'.length ≤ 64 * k ∧ OkN d' k ∧ putsF k d' at_ s' = (D, er) ∧ IsDev wr g gm v' cap B d' ∧ Touch g gm w v wr v') (fun sv _ _ => match sv with | .string b => b.size | _ => 0)
  case atStart => exact ⟨k0, s, d, v, _, Nat.le_refl _, rfl, rfl, by omega, by omega, hk, HOK.out, HP.out, HD.out, Touch.refl _ _ _ _⟩
  case round =>
    obtain ⟨k, s', d', v', at_, hkk, rfl, rfl, ha0, ha1, hsl, hok, hp, hd, ht⟩ := hrel
    have HD1 := Lib.hid hd
    have HT1 := Lib.hid ht
    have HOK1 := Lib.hid hok
    have HP1 := Lib.hid hp
    have HX1 := Lib.hid (HD.out.keep ht HX.out (by decide) (by decide))
    clear hd ht hok hp
    by_cases hnil : s' = []
    · subst hnil
      have hp := HP1.out
      have hpp : putsF k d' at_ [] = (d', 0) := by cases k <;> simp [putsF]
      rw [hpp] at hp
      simp only [Prod.mk.injEq] at hp
      obtain ⟨rfl, rfl⟩ := hp
      go_wp2_with fail
      go_ret
      exact ⟨rfl, v', HD1.out, HT1.out⟩
    · have hl0 : 0 < s'.length := List.length_pos_iff.2 hnil
      obtain ⟨k, rfl⟩ : ∃ j, k = j + 1 := ⟨k - 1, by omega⟩
      have hmin : s'.length.min 64 ≤ s'.length := Nat.min_le_left _ _
      have e2 : (s' == []) = false := by simpa using hnil
      have e3 : (s' != []) = true := by simpa using hnil
      have hcp := fun ty => copy_chunk wr s' ty
      go_wp2_with (refine wpList_copyS rfl _ _ _ _ rfl rfl rfl (hcp _) ?_)
      have hrest : List.take (s'.length - s'.length.min 64) (List.drop (s'.length.min 64) s') = s'.drop 64 := by
        rw [List.take_of_length_le (by rw [List.length_drop]; exact Nat.le_refl _)]
        rcases Nat.le_total s'.length 64 with hle | hle
        · rw [show s'.length.min 64 = s'.length from Nat.min_eq_left hle, List.drop_of_length_le (Nat.le_refl _), List.drop_of_length_le hle]
        · rw [show s'.length.min 64 = 64 from Nat.min_eq_right hle]
      rw [hrest]
      have hba : Below wr.heap.size wr (wr.alloc (.cells (rowB (chunk s')) 95)) := (Below.refl _ _).alloc (Nat.le_refl _) _
      have hc2 : Blk (wr.alloc (.cells (rowB (chunk s')) 95)) wr.heap.size 95 (rowB (chunk s')) := Blk.new _ _ _
      have hd2 := HD1.out.step hba
      have hx2 := HX1.out.step hba
      have ht2 := HT1.out.trans (Touch.of_below (v := v') hba)
      obtain ⟨nb, hnb⟩ : ∃ nb, wr.heap.size = nb := ⟨_, rfl⟩
      rw [hnb] at hc2 ⊢
      generalize wr.alloc (.cells (rowB (chunk s')) 95) = w2 at hc2 hd2 hx2 ht2 ⊢
      have HC2 := Lib.hid hc2
      have HD2 := Lib.hid hd2
      have HX2 := Lib.hid hx2
      have HT2 := Lib.hid ht2
      have kcs : ∀ W, Blk W nb 95 (rowB (chunk s')) → (Go.convert 40 9 (.slice (some ⟨nb, 0, none⟩) 64 64)).run Try.prog W = .ok (str (chunk s')) W := by
        intro W hW
        have kc := run_convert_bytes_back (P := Try.prog) W 40 9 5 ⟨nb, 0, none⟩ 64 (chunk s') Try.underlying40 Try.underlying5 Try.underlying9 (Lib.bytes_of_row hW (List.take_of_length_le (l := Lib.byteCells (chunk s')) (by simp [Lib.byteCells])))
        rw [chunk_length] at kc
        exact kc
      clear hc2 hd2 hx2 ht2 hba hrest hmin hcp hnb
      refine until_begin 9 (fun w' => w'.cell? ⟨h, 0, none⟩ = some (.pointer (some ⟨g, 0, none⟩))) (by kernel_rfl) (HX2.out.cell 0) (fun hS => ?_)
      refine until_take 0 (some 26) (u := ?_) rfl rfl (by kernel_rfl) (by kernel_rfl) (by kernel_rfl) (by kernel_rfl) (fun _ _ _ h => h) (by rfl) (fun wS hv => ?_) hS ?_
      rotate_left
      · clear hv
        go_simp
        all_goals with_reducible rfl
      try simp only [Act.put, List.setIfInBounds_toArray, List.set]
      refine until_take 1 (some 27) (u := ?_) rfl rfl (by kernel_rfl) (by kernel_rfl) (by kernel_rfl) (by kernel_rfl) (fun _ _ _ h => h) (by rfl) (fun wS hv => ?_) hS ?_
      rotate_left
      · clear hv
        go_simp
        all_goals with_reducible rfl
      try simp only [Act.put, List.setIfInBounds_toArray, List.set]
      refine until_take 2 (some 28) (u := ?_) rfl rfl (by kernel_rfl) (by kernel_rfl) (by kernel_rfl) (by kernel_rfl) (fun _ _ _ h => h) (by rfl) (fun wS hv => ?_) hS ?_
      rotate_left
      · clear hv
        go_simp
        all_goals with_reducible rfl
      try simp only [Act.put, List.setIfInBounds_toArray, List.set]
      refine until_take 3 (some 29) (u := ?_) rfl rfl (by kernel_rfl) (by kernel_rfl) (by kernel_rfl) (by kernel_rfl) (fun _ _ _ h => h) (by rfl) (fun wS hv => ?_) hS ?_
      rotate_left
      · obtain k1 := hv
        go_simp
        all_goals with_reducible rfl
      try simp only [Act.put, List.setIfInBounds_toArray, List.set]
      refine until_take 4 (some 30) (u := ?_) rfl rfl (by kernel_rfl) (by kernel_rfl) (by kernel_rfl) (by kernel_rfl) (fun _ _ _ h => h) (by rfl) (fun wS hv => ?_) hS ?_
      rotate_left
      · clear hv
        go_simp
        all_goals with_reducible rfl
      try simp only [Act.put, List.setIfInBounds_toArray, List.set]
      refine until_take 5 (some 31) (u := ?_) rfl rfl (by kernel_rfl) (by kernel_rfl) (by kernel_rfl) (by kernel_rfl) (fun _ _ _ h => h) (by rfl) (fun wS hv => ?_) hS ?_
      rotate_left
      · clear hv
        go_simp
        all_goals with_reducible rfl
      try simp only [Act.put, List.setIfInBounds_toArray, List.set]
      refine until_one 6 (by kernel_rfl) rfl (fun K hK => ?_)
      have kc := kcs _ HC2.out.drew
      go_simp
      refine hK.out _ _ hS (fun hS => ?_)
      clear hK K
      try simp only [Act.put, List.setIfInBounds_toArray, List.set]
      refine until_one 7 (by kernel_rfl) rfl (fun K hK => ?_)
      go_simp
      refine (write_any _ g gm v' cap B d' at_ (chunk s') (HD2.out.drew 1) HOK1.out.ok).mono ?_
      rintro e w5 ⟨rfl, v5, hd5, ht5⟩
      refine hK.out _ _ (((HD2.out.drew 1).keep ht5 HX2.out.drew (by decide) (by decide)).cell 0) (fun hS => ?_)
      clear hK K
      try simp only [Act.put, List.setIfInBounds_toArray, List.set]
      refine until_take 8 (some 8) (u := ?_) rfl rfl (by kernel_rfl) (by kernel_rfl) (by kernel_rfl) (by kernel_rfl) (fun _ _ _ h => h) (by rfl) (fun wS hv => ?_) hS ?_
      rotate_left
      · clear hv
        go_simp
        all_goals with_reducible rfl
      try simp only [Act.put, List.setIfInBounds_toArray, List.set]
      refine until_done (by kernel_rfl) ?_
      have HD5 := Lib.hid hd5
      have HT5 := Lib.hid (HT2.out.drew.trans ht5)
      clear hS hd5 ht5 kc kcs
      have hp := HP1.out
      by_cases hw : writeE d' at_ (chunk s') = 0
      · rw [putsF, if_neg hnil, if_pos hw] at hp
        have HP5 := Lib.hid hp
        clear hp
        rw [hw]
        go_wp2_with fail
        go_roundw
        case rel => exact ⟨k, _, _, v5, at_ + 1, by omega, rfl, by go_num, by omega, by omega, by rw [List.length_drop]; omega, HOK1.out.write _ _, HP5.out, HD5.out, HT5.out⟩
        case measure => simp [ByteArray.size, List.length_drop]; omega
      · rw [putsF, if_neg hnil, if_neg hw] at hp
        simp only [Prod.mk.injEq] at hp
        obtain ⟨rfl, rfl⟩ := hp
        have e5 : (writeE d' at_ (chunk s') == 0) = false := by simpa using hw
        have e6 : (writeE d' at_ (chunk s') != 0) = true := by simpa using hw
        go_wp2_with fail
        go_ret
        exact ⟨rfl, v5, HD5.out, HT5.out⟩
end Go.Proofs.Ytiighehibiijcaa

namespace Go.Proofs.Ytiighehibiijcaa
open Go.RowKit
set_option linter.unusedSimpArgs false
set_option linter.unnecessarySimpa false
set_option linter.unusedVariables false

set_option maxRecDepth 100000 in
set_option maxHeartbeats 1600000 in
theorem commit1_any (w : World) (xb h g gm : Nat) (v : Value) (cap B : Nat) (d : Dev) (x : Log) (hb : Blk w xb 68 #[.pointer (some ⟨h, 0, none⟩)]) (hx : IsLog w h g x) (hd : IsDev w g gm v cap B d) (hok : OkD d) (hw : WaitsOk d.waits) (hn : cap + d.waits.length < 4611686018427) :
    Calls Try.prog 63 #[.pointer (some ⟨xb, 0, none⟩)] w
      fun e w' => e = .returned (.int .i64 (flushE d)) ∧ ∃ v' cap', cap' ≤ cap + d.waits.length ∧ IsDev w' g gm v' cap' B (flushR d) ∧ Touch g gm w v w' v' := by
  have k1 := hb.cell 0
  have k2 : w.cell? ⟨h, 0, none⟩ = some (.pointer (some ⟨g, 0, none⟩)) := Blk.cell hx 0
  go_enter Try.func63, Try.ntmps63
  go_wp2_with fail
  refine (flush_any w g gm v cap B d hd hok hw hn).mono ?_
  rintro e w1 ⟨rfl, hq⟩
  go_wp2_with fail
  go_ret
  exact ⟨rfl, hq⟩

set_option maxRecDepth 100000 in
set_option maxHeartbeats 1600000 in
theorem commit2_any (w : World) (xb sb h g gm : Nat) (v : Value) (cap B : Nat) (d : Dev) (x : Log) (s : List UInt8) (k0 M : Nat) (D : Dev) (er : Int) (hb : Blk w xb 68 #[.pointer (some ⟨h, 0, none⟩)]) (hs : Blk w sb 9 #[str s]) (hx : IsLog w h g x) (hd : IsDev w g gm v cap B d) (hM : x.mark.2.1 = (M : Int)) (hM1 : M ≤ 1000000)
    (hk : s.length ≤ 64 * k0) (hk1 : k0 ≤ 1000000) (hok : OkN d k0) (hp : putsF k0 d (2 + ((M / 64 : Nat) : Int)) s = (D, er)) :
    Calls Try.prog 65 #[.pointer (some ⟨xb, 0, none⟩), .pointer (some ⟨sb, 0, none⟩)] w
      fun e w' => e = .returned (.int .i64 er) ∧ ∃ v', IsDev w' g gm v' cap B D ∧ Touch g gm w v w' v' := by
  have k1 := hb.cell 0
  have k2 := hs.cell 0
  go_enter Try.func65, Try.ntmps65
  go_wp2_with fail
  refine (puts_any w h g gm v cap B d x s k0 M D er hx hd hM hM1 hk hk1 hok hp).mono ?_
  rintro e w1 ⟨rfl, v1, hd1, ht1⟩
  go_wp2_with fail
  go_ret
  exact ⟨rfl, v1, hd1, ht1⟩

set_option maxRecDepth 100000 in
set_option maxHeartbeats 1600000 in
theorem commit3_any (w : World) (xb mb h g gm : Nat) (v : Value) (cap B : Nat) (d : Dev) (x : Log) (e0 b0 c0 : Int) (hb : Blk w xb 68 #[.pointer (some ⟨h, 0, none⟩)]) (hm : Blk w mb 62 #[.int .i64 e0, .int .i64 b0, .int .i64 c0]) (hx : IsLog w h g x) (hd : IsDev w g gm v cap B d) (hok : OkD d) :
    Calls Try.prog 67 #[.pointer (some ⟨xb, 0, none⟩), .pointer (some ⟨mb, 0, none⟩)] w
      fun e w' => e = .returned (.int .i64 (writeE d (e0.tmod 2) (packS e0 b0 c0))) ∧ ∃ v', IsDev w' g gm v' cap B (writeR d (e0.tmod 2) (packS e0 b0 c0)) ∧ Touch g gm w v w' v' := by
  have HX := Lib.hid (show Blk w h _ _ from hx)
  have HB := Lib.hid hb
  have HM := Lib.hid hm
  have HD := Lib.hid hd
  have OK := Lib.hid hok
  clear hx hb hm hd hok
  go_enter Try.func67, Try.ntmps67
  go_wp2_with fail
  refine until_begin 11 (fun w' => w'.cell? ⟨xb, 0, none⟩ = some (.pointer (some ⟨h, 0, none⟩)) ∧ w'.cell? ⟨h, 0, none⟩ = some (.pointer (some ⟨g, 0, none⟩)) ∧ w'.cell? ⟨mb, 0, none⟩ = some (.int .i64 e0) ∧ w'.cell? ⟨mb, 1, none⟩ = some (.int .i64 b0) ∧ w'.cell? ⟨mb, 2, none⟩ = some (.int .i64 c0)) (by kernel_rfl) ⟨HB.out.cell 0, HX.out.cell 0, HM.out.cell 0, HM.out.cell 1, HM.out.cell 2⟩ (fun hS => ?_)
  refine until_take 0 (some 3) (u := ?_) rfl rfl (by kernel_rfl) (by kernel_rfl) (by kernel_rfl) (by kernel_rfl) (fun _ _ _ h => h) (by rfl) (fun wS hv => ?_) hS ?_
  rotate_left
  · obtain ⟨k1, k2, k3, k4, k5⟩ := hv
    go_simp
    all_goals with_reducible rfl
  try simp only [Act.put, List.setIfInBounds_toArray, List.set]
  refine until_take 1 (some 4) (u := ?_) rfl rfl (by kernel_rfl) (by kernel_rfl) (by kernel_rfl) (by kernel_rfl) (fun _ _ _ h => h) (by rfl) (fun wS hv => ?_) hS ?_
  rotate_left
  · clear hv
    go_simp
    all_goals with_reducible rfl
  try simp only [Act.put, List.setIfInBounds_toArray, List.set]
  refine until_take 2 (some 5) (u := ?_) rfl rfl (by kernel_rfl) (by kernel_rfl) (by kernel_rfl) (by kernel_rfl) (fun _ _ _ h => h) (by rfl) (fun wS hv => ?_) hS ?_
  rotate_left
  · clear hv
    go_simp
    all_goals with_reducible rfl
  try simp only [Act.put, List.setIfInBounds_toArray, List.set]
  refine until_take 3 (some 6) (u := ?_) rfl rfl (by kernel_rfl) (by kernel_rfl) (by kernel_rfl) (by kernel_rfl) (fun _ _ _ h => h) (by rfl) (fun wS hv => ?_) hS ?_
  rotate_left
  · obtain ⟨k1, k2, k3, k4, k5⟩ := hv
    go_simp
    all_goals with_reducible rfl
  try simp only [Act.put, List.setIfInBounds_toArray, List.set]
  refine until_take 4 (some 7) (u := ?_) rfl rfl (by kernel_rfl) (by kernel_rfl) (by kernel_rfl) (by kernel_rfl) (fun _ _ _ h => h) (by rfl) (fun wS hv => ?_) hS ?_
  rotate_left
  · clear hv
    go_simp
    all_goals with_reducible rfl
  try simp only [Act.put, List.setIfInBounds_toArray, List.set]
  refine until_take 5 (some 8) (u := ?_) rfl rfl (by kernel_rfl) (by kernel_rfl) (by kernel_rfl) (by kernel_rfl) (fun _ _ _ h => h) (by rfl) (fun wS hv => ?_) hS ?_
  rotate_left
  · obtain ⟨k1, k2, k3, k4, k5⟩ := hv
    go_simp
    all_goals with_reducible rfl
  try simp only [Act.put, List.setIfInBounds_toArray, List.set]
  refine until_take 6 (some 9) (u := ?_) rfl rfl (by kernel_rfl) (by kernel_rfl) (by kernel_rfl) (by kernel_rfl) (fun _ _ _ h => h) (by rfl) (fun wS hv => ?_) hS ?_
  rotate_left
  · clear hv
    go_simp
    all_goals with_reducible rfl
  try simp only [Act.put, List.setIfInBounds_toArray, List.set]
  refine until_take 7 (some 10) (u := ?_) rfl rfl (by kernel_rfl) (by kernel_rfl) (by kernel_rfl) (by kernel_rfl) (fun _ _ _ h => h) (by rfl) (fun wS hv => ?_) hS ?_
  rotate_left
  · obtain ⟨k1, k2, k3, k4, k5⟩ := hv
    go_simp
    all_goals with_reducible rfl
  try simp only [Act.put, List.setIfInBounds_toArray, List.set]
  refine until_one 8 (by kernel_rfl) rfl (fun K hK => ?_)
  go_simp
  refine (pack_any e0 b0 c0 _).mono ?_
  rintro e1 w1 ⟨rfl, hb1⟩
  have HX1 := Lib.hid (HX.out.drew.step hb1)
  have HB1 := Lib.hid (HB.out.drew.step hb1)
  have HM1 := Lib.hid (HM.out.drew.step hb1)
  have HD1 := Lib.hid ((HD.out.drew 1).step hb1)
  have HT1 := Lib.hid (Touch.trans (Touch.drew (Touch.refl g gm w v)) (Touch.of_below (g := g) (gm := gm) (v := v) hb1))
  clear hb1
  refine hK.out _ _ ⟨HB1.out.cell 0, HX1.out.cell 0, HM1.out.cell 0, HM1.out.cell 1, HM1.out.cell 2⟩ (fun hS => ?_)
  clear hK K
  try simp only [Act.put, List.setIfInBounds_toArray, List.set]
  refine until_one 9 (by kernel_rfl) rfl (fun K hK => ?_)
  go_simp
  refine (write_any _ g gm v cap B d _ (packS e0 b0 c0) HD1.out OK.out).mono ?_
  rintro e2 w2 ⟨rfl, v2, hd2, ht2⟩
  have HX2 := Lib.hid (HD1.out.keep ht2 HX1.out (by decide) (by decide))
  have HB2 := Lib.hid (HD1.out.keep ht2 HB1.out (by decide) (by decide))
  have HM2 := Lib.hid (HD1.out.keep ht2 HM1.out (by decide) (by decide))
  refine hK.out _ _ ⟨HB2.out.cell 0, HX2.out.cell 0, HM2.out.cell 0, HM2.out.cell 1, HM2.out.cell 2⟩ (fun hS => ?_)
  clear hK K
  try simp only [Act.put, List.setIfInBounds_toArray, List.set]
  refine until_take 10 (some 2) (u := ?_) rfl rfl (by kernel_rfl) (by kernel_rfl) (by kernel_rfl) (by kernel_rfl) (fun _ _ _ h => h) (by rfl) (fun wS hv => ?_) hS ?_
  rotate_left
  · clear hv
    go_simp
    all_goals with_reducible rfl
  try simp only [Act.put, List.setIfInBounds_toArray, List.set]
  refine until_done (by kernel_rfl) ?_
  go_wp2
  go_ret
  exact ⟨rfl, v2, hd2, HT1.out.trans ht2⟩
end Go.Proofs.Ytiighehibiijcaa

namespace Go.Proofs.Ytiighehibiijcaa
open Go.RowKit
set_option linter.unusedSimpArgs false
set_option linter.unnecessarySimpa false
set_option linter.unusedVariables false

set_option maxRecDepth 100000 in
set_option maxHeartbeats 1600000 in
theorem does_any (w : World) (h sb n : Nat) (F : Nat → FuncId) (C : Nat → Array Value) (P : Nat → World → Prop) (R : Int → World → Prop) (hn : n ≤ 100)
    (hc : ∀ i wr, i < n → P i wr → wr.cell? ⟨sb, i, none⟩ = some (.func (.func (F i)) #[] (C i)))
    (hstep : ∀ i wr, i < n → P i wr → Calls Try.prog (F i) (C i) wr fun e w' => ∃ er : Int, e = .returned (.int .i64 er) ∧ (er = 0 → P (i + 1) w') ∧ (er ≠ 0 → R er w' ∧ (∃ b, w'.cell? ⟨h, 5, none⟩ = some (.bool b)) ∧ w'.frozen? ⟨h, 5, none⟩ = false))
    (hf : ∀ i wr, i < n → (callFunc (F i) (C i)).run Try.prog wr = .ok (.enter (F i) (C i)) wr) (h0 : P 0 w) :
    Calls Try.prog 64 #[.pointer (some ⟨h, 0, none⟩), .slice (some ⟨sb, 0, none⟩) n n] w
      fun e w' => ∃ er : Int, e = .returned (.int .i64 er) ∧ ((er = 0 ∧ P n w') ∨ (er ≠ 0 ∧ ∃ w2, R er w2 ∧ w2.setCell ⟨h, 5, none⟩ (.bool true) = w')) := by
  have HC := Lib.hid hc
  have HS := Lib.hid hstep
  have H0 := Lib.hid h0
  have HF := Lib.hid hf
  clear hc hstep h0 hf
  go_enter Try.func64, Try.ntmps64
  go_wp2_with fail
  go_loopw [10] (fun i wr => ∃ k : Nat, k ≤ n ∧ i = .int .i64 k ∧ P k wr) (fun i _ => n - (intOf i).toNat)
  case atStart => exact ⟨0, Nat.zero_le _, rfl, H0.out⟩
  case round =>
    obtain ⟨k, hk, rfl, hp⟩ := hrel
    have HP := Lib.hid hp
    clear hp
    by_cases hlt : k < n
    · have hki : (k : Int) < (n : Int) := by omega
      have c1 := HC.out k wr hlt HP.out
      go_wp2_with fail
      rw [HF.out k wr hlt]
      rw [Oper.upon_enter]
      refine (HS.out k wr hlt HP.out).mono ?_
      rintro e w1 ⟨er, rfl, h1, h2⟩
      have H1 := Lib.hid h1
      have H2 := Lib.hid h2
      clear h1 h2 c1
      by_cases he : er = 0
      · subst he
        go_wp2_with fail
        go_roundw
        case rel => exact ⟨k + 1, by omega, by go_num, H1.out (by simp)⟩
        case measure => simp [intOf]; omega
      · obtain ⟨hr, ⟨b, hb⟩, hf⟩ := H2.out he
        have HR := Lib.hid hr
        have e1 : (er == 0) = false := by simpa using he
        have e2 : (er != 0) = true := by simpa using he
        clear hr
        go_wp2_with fail
        go_ret
        exact ⟨er, rfl, .inr ⟨he, w1, HR.out, rfl⟩⟩
    · obtain rfl : k = n := by omega
      go_wp2_with fail
      go_ret
      exact ⟨0, rfl, .inl ⟨rfl, HP.out⟩⟩
end Go.Proofs.Ytiighehibiijcaa

namespace Go.Proofs.Ytiighehibiijcaa
open Go.RowKit Go.MuLone
set_option linter.unusedSimpArgs false
set_option linter.unnecessarySimpa false
set_option linter.unusedVariables false

theorem enter1 (args : Array Value) (w : World) : (callFunc 63 args).run Try.prog w = .ok (.enter 63 args) w :=
  run_callFunc_enter Try.func63 (by kernel_rfl) rfl args w
theorem enter2 (args : Array Value) (w : World) : (callFunc 65 args).run Try.prog w = .ok (.enter 65 args) w :=
  run_callFunc_enter Try.func65 (by kernel_rfl) rfl args w
theorem enter3 (args : Array Value) (w : World) : (callFunc 67 args).run Try.prog w = .ok (.enter 67 args) w :=
  run_callFunc_enter Try.func67 (by kernel_rfl) rfl args w
def stepF : Nat → FuncId
  | 0 => 65
  | 2 => 67
  | _ => 63
def stepC (xb sb mb : Nat) : Nat → Array Value
  | 0 => #[.pointer (some ⟨xb, 0, none⟩), .pointer (some ⟨sb, 0, none⟩)]
  | 2 => #[.pointer (some ⟨xb, 0, none⟩), .pointer (some ⟨mb, 0, none⟩)]
  | _ => #[.pointer (some ⟨xb, 0, none⟩)]
theorem step_enters (xb sb mb : Nat) (i : Nat) (w : World) (hi : i < 4) : (callFunc (stepF i) (stepC xb sb mb i)).run Try.prog w = .ok (.enter (stepF i) (stepC xb sb mb i)) w := by
  have h4 : i = 0 ∨ i = 1 ∨ i = 2 ∨ i = 3 := by omega
  rcases h4 with rfl | rfl | rfl | rfl
  · exact enter2 _ _
  · exact enter1 _ _
  · exact enter3 _ _
  · exact enter1 _ _
/-- The device behind i of Commit's four steps; the error of step i. -/
def devI (d : Dev) (k : Nat) (at_ : Int) (s : List UInt8) (m : Mk) : Nat → Dev
  | 0 => d
  | 1 => (putsF k d at_ s).1
  | 2 => flushR (putsF k d at_ s).1
  | 3 => writeR (flushR (putsF k d at_ s).1) (m.1.tmod 2) (packS m.1 m.2.1 m.2.2)
  | _ => flushR (writeR (flushR (putsF k d at_ s).1) (m.1.tmod 2) (packS m.1 m.2.1 m.2.2))
def errI (d : Dev) (k : Nat) (at_ : Int) (s : List UInt8) (m : Mk) : Nat → Int
  | 0 => (putsF k d at_ s).2
  | 1 => flushE (devI d k at_ s m 1)
  | 2 => writeE (devI d k at_ s m 2) (m.1.tmod 2) (packS m.1 m.2.1 m.2.2)
  | _ => flushE (devI d k at_ s m 3)
/-- What stands ahead of step i. -/
def AtI (w : World) (g gm : Nat) (v : Value) (cap B : Nat) (d : Dev) (k : Nat) (at_ : Int) (s : List UInt8) (m : Mk) (i : Nat) (wr : World) : Prop :=
  ∃ v' cap', cap' ≤ cap + 1000000 * i ∧ IsDev wr g gm v' cap' B (devI d k at_ s m i) ∧ Touch g gm w v wr v'

set_option maxHeartbeats 1600000 in
theorem steps4_any (w : World) (xb sb mb rb h g gm : Nat) (v : Value) (cap B : Nat) (d : Dev) (x : Log) (s : List UInt8) (m : Mk) (k0 M : Nat) (hd : IsDev w g gm v cap B d) (hb : Blk w xb 68 #[.pointer (some ⟨h, 0, none⟩)]) (hs : Blk w sb 9 #[str s]) (hm : Blk w mb 62 #[.int .i64 m.1, .int .i64 m.2.1, .int .i64 m.2.2])
    (hx : IsLog w h g x) (hr : Blk w rb 31 #[.func (.func (stepF 0)) #[] (stepC xb sb mb 0), .func (.func (stepF 1)) #[] (stepC xb sb mb 1), .func (.func (stepF 2)) #[] (stepC xb sb mb 2), .func (.func (stepF 3)) #[] (stepC xb sb mb 3)])
    (hM : x.mark.2.1 = (M : Int)) (hM1 : M ≤ 1000000) (hk : s.length ≤ 64 * k0) (hk1 : k0 ≤ 1000000) (hok : OkN d k0) (hcap : cap ≤ 1000000000)
    (ok1 : ∀ i, i ≤ 3 → OkD (devI d k0 (2 + ((M / 64 : Nat) : Int)) s m i) ∧ WaitsOk (devI d k0 (2 + ((M / 64 : Nat) : Int)) s m i).waits ∧ (devI d k0 (2 + ((M / 64 : Nat) : Int)) s m i).waits.length ≤ 1000000) :
    Calls Try.prog 64 #[.pointer (some ⟨h, 0, none⟩), .slice (some ⟨rb, 0, none⟩) 4 4] w
      fun e w' => ∃ er : Int, e = .returned (.int .i64 er) ∧ ((er = 0 ∧ (∀ j, j < 4 → errI d k0 (2 + ((M / 64 : Nat) : Int)) s m j = 0) ∧ AtI w g gm v cap B d k0 (2 + ((M / 64 : Nat) : Int)) s m 4 w') ∨
        (er ≠ 0 ∧ ∃ w2, (∃ i, i < 4 ∧ (∀ j, j < i → errI d k0 (2 + ((M / 64 : Nat) : Int)) s m j = 0) ∧ er = errI d k0 (2 + ((M / 64 : Nat) : Int)) s m i ∧ AtI w g gm v cap B d k0 (2 + ((M / 64 : Nat) : Int)) s m (i + 1) w2) ∧ w2.setCell ⟨h, 5, none⟩ (.bool true) = w')) := by
  refine does_any w h rb 4 stepF (stepC xb sb mb) (fun i wr => (∀ j, j < i → errI d k0 (2 + ((M / 64 : Nat) : Int)) s m j = 0) ∧ AtI w g gm v cap B d k0 (2 + ((M / 64 : Nat) : Int)) s m i wr) (fun er w2 => ∃ i, i < 4 ∧ (∀ j, j < i → errI d k0 (2 + ((M / 64 : Nat) : Int)) s m j = 0) ∧ er = errI d k0 (2 + ((M / 64 : Nat) : Int)) s m i ∧ AtI w g gm v cap B d k0 (2 + ((M / 64 : Nat) : Int)) s m (i + 1) w2) (by omega) ?_ ?_ (fun i wr hi => step_enters xb sb mb i wr hi) ⟨fun j hj => absurd hj (Nat.not_lt_zero j), v, cap, by omega, hd, Touch.refl _ _ _ _⟩
  · rintro i wr hi ⟨hz, v', cap', hc, hdi, ht⟩
    have h1 := hd.keep ht hr (by decide) (by decide)
    have h4 : i = 0 ∨ i = 1 ∨ i = 2 ∨ i = 3 := by omega
    rcases h4 with rfl | rfl | rfl | rfl
    · exact h1.cell 0
    · exact h1.cell 1
    · exact h1.cell 2
    · exact h1.cell 3
  · rintro i wr hi ⟨hz, v', cap', hc, hdi, ht⟩
    have hb' := hd.keep ht hb (by decide) (by decide)
    have hs' := hd.keep ht hs (by decide) (by decide)
    have hm' := hd.keep ht hm (by decide) (by decide)
    have hx' : IsLog wr h g x := hd.keep ht hx (by decide) (by decide)
    obtain ⟨o1, o2, o3⟩ := ok1 i (by omega)
    have fin : ∀ (er : Int) (w' : World) (v2 : Value) (c2 : Nat), er = errI d k0 (2 + ((M / 64 : Nat) : Int)) s m i → c2 ≤ cap + 1000000 * (i + 1) → IsDev w' g gm v2 c2 B (devI d k0 (2 + ((M / 64 : Nat) : Int)) s m (i + 1)) → Touch g gm wr v' w' v2 →
        ∃ er' : Int, Ending.returned (.int .i64 er) = .returned (.int .i64 er') ∧ (er' = 0 → (∀ j, j < i + 1 → errI d k0 (2 + ((M / 64 : Nat) : Int)) s m j = 0) ∧ AtI w g gm v cap B d k0 (2 + ((M / 64 : Nat) : Int)) s m (i + 1) w') ∧ (er' ≠ 0 → (∃ j, j < 4 ∧ (∀ j', j' < j → errI d k0 (2 + ((M / 64 : Nat) : Int)) s m j' = 0) ∧ er' = errI d k0 (2 + ((M / 64 : Nat) : Int)) s m j ∧ AtI w g gm v cap B d k0 (2 + ((M / 64 : Nat) : Int)) s m (j + 1) w') ∧ (∃ b, w'.cell? ⟨h, 5, none⟩ = some (.bool b)) ∧ w'.frozen? ⟨h, 5, none⟩ = false) := by
      intro er w' v2 c2 he hc2 hd2 ht2
      have hx2 := hd.keep (ht.trans ht2) hx (by decide) (by decide)
      exact ⟨er, rfl, fun h0 => ⟨fun j hj => by
        rcases Nat.lt_succ_iff_lt_or_eq.mp hj with hj | rfl
        · exact hz j hj
        · rw [← he]; exact h0, v2, c2, hc2, hd2, ht.trans ht2⟩, fun _ => ⟨⟨i, hi, hz, he, v2, c2, hc2, hd2, ht.trans ht2⟩, ⟨_, hx2.cell 5⟩, hx2.frozen 5⟩⟩
    have h4 : i = 0 ∨ i = 1 ∨ i = 2 ∨ i = 3 := by omega
    rcases h4 with rfl | rfl | rfl | rfl
    · refine (commit2_any wr xb sb h g gm v' cap' B d x s k0 M _ _ hb' hs' hx' hdi hM hM1 hk hk1 hok rfl).mono ?_
      rintro e w' ⟨rfl, v2, hd2, ht2⟩
      exact fin _ _ _ _ rfl (by omega) hd2 ht2
    · refine (commit1_any wr xb h g gm v' cap' B _ x hb' hx' hdi o1 o2 (by omega)).mono ?_
      rintro e w' ⟨rfl, v2, c2, hc2, hd2, ht2⟩
      exact fin _ _ _ _ rfl (by omega) hd2 ht2
    · refine (commit3_any wr xb mb h g gm v' cap' B _ x m.1 m.2.1 m.2.2 hb' hm' hx' hdi o1).mono ?_
      rintro e w' ⟨rfl, v2, hd2, ht2⟩
      exact fin _ _ _ _ rfl (by omega) hd2 ht2
    · refine (commit1_any wr xb h g gm v' cap' B _ x hb' hx' hdi o1 o2 (by omega)).mono ?_
      rintro e w' ⟨rfl, v2, c2, hc2, hd2, ht2⟩
      exact fin _ _ _ _ rfl (by omega) hd2 ht2
end Go.Proofs.Ytiighehibiijcaa

namespace Go.Proofs.Ytiighehibiijcaa
open Go.RowKit
set_option linter.unusedSimpArgs false
set_option linter.unnecessarySimpa false
set_option linter.unusedVariables false

/-- What a call on a log may touch: the log, its device's own blocks, and what is new. -/
structure TouchL (h g gm : Nat) (w : World) (v : Value) (w' : World) (v' : Value) : Prop where
  os : w'.os = w.os
  tape : w'.tape = w.tape
  output : w'.output = w.output
  size : w.heap.size ≤ w'.heap.size
  block : ∀ i, i < w.heap.size → i ≠ h → i ≠ g → i ≠ gm → v.ownBlock ≠ some i → w'.heap[i]? = w.heap[i]?
  own : ∀ i, v'.ownBlock = some i → v.ownBlock = some i ∨ w.heap.size ≤ i
theorem TouchL.of {h g gm : Nat} {w w' : World} {v v' : Value} (t : Touch g gm w v w' v') : TouchL h g gm w v w' v' := ⟨t.os, t.tape, t.output, t.size, fun i hi _ h1 h2 h3 => t.block i hi h1 h2 h3, t.own⟩
theorem TouchL.set {h g gm : Nat} {w w' : World} {v v' : Value} (t : TouchL h g gm w v w' v') (j : Nat) (u : Value) : TouchL h g gm w v (w'.setCell ⟨h, j, none⟩ u) v' :=
  ⟨t.os, t.tape, t.output, by simpa [World.setCell] using t.size, fun i hi h0 h1 h2 h3 => (Below.heap_setCell w' ⟨h, j, none⟩ u i h0).trans (t.block i hi h0 h1 h2 h3), t.own⟩
theorem TouchL.drew {h g gm : Nat} {w w' : World} {v v' : Value} (t : TouchL h g gm w v w' v') : TouchL h g gm w v w'.drew v' := ⟨t.os, t.tape, t.output, t.size, t.block, t.own⟩
/-- A device beside a store into its log. -/
theorem IsDev.setLog {w : World} {g gm h : Nat} {v : Value} {cap B : Nat} {d : Dev} {cs : Array Value} (hd : IsDev w g gm v cap B d) (hx : Blk w h 78 cs) (i : Nat) (u : Value) : IsDev (w.setCell ⟨h, i, none⟩ u) g gm v cap B d := by
  have hg := upd_set w h i u
  exact ⟨hd.1.grown hg (by simpa using blk_ne hd.1 hx (by decide)), hd.2.1.kept hg (by simpa using fun e => (hd.2.1.ne hx) e.symm), hd.2.2.1.grown hg (.inr (hd.2.2.1.ne hx (by decide))), hd.2.2.2.1, hd.2.2.2.2⟩
end Go.Proofs.Ytiighehibiijcaa

namespace Go.Proofs.Ytiighehibiijcaa
open Go.RowKit
set_option linter.unusedSimpArgs false
set_option linter.unnecessarySimpa false
set_option linter.unusedVariables false

set_option maxRecDepth 100000 in
set_option maxHeartbeats 1600000 in
theorem commit_broken (w : World) (h g : Nat) (x : Log) (rec : List UInt8) (hx : IsLog w h g x) (hbr : x.broken = true) :
    Calls Try.prog 40 #[.pointer (some ⟨h, 0, none⟩), str rec] w fun e w' => e = .returned (.int .i64 13) ∧ Below w.heap.size w w' := by
  have hba : Below w.heap.size w (w.alloc (.cells #[.pointer (some ⟨h, 0, none⟩)] 68)) := (Below.refl _ _).alloc (Nat.le_refl _) _
  have HX := Lib.hid (show IsLog (w.alloc (.cells #[.pointer (some ⟨h, 0, none⟩)] 68)) h g x from Blk.step hx hba)
  have HB := Lib.hid hba
  clear hba hx
  go_enter Try.func40, Try.ntmps40
  go_wp2_with fail
  refine (logBroken_any _ h g x HX.out).mono ?_
  rw [hbr]
  rintro e w1 ⟨rfl, rfl⟩
  go_wp2_with fail
  go_ret
  exact ⟨rfl, HB.out⟩

set_option maxRecDepth 100000 in
set_option maxHeartbeats 1600000 in
theorem commit_full (w : World) (h g gm : Nat) (v : Value) (cap B : Nat) (d : Dev) (x : Log) (rec : List UInt8) (hx : IsLog w h g x) (hd : IsDev w g gm v cap B d) (hbr : x.broken = false) (hl : rec.length ≤ 1048576) (n0 : 0 ≤ d.n) (n1 : d.n ≤ 4096)
    (m0 : -1000000 ≤ x.mark.2.1) (m1 : x.mark.2.1 ≤ 1000000) (hr : roomD d - x.mark.2.1 < ((tRec rec).length : Nat)) :
    Calls Try.prog 40 #[.pointer (some ⟨h, 0, none⟩), str rec] w fun e w' => e = .returned (.int .i64 15) ∧ Below w.heap.size w w' := by
  have hba : Below w.heap.size w (w.alloc (.cells #[.pointer (some ⟨h, 0, none⟩)] 68)) := (Below.refl _ _).alloc (Nat.le_refl _) _
  have HX := Lib.hid (show IsLog (w.alloc (.cells #[.pointer (some ⟨h, 0, none⟩)] 68)) h g x from Blk.step hx hba)
  have HS := Lib.hid (Blk.new w 68 #[.pointer (some ⟨h, 0, none⟩)])
  have HD := Lib.hid (hd.step hba)
  have HB := Lib.hid hba
  clear hba hx hd
  go_enter Try.func40, Try.ntmps40
  go_wp2_with fail
  refine (logBroken_any _ h g x HX.out).mono ?_
  rw [hbr]
  rintro e w1 ⟨rfl, rfl⟩
  go_wp2_with fail
  refine (ckPut_any rec _ hl).mono ?_
  rintro e w2 ⟨rfl, hb2⟩
  have HX2 := Lib.hid (show IsLog w2 h g x from Blk.step HX.out hb2)
  have HD2 := Lib.hid (HD.out.step hb2)
  have c2 := (HS.out.step hb2).cell 0
  have HB2 := Lib.hid (bel_step HB.out hb2)
  clear hb2
  go_wp2_with fail
  refine (logRoom_any _ h g gm v cap B d x HX2.out HD2.out n0 n1 m0 m1).mono ?_
  rintro e w3 ⟨rfl, hb3⟩
  have HB3 := Lib.hid (bel_step HB2.out hb3)
  go_wp2_with fail
  go_ret
  exact ⟨rfl, HB3.out⟩
end Go.Proofs.Ytiighehibiijcaa

namespace Go.Proofs.Ytiighehibiijcaa
open Go.RowKit
set_option linter.unusedSimpArgs false
set_option linter.unnecessarySimpa false
set_option linter.unusedVariables false

/-- The mark behind a commit; how many sectors are written at most; from where on. -/
def nextM (x : Log) (r : List UInt8) : Mk := (x.mark.1 + 1, x.mark.2.1 + (r.length : Nat), x.mark.2.2 + 1)
def ksL (x : Log) (r : List UInt8) : Nat := (x.fin ++ r).length / 64 + 1
def atL (x : Log) : Int := 2 + ((x.mark.2.1.toNat / 64 : Nat) : Int)
/-- The first of four steps that fails; 4: none. -/
def badAt (f : Nat → Int) : Nat := if f 0 ≠ 0 then 0 else if f 1 ≠ 0 then 1 else if f 2 ≠ 0 then 2 else if f 3 ≠ 0 then 3 else 4
theorem badAt_eq {f : Nat → Int} {i : Nat} (hi : i < 4) (hz : ∀ j, j < i → f j = 0) (h : f i ≠ 0) : badAt f = i := by
  unfold badAt
  have h4 : i = 0 ∨ i = 1 ∨ i = 2 ∨ i = 3 := by omega
  rcases h4 with rfl | rfl | rfl | rfl
  · rw [if_pos h]
  · rw [if_neg (by simp [hz 0 (by omega)]), if_pos h]
  · rw [if_neg (by simp [hz 0 (by omega)]), if_neg (by simp [hz 1 (by omega)]), if_pos h]
  · rw [if_neg (by simp [hz 0 (by omega)]), if_neg (by simp [hz 1 (by omega)]), if_neg (by simp [hz 2 (by omega)]), if_pos h]
theorem badAt_four {f : Nat → Int} (hz : ∀ j, j < 4 → f j = 0) : badAt f = 4 := by
  unfold badAt
  rw [if_neg (by simp [hz 0 (by omega)]), if_neg (by simp [hz 1 (by omega)]), if_neg (by simp [hz 2 (by omega)]), if_neg (by simp [hz 3 (by omega)])]
/-- What Commit does where it goes on, of the record's bytes r: the log, the device, the error. -/
def commitS (d : Dev) (x : Log) (r : List UInt8) : Log × Dev × Int :=
  if badAt (errI d (ksL x r) (atL x) (x.fin ++ r) (nextM x r)) < 4 then
    ({ x with broken := true }, devI d (ksL x r) (atL x) (x.fin ++ r) (nextM x r) (badAt (errI d (ksL x r) (atL x) (x.fin ++ r) (nextM x r)) + 1),
      errI d (ksL x r) (atL x) (x.fin ++ r) (nextM x r) (badAt (errI d (ksL x r) (atL x) (x.fin ++ r) (nextM x r))))
  else (⟨nextM x r, (x.fin ++ r).drop ((x.fin ++ r).length - (x.fin ++ r).length % 64), false⟩, devI d (ksL x r) (atL x) (x.fin ++ r) (nextM x r) 4, 0)
theorem commitS_bad {d : Dev} {x : Log} {r : List UInt8} {i : Nat} (hi : i < 4) (hz : ∀ j, j < i → errI d (ksL x r) (atL x) (x.fin ++ r) (nextM x r) j = 0) (h : errI d (ksL x r) (atL x) (x.fin ++ r) (nextM x r) i ≠ 0) :
    commitS d x r = ({ x with broken := true }, devI d (ksL x r) (atL x) (x.fin ++ r) (nextM x r) (i + 1), errI d (ksL x r) (atL x) (x.fin ++ r) (nextM x r) i) := by
  unfold commitS
  rw [badAt_eq hi hz h, if_pos hi]
theorem commitS_good {d : Dev} {x : Log} {r : List UInt8} (hz : ∀ j, j < 4 → errI d (ksL x r) (atL x) (x.fin ++ r) (nextM x r) j = 0) :
    commitS d x r = (⟨nextM x r, (x.fin ++ r).drop ((x.fin ++ r).length - (x.fin ++ r).length % 64), false⟩, devI d (ksL x r) (atL x) (x.fin ++ r) (nextM x r) 4, 0) := by
  unfold commitS
  rw [badAt_four hz, if_neg (by omega)]
/-- What Commit does. -/
def commitR (d : Dev) (x : Log) (rec : List UInt8) : Log × Dev × Int :=
  if x.broken = true then (x, d, 13) else if roomD d - x.mark.2.1 < ((tRec rec).length : Nat) then (x, d, 15) else commitS d x (tRec rec)

section
variable {n : Int} {j : Nat} {d : Dev}
theorem OkP.le (h : OkP n j d) {i : Nat} (hi : j ≤ i) : OkP n i d := by
  obtain ⟨h1, h2, h3, h4, h5, h6, h7, h8⟩ := h
  exact ⟨h1, h2, h3, h4, by omega, by omega, h7, h8⟩
theorem OkP.okN (h : OkP n j d) {k : Nat} (hj : j + k ≤ 1000000) : OkN d k := by
  obtain ⟨-, h2, h3, h4, h5, h6, -, -⟩ := h
  exact ⟨h2, by omega, h4, by omega, by omega⟩
theorem OkP.waits (h : OkP n j d) : WaitsOk d.waits := fun p hp => ⟨(h.2.2.2.2.2.2.1 p hp).1, Nat.le_of_eq (h.2.2.2.2.2.2.1 p hp).2.1⟩
theorem wf_near {k : Int} (h0 : 0 ≤ k) (h1 : k ≤ 1099511627776) : (Lit.int .i64 k).wf = true := by
  rw [← wrap_small k (by omega) (by omega)]; exact wf_wrap _ _
theorem OkP.puts : ∀ (k j : Nat) (d : Dev) (a : Int) (s : List UInt8), OkP n j d → 0 ≤ a → a + k ≤ 1099511627776 → OkP n (j + k) (putsF k d a s).1 := by
  intro k
  induction k with
  | zero => intro j d a s h _ _; exact h
  | succ k ih =>
    intro j d a s h h0 h1
    unfold putsF
    split
    · exact h.le (by omega)
    · split
      · have h2 := ih (j + 1) _ (a + 1) (s.drop 64) (h.write (k := a) (s := chunk s) (wf_near h0 (by omega))) (by omega) (by omega)
        exact h2.le (by omega)
      · exact (h.write (k := a) (s := chunk s) (wf_near h0 (by omega))).le (by omega)
theorem OkP.devI (h : OkP n j d) {k : Nat} {a : Int} {s : List UInt8} {m : Mk} (h0 : 0 ≤ a) (h1 : a + k ≤ 1099511627776) (hm : 0 ≤ m.1) (i : Nat) (hi : i ≤ 4) : OkP n (j + k + 4) (devI d k a s m i) := by
  have e1 := h.puts k j d a s h0 h1
  have e2 := e1.flush
  have e3 := e2.write (k := m.1.tmod 2) (s := packS m.1 m.2.1 m.2.2) (wf_near (Int.tmod_nonneg _ hm) (by have := Int.tmod_lt_of_pos m.1 (b := 2) (by omega); omega))
  have e4 := e3.flush
  have h5 : i = 0 ∨ i = 1 ∨ i = 2 ∨ i = 3 ∨ i = 4 := by omega
  rcases h5 with rfl | rfl | rfl | rfl | rfl
  · exact h.le (by omega)
  · exact e1.le (by omega)
  · exact e2.le (by omega)
  · exact e3.le (by omega)
  · exact e4.le (by omega)
end
end Go.Proofs.Ytiighehibiijcaa

namespace Go.Proofs.Ytiighehibiijcaa
open Go.RowKit
set_option linter.unusedSimpArgs false
set_option linter.unnecessarySimpa false
set_option linter.unusedVariables false

theorem step_wp {P : Program} {ops : Array Oper} {o : Oper} {a : Act} {w : World} {K : Act → World → Prop} {Q : Exit → Act → World → Prop} {E : Prop} (hw : Region.wanted o (yielded ops a.tmps) = true)
    (h : Oper.wp P o a w K Q) : if Region.wanted o (yielded ops a.tmps) = true then Oper.wp P o a w K Q else E := by
  rw [if_pos hw]; exact h
theorem cap_le {a b i c : Nat} (hi : i < 4) (h : b ≤ a + c * (i + 1)) : b ≤ a + c * 4 := Nat.le_trans h (Nat.add_le_add_left (Nat.mul_le_mul_left c hi) a)
theorem there3 {w : World} {h g : Nat} {x : Log} (hx : IsLog w h g x) (j : Nat) (hj : j < 3) : (w.cell? ⟨h, 1 + j, none⟩).isSome = true ∧ w.frozen? ⟨h, 1 + j, none⟩ = false := by
  refine ⟨?_, Blk.frozen hx _⟩
  have h3 : j = 0 ∨ j = 1 ∨ j = 2 := by omega
  rcases h3 with rfl | rfl | rfl
  · rw [Blk.cell hx 1]; rfl
  · rw [Blk.cell hx 2]; rfl
  · rw [Blk.cell hx 3]; rfl
theorem marked {w7 : World} {h g gm : Nat} {v7 : Value} {cap7 B : Nat} {d7 : Dev} {x : Log} (a b c : Int) (hx : IsLog w7 h g x) (hd : IsDev w7 g gm v7 cap7 B d7) :
    IsLog (w7.setCells h 1 [.int .i64 a, .int .i64 b, .int .i64 c]) h g { x with mark := (a, b, c) } ∧ IsDev (w7.setCells h 1 [.int .i64 a, .int .i64 b, .int .i64 c]) g gm v7 cap7 B d7 ∧
    (∀ i t cs, i ≠ h → Blk w7 i t cs → Blk (w7.setCells h 1 [.int .i64 a, .int .i64 b, .int .i64 c]) i t cs) ∧ (∀ (w : World) (v : Value), TouchL h g gm w v w7 v7 → TouchL h g gm w v (w7.setCells h 1 [.int .i64 a, .int .i64 b, .int .i64 c]) v7) := by
  have b1 := Blk.set_ hx 1 (.int .i64 a)
  have b2 := Blk.set_ b1 2 (.int .i64 b)
  have b3 := Blk.set_ b2 3 (.int .i64 c)
  exact ⟨b3, ((hd.setLog hx 1 _).setLog b1 2 _).setLog b2 3 _, fun i t cs hi hb => ((hb.far (p := ⟨h, 1, none⟩) hi _).far (p := ⟨h, 2, none⟩) hi _).far (p := ⟨h, 3, none⟩) hi _, fun w v t => ((t.set 1 _).set 2 _).set 3 _⟩

set_option maxRecDepth 100000 in
set_option maxHeartbeats 1600000 in
theorem commit_goes (w : World) (h g gm : Nat) (v : Value) (cap B : Nat) (d : Dev) (x : Log) (rec : List UInt8) (hx : IsLog w h g x) (hd : IsDev w g gm v cap B d) (hbr : x.broken = false) (hl : rec.length ≤ 1048576) (n0 : 0 ≤ d.n) (n1 : d.n ≤ 4096)
    (M : Nat) (hM : x.mark.2.1 = (M : Int)) (m1 : M ≤ 1000000) (e0 : 0 ≤ x.mark.1) (e1 : x.mark.1 < 4611686018427387904) (c0 : 0 ≤ x.mark.2.2) (c1 : x.mark.2.2 < 4611686018427387904) (hr : ¬ roomD d - x.mark.2.1 < ((tRec rec).length : Nat)) (hf : x.fin.length ≤ 64)
    (j : Nat) (hp : OkP d.n j d) (hj : j ≤ 100000) (hcap : cap ≤ 1000000000) :
    Calls Try.prog 40 #[.pointer (some ⟨h, 0, none⟩), str rec] w fun e w' => ∃ v' cap', e = .returned (.int .i64 (commitS d x (tRec rec)).2.2) ∧ cap' ≤ cap + 4000000 ∧ IsDev w' g gm v' cap' B (commitS d x (tRec rec)).2.1 ∧ IsLog w' h g (commitS d x (tRec rec)).1 ∧ TouchL h g gm w v w' v' := by
  have hba : Below w.heap.size w (w.alloc (.cells #[.pointer (some ⟨h, 0, none⟩)] 68)) := (Below.refl _ _).alloc (Nat.le_refl _) _
  have HX := Lib.hid (show IsLog (w.alloc (.cells #[.pointer (some ⟨h, 0, none⟩)] 68)) h g x from Blk.step hx hba)
  have HS := Lib.hid (Blk.new w 68 #[.pointer (some ⟨h, 0, none⟩)])
  have HD := Lib.hid (hd.step hba)
  have HB := Lib.hid hba
  clear hba hx hd
  go_enter Try.func40, Try.ntmps40
  go_wp2_with fail
  refine (logBroken_any _ h g x HX.out).mono ?_
  rw [hbr]
  rintro e w1 ⟨rfl, rfl⟩
  go_wp2_with fail
  refine (ckPut_any rec _ hl).mono ?_
  rintro e w2 ⟨rfl, hb2⟩
  have HX2 := Lib.hid (show IsLog w2 h g x from Blk.step HX.out hb2)
  have HD2 := Lib.hid (HD.out.step hb2)
  have HS2 := Lib.hid (HS.out.step hb2)
  have c2 := HS2.out.cell 0
  have HB2 := Lib.hid (bel_step HB.out hb2)
  clear hb2
  go_wp2_with fail
  refine (logRoom_any _ h g gm v cap B d x HX2.out HD2.out n0 n1 (by omega) (by omega)).mono ?_
  rintro e w3 ⟨rfl, hb3⟩
  have HX3 := Lib.hid (show IsLog w3 h g x from Blk.step HX2.out hb3)
  have HD3 := Lib.hid (HD2.out.step hb3)
  have HS3 := Lib.hid (HS2.out.step hb3)
  have HB3 := Lib.hid (bel_step HB2.out hb3)
  have c3 := HS3.out.cell 0
  obtain ⟨q0, q1, q2, q3, q4, q5⟩ := log_cells HX3.out
  have hrl0 : (tRec rec).length ≤ 2000000 := by unfold roomD at hr; omega
  obtain ⟨r, hrr⟩ : ∃ r, tRec rec = r := ⟨_, rfl⟩
  rw [hrr] at hrl0
  have hrl : r.length ≤ 2000000 := hrl0
  rw [hrr] at hr ⊢
  have hcat : ¬ 9223372036854775807 < x.fin.length + r.length := by omega
  have HRR := Lib.hid hrr
  clear hb3 c2 hrr
  go_wp2_with fail
  have hb4 : Below w3.heap.size w3 (w3.alloc (.cells #[str (x.fin ++ r)] 9)) := (Below.refl _ _).alloc (Nat.le_refl _) _
  have HC4 := Lib.hid (Blk.new w3 9 #[str (x.fin ++ r)])
  have HX4 := Lib.hid (show IsLog _ h g x from Blk.step HX3.out hb4)
  have HD4 := Lib.hid (HD3.out.step hb4)
  have HS4 := Lib.hid (HS3.out.step hb4)
  have HB4 := Lib.hid (bel_step HB3.out hb4)
  obtain ⟨sb, hsb⟩ : ∃ sb, w3.heap.size = sb := ⟨_, rfl⟩
  rw [hsb] at HC4 ⊢
  generalize w3.alloc (.cells #[str (x.fin ++ r)] 9) = w4 at HC4 HX4 HD4 HS4 HB4 ⊢
  refine until_begin 22 (fun w' => w'.cell? ⟨w.heap.size, 0, none⟩ = some (.pointer (some ⟨h, 0, none⟩)) ∧ w'.cell? ⟨h, 1, none⟩ = some (.int .i64 x.mark.1) ∧ w'.cell? ⟨h, 2, none⟩ = some (.int .i64 x.mark.2.1) ∧ w'.cell? ⟨h, 3, none⟩ = some (.int .i64 x.mark.2.2)) (by kernel_rfl) ⟨HS4.out.cell 0, Blk.cell HX4.out 1, Blk.cell HX4.out 2, Blk.cell HX4.out 3⟩ (fun hS => ?_)
  refine until_take 0 (some 35) (u := ?_) rfl rfl (by kernel_rfl) (by kernel_rfl) (by kernel_rfl) (by kernel_rfl) (fun _ _ _ h => h) (by rfl) (fun wS hv => ?_) hS ?_
  rotate_left
  · obtain ⟨k1, k2, k3, k4⟩ := hv
    go_simp
    all_goals with_reducible rfl
  try simp only [Act.put, List.setIfInBounds_toArray, List.set]
  refine until_take 1 (some 36) (u := ?_) rfl rfl (by kernel_rfl) (by kernel_rfl) (by kernel_rfl) (by kernel_rfl) (fun _ _ _ h => h) (by rfl) (fun wS hv => ?_) hS ?_
  rotate_left
  · clear hv
    go_simp
    all_goals with_reducible rfl
  try simp only [Act.put, List.setIfInBounds_toArray, List.set]
  refine until_take 2 (some 37) (u := ?_) rfl rfl (by kernel_rfl) (by kernel_rfl) (by kernel_rfl) (by kernel_rfl) (fun _ _ _ h => h) (by rfl) (fun wS hv => ?_) hS ?_
  rotate_left
  · clear hv
    go_simp
    all_goals with_reducible rfl
  try simp only [Act.put, List.setIfInBounds_toArray, List.set]
  refine until_take 3 (some 38) (u := ?_) rfl rfl (by kernel_rfl) (by kernel_rfl) (by kernel_rfl) (by kernel_rfl) (fun _ _ _ h => h) (by rfl) (fun wS hv => ?_) hS ?_
  rotate_left
  · clear hv
    go_simp
    all_goals with_reducible rfl
  try simp only [Act.put, List.setIfInBounds_toArray, List.set]
  refine until_take 4 (some 39) (u := ?_) rfl rfl (by kernel_rfl) (by kernel_rfl) (by kernel_rfl) (by kernel_rfl) (fun _ _ _ h => h) (by rfl) (fun wS hv => ?_) hS ?_
  rotate_left
  · obtain ⟨k1, k2, k3, k4⟩ := hv
    go_simp
    all_goals with_reducible rfl
  try simp only [Act.put, List.setIfInBounds_toArray, List.set]
  refine until_take 5 (some 40) (u := ?_) rfl rfl (by kernel_rfl) (by kernel_rfl) (by kernel_rfl) (by kernel_rfl) (fun _ _ _ h => h) (by rfl) (fun wS hv => ?_) hS ?_
  rotate_left
  · clear hv
    go_simp
    all_goals with_reducible rfl
  try simp only [Act.put, List.setIfInBounds_toArray, List.set]
  refine until_take 6 (some 41) (u := ?_) rfl rfl (by kernel_rfl) (by kernel_rfl) (by kernel_rfl) (by kernel_rfl) (fun _ _ _ h => h) (by rfl) (fun wS hv => ?_) hS ?_
  rotate_left
  · obtain ⟨k1, k2, k3, k4⟩ := hv
    go_simp
    all_goals with_reducible rfl
  try simp only [Act.put, List.setIfInBounds_toArray, List.set]
  refine until_take 7 (some 42) (u := ?_) rfl rfl (by kernel_rfl) (by kernel_rfl) (by kernel_rfl) (by kernel_rfl) (fun _ _ _ h => h) (by rfl) (fun wS hv => ?_) hS ?_
  rotate_left
  · clear hv
    go_simp
    all_goals with_reducible rfl
  try simp only [Act.put, List.setIfInBounds_toArray, List.set]
  refine until_take 8 (some 43) (u := ?_) rfl rfl (by kernel_rfl) (by kernel_rfl) (by kernel_rfl) (by kernel_rfl) (fun _ _ _ h => h) (by rfl) (fun wS hv => ?_) hS ?_
  rotate_left
  · clear hv
    go_simp
    all_goals with_reducible rfl
  try simp only [Act.put, List.setIfInBounds_toArray, List.set]
  refine until_take 9 (some 44) (u := ?_) rfl rfl (by kernel_rfl) (by kernel_rfl) (by kernel_rfl) (by kernel_rfl) (fun _ _ _ h => h) (by rfl) (fun wS hv => ?_) hS ?_
  rotate_left
  · clear hv
    go_simp
    all_goals with_reducible rfl
  try simp only [Act.put, List.setIfInBounds_toArray, List.set]
  refine until_take 10 (some 45) (u := ?_) rfl rfl (by kernel_rfl) (by kernel_rfl) (by kernel_rfl) (by kernel_rfl) (fun _ _ _ h => h) (by rfl) (fun wS hv => ?_) hS ?_
  rotate_left
  · obtain ⟨k1, k2, k3, k4⟩ := hv
    go_simp
    all_goals with_reducible rfl
  try simp only [Act.put, List.setIfInBounds_toArray, List.set]
  refine until_take 11 (some 46) (u := ?_) rfl rfl (by kernel_rfl) (by kernel_rfl) (by kernel_rfl) (by kernel_rfl) (fun _ _ _ h => h) (by rfl) (fun wS hv => ?_) hS ?_
  rotate_left
  · clear hv
    go_simp
    all_goals with_reducible rfl
  try simp only [Act.put, List.setIfInBounds_toArray, List.set]
  refine until_take 12 (some 47) (u := ?_) rfl rfl (by kernel_rfl) (by kernel_rfl) (by kernel_rfl) (by kernel_rfl) (fun _ _ _ h => h) (by rfl) (fun wS hv => ?_) hS ?_
  rotate_left
  · clear hv
    go_simp
    all_goals with_reducible rfl
  try simp only [Act.put, List.setIfInBounds_toArray, List.set]
  refine until_take 13 (some 48) (u := ?_) rfl rfl (by kernel_rfl) (by kernel_rfl) (by kernel_rfl) (by kernel_rfl) (fun _ _ _ h => h) (by rfl) (fun wS hv => ?_) hS ?_
  rotate_left
  · clear hv
    go_simp
    all_goals with_reducible rfl
  try simp only [Act.put, List.setIfInBounds_toArray, List.set]
  refine until_take 14 (some 49) (u := ?_) rfl rfl (by kernel_rfl) (by kernel_rfl) (by kernel_rfl) (by kernel_rfl) (fun _ _ _ h => h) (by rfl) (fun wS hv => ?_) hS ?_
  rotate_left
  · obtain ⟨k1, k2, k3, k4⟩ := hv
    go_simp
    all_goals with_reducible rfl
  try simp only [Act.put, List.setIfInBounds_toArray, List.set]
  refine until_take 15 (some 50) (u := ?_) rfl rfl (by kernel_rfl) (by kernel_rfl) (by kernel_rfl) (by kernel_rfl) (fun _ _ _ h => h) (by rfl) (fun wS hv => ?_) hS ?_
  rotate_left
  · clear hv
    go_simp
    all_goals with_reducible rfl
  try simp only [Act.put, List.setIfInBounds_toArray, List.set]
  refine until_take 16 (some 51) (u := ?_) rfl rfl (by kernel_rfl) (by kernel_rfl) (by kernel_rfl) (by kernel_rfl) (fun _ _ _ h => h) (by rfl) (fun wS hv => ?_) hS ?_
  rotate_left
  · clear hv
    go_simp
    all_goals with_reducible rfl
  try simp only [Act.put, List.setIfInBounds_toArray, List.set]
  refine until_take 17 (some 52) (u := ?_) rfl rfl (by kernel_rfl) (by kernel_rfl) (by kernel_rfl) (by kernel_rfl) (fun _ _ _ h => h) (by rfl) (fun wS hv => ?_) hS ?_
  rotate_left
  · clear hv
    go_simp
    all_goals with_reducible rfl
  try simp only [Act.put, List.setIfInBounds_toArray, List.set]
  refine until_take 18 (some 53) (u := ?_) rfl rfl (by kernel_rfl) (by kernel_rfl) (by kernel_rfl) (by kernel_rfl) (fun _ _ _ h => h) (by rfl) (fun wS hv => ?_) hS ?_
  rotate_left
  · obtain ⟨k1, k2, k3, k4⟩ := hv
    go_simp
    all_goals with_reducible rfl
  try simp only [Act.put, List.setIfInBounds_toArray, List.set]
  refine until_take 19 (some 54) (u := ?_) rfl rfl (by kernel_rfl) (by kernel_rfl) (by kernel_rfl) (by kernel_rfl) (fun _ _ _ h => h) (by rfl) (fun wS hv => ?_) hS ?_
  rotate_left
  · clear hv
    go_simp
    all_goals with_reducible rfl
  try simp only [Act.put, List.setIfInBounds_toArray, List.set]
  refine until_take 20 (some 55) (u := ?_) rfl rfl (by kernel_rfl) (by kernel_rfl) (by kernel_rfl) (by kernel_rfl) (fun _ _ _ h => h) (by rfl) (fun wS hv => ?_) hS ?_
  rotate_left
  · clear hv
    go_simp
    all_goals with_reducible rfl
  try simp only [Act.put, List.setIfInBounds_toArray, List.set]
  refine until_one 21 (by kernel_rfl) rfl (fun K hK => ?_)
  go_simp
  refine hK.out _ _ ⟨(HS4.out.alloc _).drew.cell 0, (Blk.alloc HX4.out _).drew.cell 1, (Blk.alloc HX4.out _).drew.cell 2, (Blk.alloc HX4.out _).drew.cell 3⟩ (fun hS => ?_)
  clear hK K
  refine until_last (by kernel_rfl) rfl (by kernel_rfl) (fun K hK => ?_)
  go_simp
  refine hK.out _ _ ?_
  clear hK K hS
  rw [wrap_small (x.mark.1 + 1) (by omega) (by omega), wrap_small ((M : Int) + (r.length : Int)) (by omega) (by omega), wrap_small (x.mark.2.2 + 1) (by omega) (by omega)]
  have hb5 : Below w4.heap.size w4 (w4.alloc (.cells #[.int .i64 (x.mark.1 + 1), .int .i64 ((M : Int) + (r.length : Int)), .int .i64 (x.mark.2.2 + 1)] 62)).drew := ((Below.refl _ _).alloc (Nat.le_refl _) _).drew
  have HM5 := Lib.hid ((Blk.new w4 62 #[.int .i64 (x.mark.1 + 1), .int .i64 ((M : Int) + (r.length : Int)), .int .i64 (x.mark.2.2 + 1)]).drew)
  have HC5 := Lib.hid (HC4.out.step hb5)
  have HX5 := Lib.hid (show IsLog _ h g x from Blk.step HX4.out hb5)
  have HD5 := Lib.hid (HD4.out.step hb5)
  have HS5 := Lib.hid (HS4.out.step hb5)
  have HB5 := Lib.hid (bel_step HB4.out hb5)
  obtain ⟨mb, hmb⟩ : ∃ mb, w4.heap.size = mb := ⟨_, rfl⟩
  rw [hmb] at HM5 ⊢
  clear hb5
  generalize (w4.alloc (.cells #[.int .i64 (x.mark.1 + 1), .int .i64 ((M : Int) + (r.length : Int)), .int .i64 (x.mark.2.2 + 1)] 62)).drew = w5 at HM5 HC5 HX5 HD5 HS5 HB5 ⊢
  clear hS HC4 HX4 HD4 HS4 HB4 hmb w4 hb4 hsb c3 q0 q1 q2 q3 q4 q5 HX3 HD3 HS3 HB3 w3 HX2 HD2 HS2 HB2 w2
  obtain ⟨xb, hxb⟩ : ∃ xb, w.heap.size = xb := ⟨_, rfl⟩
  rw [hxb] at HS5 ⊢
  have kx := HS5.out.cell 0
  go_wp2_with fail
  have hb6 : Below w5.heap.size w5 (w5.alloc (.cells #[.func (.func 65) #[] #[.pointer (some ⟨xb, 0, none⟩), .pointer (some ⟨sb, 0, none⟩)], .func (.func 63) #[] #[.pointer (some ⟨xb, 0, none⟩)], .func (.func 67) #[] #[.pointer (some ⟨xb, 0, none⟩), .pointer (some ⟨mb, 0, none⟩)], .func (.func 63) #[] #[.pointer (some ⟨xb, 0, none⟩)]] 31)) := (Below.refl _ _).alloc (Nat.le_refl _) _
  have hR6 : Blk (w5.alloc (.cells #[.func (.func 65) #[] #[.pointer (some ⟨xb, 0, none⟩), .pointer (some ⟨sb, 0, none⟩)], .func (.func 63) #[] #[.pointer (some ⟨xb, 0, none⟩)], .func (.func 67) #[] #[.pointer (some ⟨xb, 0, none⟩), .pointer (some ⟨mb, 0, none⟩)], .func (.func 63) #[] #[.pointer (some ⟨xb, 0, none⟩)]] 31)) w5.heap.size 31 #[.func (.func (stepF 0)) #[] (stepC xb sb mb 0), .func (.func (stepF 1)) #[] (stepC xb sb mb 1), .func (.func (stepF 2)) #[] (stepC xb sb mb 2), .func (.func (stepF 3)) #[] (stepC xb sb mb 3)] := Blk.new w5 _ _
  have HC6 := Lib.hid (HC5.out.step hb6)
  have HM6 := Lib.hid (HM5.out.step hb6)
  have HX6 := Lib.hid (show IsLog _ h g x from Blk.step HX5.out hb6)
  have HD6 := Lib.hid (HD5.out.step hb6)
  have HS6 := Lib.hid (HS5.out.step hb6)
  have HB6 := Lib.hid (bel_step HB5.out hb6)
  have hp1 : atL x = 2 + ((M / 64 : Nat) : Int) := by unfold atL; rw [hM, Int.toNat_natCast]
  have HA := Lib.hid hp1
  obtain ⟨s, hs⟩ : ∃ s, x.fin ++ r = s := ⟨_, rfl⟩
  have hsl : s.length ≤ 2000064 := by rw [← hs, List.length_append]; omega
  obtain ⟨k0, hk0⟩ : ∃ k0, ksL x r = k0 := ⟨_, rfl⟩
  have hkk : k0 = s.length / 64 + 1 := by rw [← hk0, ← hs]; rfl
  have hkl : k0 ≤ 40000 := by omega
  have hk1 : s.length ≤ 64 * k0 := by omega
  have hm0 : nextM x r = (x.mark.1 + 1, (M : Int) + (r.length : Int), x.mark.2.2 + 1) := by unfold nextM; rw [hM]
  obtain ⟨m, hm⟩ : ∃ m, nextM x r = m := ⟨_, rfl⟩
  have hm1 : m.1 = x.mark.1 + 1 := by rw [← hm, hm0]
  have hm2 : m.2.1 = (M : Int) + (r.length : Int) := by rw [← hm, hm0]
  have hm3 : m.2.2 = x.mark.2.2 + 1 := by rw [← hm, hm0]
  have hI := fun i hi => hp.devI (k := k0) (a := 2 + ((M / 64 : Nat) : Int)) (s := s) (m := m) (by omega) (by omega) (by omega) i hi
  have hst := steps4_any _ xb sb mb w5.heap.size h g gm v cap B d x s m k0 M HD6.out HS6.out (by rw [← hs]; exact HC6.out) (by rw [hm1, hm2, hm3]; exact HM6.out) HX6.out hR6 hM m1 hk1 (by omega) (hp.okN (by omega)) hcap
    (fun i hi => ⟨(hI i (by omega)).ok (by omega), (hI i (by omega)).waits, by have := (hI i (by omega)).2.2.2.2.2.1; omega⟩)
  have HST := Lib.hid hst
  have HHS := Lib.hid hs
  have HHK := Lib.hid hk0
  have HHM := Lib.hid hm
  have HM1 := Lib.hid hm1
  have HM2 := Lib.hid hm2
  have HM3 := Lib.hid hm3
  clear hst hs hk0 hm hm0 hm1 hm2 hm3 hI hR6 hb6 hp1 kx hkk hk1 hkl
  refine HST.out.mono ?_
  clear HST
  rintro e w7 ⟨er, rfl, ⟨h0, hz, v7, cap7, hc7, hd7, ht7⟩ | ⟨h0, w2, ⟨i, hi, hz, he, v7, cap7, hc7, hd7, ht7⟩, rfl⟩⟩
  · have HS7 := Lib.hid (HD6.out.keep ht7 HS6.out (by decide) (by decide))
    have HC7 := Lib.hid (HD6.out.keep ht7 HC6.out (by decide) (by decide))
    rw [HHS.out] at HC7
    have HM7 := Lib.hid (HD6.out.keep ht7 HM6.out (by decide) (by decide))
    have HX7 := Lib.hid (show IsLog w7 h g x from HD6.out.keep ht7 HX6.out (by decide) (by decide))
    have HT7 := Lib.hid (TouchL.of (h := h) ((Touch.of_below HB6.out).trans ht7))
    have HD7 := Lib.hid hd7
    have HZ := Lib.hid hz
    have HCA := Lib.hid hc7
    subst h0
    obtain ⟨T, hT⟩ : ∃ T, s.length - s.length % 64 = T := ⟨_, rfl⟩
    have hTM : T ≤ s.length := by omega
    have hwT : IntKind.i64.wrap ((s.length : Int) - (s.length : Int).tmod 64) = (T : Int) := by
      rw [show (s.length : Int).tmod 64 = ((s.length % 64 : Nat) : Int) from rfl]
      rw [show (s.length : Int) - ((s.length % 64 : Nat) : Int) = (T : Int) by omega]
      exact IntWalk.i64_in _ (by omega)
    have HT := Lib.hid hT
    clear hd7 ht7 hz hc7 hT
    go_wp2_with fail
    refine until_begin 16 (fun w' => w'.cell? ⟨xb, 0, none⟩ = some (.pointer (some ⟨h, 0, none⟩)) ∧ w'.cell? ⟨mb, 0, none⟩ = some (.int .i64 (x.mark.1 + 1)) ∧ w'.cell? ⟨mb, 1, none⟩ = some (.int .i64 ((M : Int) + (r.length : Int))) ∧ w'.cell? ⟨mb, 2, none⟩ = some (.int .i64 (x.mark.2.2 + 1)) ∧ w'.cell? ⟨sb, 0, none⟩ = some (str s)) (by kernel_rfl) ⟨HS7.out.cell 0, HM7.out.cell 0, HM7.out.cell 1, HM7.out.cell 2, HC7.out.cell 0⟩ (fun hS => ?_)
    refine until_take 0 (some 67) (u := ?_) rfl rfl (by kernel_rfl) (by kernel_rfl) (by kernel_rfl) (by kernel_rfl) (fun _ _ _ h => h) (by rfl) (fun wS hv => ?_) hS ?_
    rotate_left
    · obtain ⟨k1, k2, k3, k4, k5⟩ := hv
      go_simp
      all_goals with_reducible rfl
    try simp only [Act.put, List.setIfInBounds_toArray, List.set]
    refine until_take 1 (some 68) (u := ?_) rfl rfl (by kernel_rfl) (by kernel_rfl) (by kernel_rfl) (by kernel_rfl) (fun _ _ _ h => h) (by rfl) (fun wS hv => ?_) hS ?_
    rotate_left
    · obtain ⟨k1, k2, k3, k4, k5⟩ := hv
      go_simp
      all_goals with_reducible rfl
    try simp only [Act.put, List.setIfInBounds_toArray, List.set]
    refine until_take 2 (some 69) (u := ?_) rfl rfl (by kernel_rfl) (by kernel_rfl) (by kernel_rfl) (by kernel_rfl) (fun _ _ _ h => h) (by rfl) (fun wS hv => ?_) hS ?_
    rotate_left
    · obtain ⟨k1, k2, k3, k4, k5⟩ := hv
      go_simp
      all_goals with_reducible rfl
    try simp only [Act.put, List.setIfInBounds_toArray, List.set]
    refine until_take 3 (some 70) (u := ?_) rfl rfl (by kernel_rfl) (by kernel_rfl) (by kernel_rfl) (by kernel_rfl) (fun _ _ _ h => h) (by rfl) (fun wS hv => ?_) hS ?_
    rotate_left
    · obtain ⟨k1, k2, k3, k4, k5⟩ := hv
      go_simp
      all_goals with_reducible rfl
    try simp only [Act.put, List.setIfInBounds_toArray, List.set]
    refine until_take 4 (some 71) (u := ?_) rfl rfl (by kernel_rfl) (by kernel_rfl) (by kernel_rfl) (by kernel_rfl) (fun _ _ _ h => h) (by rfl) (fun wS hv => ?_) hS ?_
    rotate_left
    · obtain ⟨k1, k2, k3, k4, k5⟩ := hv
      go_simp
      all_goals with_reducible rfl
    try simp only [Act.put, List.setIfInBounds_toArray, List.set]
    refine until_take 5 (some 72) (u := ?_) rfl rfl (by kernel_rfl) (by kernel_rfl) (by kernel_rfl) (by kernel_rfl) (fun _ _ _ h => h) (by rfl) (fun wS hv => ?_) hS ?_
    rotate_left
    · clear hv
      go_simp
      all_goals with_reducible rfl
    try simp only [Act.put, List.setIfInBounds_toArray, List.set]
    refine until_take 6 (some 73) (u := ?_) rfl rfl (by kernel_rfl) (by kernel_rfl) (by kernel_rfl) (by kernel_rfl) (fun _ _ _ h => h) (by rfl) (fun wS hv => ?_) hS ?_
    rotate_left
    · obtain ⟨k1, k2, k3, k4, k5⟩ := hv
      go_simp
      all_goals with_reducible rfl
    try simp only [Act.put, List.setIfInBounds_toArray, List.set]
    refine until_take 7 (some 74) (u := ?_) rfl rfl (by kernel_rfl) (by kernel_rfl) (by kernel_rfl) (by kernel_rfl) (fun _ _ _ h => h) (by rfl) (fun wS hv => ?_) hS ?_
    rotate_left
    · clear hv
      go_simp
      all_goals with_reducible rfl
    try simp only [Act.put, List.setIfInBounds_toArray, List.set]
    refine until_take 8 (some 75) (u := ?_) rfl rfl (by kernel_rfl) (by kernel_rfl) (by kernel_rfl) (by kernel_rfl) (fun _ _ _ h => h) (by rfl) (fun wS hv => ?_) hS ?_
    rotate_left
    · clear hv
      go_simp
      all_goals with_reducible rfl
    try simp only [Act.put, List.setIfInBounds_toArray, List.set]
    refine until_take 9 (some 76) (u := ?_) rfl rfl (by kernel_rfl) (by kernel_rfl) (by kernel_rfl) (by kernel_rfl) (fun _ _ _ h => h) (by rfl) (fun wS hv => ?_) hS ?_
    rotate_left
    · clear hv
      go_simp
      all_goals with_reducible rfl
    try simp only [Act.put, List.setIfInBounds_toArray, List.set]
    refine until_take 10 (some 77) (u := ?_) rfl rfl (by kernel_rfl) (by kernel_rfl) (by kernel_rfl) (by kernel_rfl) (fun _ _ _ h => h) (by rfl) (fun wS hv => ?_) hS ?_
    rotate_left
    · clear hv
      go_simp
      all_goals with_reducible rfl
    try simp only [Act.put, List.setIfInBounds_toArray, List.set]
    refine until_take 11 (some 78) (u := ?_) rfl rfl (by kernel_rfl) (by kernel_rfl) (by kernel_rfl) (by kernel_rfl) (fun _ _ _ h => h) (by rfl) (fun wS hv => ?_) hS ?_
    rotate_left
    · clear hv
      go_simp
      all_goals with_reducible rfl
    try simp only [Act.put, List.setIfInBounds_toArray, List.set]
    refine until_take 12 (some 79) (u := ?_) rfl rfl (by kernel_rfl) (by kernel_rfl) (by kernel_rfl) (by kernel_rfl) (fun _ _ _ h => h) (by rfl) (fun wS hv => ?_) hS ?_
    rotate_left
    · clear hv
      go_simp
      all_goals with_reducible rfl
    try simp only [Act.put, List.setIfInBounds_toArray, List.set]
    refine until_one 13 (by kernel_rfl) rfl (fun K hK => ?_)
    refine step_wp (by rfl) ?_
    refine wp_store_mid _ _ _ rfl h 1 #[.int .i64 (x.mark.1 + 1), .int .i64 ((M : Int) + (r.length : Int)), .int .i64 (x.mark.2.2 + 1)] (by rfl) (by rfl) (fun j hj => ?_) (by kernel_rfl) (by simp [Value.oneCell']) ?_
    · exact there3 HX7.out j hj
    have hmk := marked (x.mark.1 + 1) ((M : Int) + (r.length : Int)) (x.mark.2.2 + 1) (show IsLog w7.drew h g x from HX7.out) (HD7.out.step (Below.refl _ _).drew)
    have HX8 := Lib.hid hmk.1
    have HD8 := Lib.hid hmk.2.1
    have HT8 := Lib.hid (hmk.2.2.2 _ _ HT7.out.drew)
    have HS8 := Lib.hid (hmk.2.2.1 _ _ _ (blk_ne HS7.out HX7.out (by decide)) HS7.out.drew)
    have HM8 := Lib.hid (hmk.2.2.1 _ _ _ (blk_ne HM7.out HX7.out (by decide)) HM7.out.drew)
    have HC8 := Lib.hid (hmk.2.2.1 _ _ _ (blk_ne HC7.out HX7.out (by decide)) HC7.out.drew)
    clear hmk
    go_simp
    generalize w7.drew.setCells h 1 [.int .i64 (x.mark.1 + 1), .int .i64 ((M : Int) + (r.length : Int)), .int .i64 (x.mark.2.2 + 1)] = w8 at HX8 HD8 HT8 HS8 HM8 HC8 ⊢
    refine hK.out _ _ ⟨HS8.out.cell 0, HM8.out.cell 0, HM8.out.cell 1, HM8.out.cell 2, HC8.out.cell 0⟩ (fun hS => ?_)
    clear hK K
    try simp only [Act.put, List.setIfInBounds_toArray, List.set]
    refine until_one 14 (by kernel_rfl) rfl (fun K hK => ?_)
    refine step_value (d := some 80) (by rfl) rfl (r := .pointer (some ⟨h, 0, none⟩)) (w1 := w8) (by go_simp) ?_
    refine hK.out _ _ hS (fun hS => ?_)
    clear hK K
    try simp only [Act.put, List.setIfInBounds_toArray, List.set]
    refine until_take 15 (some 81) (u := ?_) rfl rfl (by kernel_rfl) (by kernel_rfl) (by kernel_rfl) (by kernel_rfl) (fun _ _ _ h => h) (by rfl) (fun wS hv => ?_) hS ?_
    rotate_left
    · clear hv
      go_simp
      all_goals with_reducible rfl
    try simp only [Act.put, List.setIfInBounds_toArray, List.set]
    refine until_last (by kernel_rfl) rfl (by kernel_rfl) (fun K hK => ?_)
    have u4 := Blk.cell HX8.out 4
    have f4 := Blk.frozen HX8.out 4
    go_simp
    refine hK.out _ _ ?_
    clear hK K hS
    have hx9 := Blk.set_ HX8.out 4 (str (List.take (s.length - T) (List.drop T s)))
    have hd9 := HD8.out.setLog HX8.out 4 (str (List.take (s.length - T) (List.drop T s)))
    have ht9 := HT8.out.set 4 (str (List.take (s.length - T) (List.drop T s)))
    have hfin : s.drop (s.length - s.length % 64) = List.take (s.length - T) (List.drop T s) := by rw [HT.out, List.take_of_length_le (by rw [List.length_drop]; exact Nat.le_refl _)]
    have hG := commitS_good (d := d) (x := x) (r := r) (by rw [HHK.out, HA.out, HHS.out, HHM.out]; exact HZ.out)
    rw [HHS.out, HHK.out, HA.out, HHM.out, hfin] at hG
    have hmm : m = (x.mark.1 + 1, (M : Int) + (r.length : Int), x.mark.2.2 + 1) := Prod.ext HM1.out (Prod.ext HM2.out HM3.out)
    have hx10 : IsLog (w8.setCell ⟨h, 4, none⟩ (str (List.take (s.length - T) (List.drop T s)))) h g ⟨m, List.take (s.length - T) (List.drop T s), false⟩ := by
      rw [hmm, ← hbr]; exact hx9
    change Exit.then _ _ _ _ (w8.setCell ⟨h, 4, none⟩ (str (List.take (s.length - T) (List.drop T s))))
    generalize w8.setCell ⟨h, 4, none⟩ (str (List.take (s.length - T) (List.drop T s))) = w9 at hd9 ht9 hx10 ⊢
    have HD9 := Lib.hid hd9
    have HX9 := Lib.hid hx10
    have HT9 := Lib.hid ht9
    have HG := Lib.hid hG
    clear hd9 hx9 hx10 ht9 hG hmm hfin u4 f4
    go_wp2_with fail
    go_ret
    rw [HRR.out, HG.out]
    exact ⟨v7, cap7, rfl, by have := HCA.out; omega, HD9.out, HX9.out, HT9.out⟩
  · have hx2 : IsLog w2 h g x := HD6.out.keep ht7 HX6.out (by decide) (by decide)
    have hx9 : IsLog (w2.setCell ⟨h, 5, none⟩ (.bool true)) h g { x with broken := true } := Blk.set_ hx2 5 (.bool true)
    have hd9 := hd7.setLog hx2 5 (.bool true)
    have ht9 := (TouchL.of (h := h) ((Touch.of_below HB6.out).trans ht7)).set 5 (.bool true)
    have hG := commitS_bad (d := d) (x := x) (r := r) hi (by rw [HHK.out, HA.out, HHS.out, HHM.out]; exact hz) (by rw [HHK.out, HA.out, HHS.out, HHM.out, ← he]; exact h0)
    rw [HHS.out, HHK.out, HA.out, HHM.out, ← he] at hG
    generalize w2.setCell ⟨h, 5, none⟩ (.bool true) = w9 at hd9 ht9 hx9 ⊢
    have HD9 := Lib.hid hd9
    have HX9 := Lib.hid hx9
    have HT9 := Lib.hid ht9
    have HG := Lib.hid hG
    have HCA := Lib.hid (cap_le (c := 1000000) hi hc7)
    have e1 : (er != 0) = true := by simpa using h0
    have e2 : (er == 0) = false := by simpa using h0
    clear hd9 hx9 ht9 hG hx2 hz he hc7 hd7 ht7
    go_wp2_with fail
    go_ret
    rw [HRR.out, HG.out]
    exact ⟨v7, cap7, rfl, by have := HCA.out; omega, HD9.out, HX9.out, HT9.out⟩
end Go.Proofs.Ytiighehibiijcaa

namespace Go.Proofs.Ytiighehibiijcaa
open Go.RowKit
set_option linter.unusedSimpArgs false
set_option linter.unnecessarySimpa false
set_option linter.unusedVariables false

/-- A log's numbers are within the bounds. -/
def LogOk (x : Log) : Prop := 0 ≤ x.mark.1 ∧ x.mark.1 < 4611686018427387904 ∧ 0 ≤ x.mark.2.1 ∧ x.mark.2.1 ≤ 1000000 ∧ 0 ≤ x.mark.2.2 ∧ x.mark.2.2 < 4611686018427387904 ∧ x.fin.length ≤ 64
theorem commit_any (w : World) (h g gm : Nat) (v : Value) (cap B : Nat) (d : Dev) (x : Log) (rec : List UInt8) (hx : IsLog w h g x) (hd : IsDev w g gm v cap B d) (hl : rec.length ≤ 1048576) (n0 : 0 ≤ d.n) (n1 : d.n ≤ 4096)
    (hok : LogOk x) (j : Nat) (hp : OkP d.n j d) (hj : j ≤ 100000) (hcap : cap ≤ 1000000000) (R : Log × Dev × Int) (hR : commitR d x rec = R) :
    Calls Try.prog 40 #[.pointer (some ⟨h, 0, none⟩), str rec] w fun e w' => ∃ v' cap', e = .returned (.int .i64 R.2.2) ∧ cap' ≤ cap + 4000000 ∧ IsDev w' g gm v' cap' B R.2.1 ∧ IsLog w' h g R.1 ∧ TouchL h g gm w v w' v' := by
  obtain ⟨e0, e1, b0, b1, c0, c1, hf⟩ := hok
  subst hR
  unfold commitR
  rcases hb : x.broken with _ | _
  · rw [if_neg (by simp)]
    by_cases hr : roomD d - x.mark.2.1 < ((tRec rec).length : Nat)
    · rw [if_pos hr]
      refine (commit_full w h g gm v cap B d x rec hx hd hb hl n0 n1 (by omega) b1 hr).mono ?_
      rintro e w' ⟨rfl, hb'⟩
      exact ⟨v, cap, rfl, by omega, hd.step hb', Blk.step hx hb', TouchL.of (Touch.of_below hb')⟩
    · rw [if_neg hr]
      exact commit_goes w h g gm v cap B d x rec hx hd hb hl n0 n1 x.mark.2.1.toNat (by omega) (by omega) e0 e1 c0 c1 hr hf j hp hj hcap
  · rw [if_pos rfl]
    refine (commit_broken w h g x rec hx hb).mono ?_
    rintro e w' ⟨rfl, hb'⟩
    exact ⟨v, cap, rfl, by omega, hd.step hb', Blk.step hx hb', TouchL.of (Touch.of_below hb')⟩
end Go.Proofs.Ytiighehibiijcaa

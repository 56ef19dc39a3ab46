/-
  What Read and Arm of device.Device do; of a device, and of none. No conditions beside those in each theorem.
-/
import Derived.Test.YtiighehibiijcaaDevH
namespace Go.Proofs.Ytiighehibiijcaa
open Go.RowKit

/-- What waits last for a sector. -/
def lastW (k : Int) : List (Int × List UInt8) → Option (List UInt8)
  | [] => none
  | p :: l => (lastW k l).or (if p.1 = k then some p.2 else none)
theorem lastW_none {k : Int} : ∀ (l : List (Int × List UInt8)), (∀ p ∈ l, p.1 ≠ k) → lastW k l = none := by
  intro l
  induction l with
  | nil => intro _; rfl
  | cons p l ih =>
    intro h
    simp only [lastW]
    rw [ih (fun q hq => h q (by simp [hq])), if_neg (h p (by simp))]
    rfl
theorem lastW_at {k : Int} : ∀ (l : List (Int × List UInt8)) (j : Nat) (hj : j < l.length), l[j].1 = k → (∀ p ∈ l.drop (j + 1), p.1 ≠ k) → lastW k l = some l[j].2 := by
  intro l
  induction l with
  | nil => intro j hj; simp at hj
  | cons p l ih =>
    intro j hj h1 h2
    cases j with
    | zero =>
      simp only [lastW]
      rw [lastW_none l (by simpa using h2), if_pos (by simpa using h1)]
      rfl
    | succ j =>
      simp only [lastW]
      rw [ih j (by simpa using hj) (by simpa using h1) (by simpa using h2)]
      rfl
def readD (d : Dev) (k : Int) : List UInt8 := (lastW k d.waits).getD (safeD d k)
def readS (d : Dev) (k : Int) : List UInt8 := if d.on then (if hasD d.n k then readD d k else []) else []
def readE (d : Dev) (k : Int) : Int := if d.on then (if hasD d.n k then 0 else 1) else 14

set_option maxRecDepth 100000 in
set_option maxHeartbeats 2000000 in
theorem read_any (w : World) (g gm : Nat) (v : Value) (cap B : Nat) (d : Dev) (k : Int) (hd : IsDev w g gm v cap B d) (hk : (Lit.int .i64 k).wf = true) (hn : d.waits.length < 4611686018427) :
    Calls Try.prog 20 #[.pointer (some ⟨g, 0, none⟩), .int .i64 k] w
      fun e w' => e = .returned (.tuple #[str (readS d k), .int .i64 (readE d k)]) ∧ Below w.heap.size w w' := by
  obtain ⟨-, -, c2, c3, -⟩ := dev_cells hd
  have HD := Lib.hid hd
  unfold readS readE
  obtain ⟨on, hon⟩ : ∃ u, d.on = u := ⟨_, rfl⟩
  rw [hon] at c3 ⊢
  clear hd hon
  cases on
  · go_enter Try.func20, Try.ntmps20
    go_wp2_with fail
    go_ret2
    exact ⟨rfl, Below.refl _ _⟩
  · obtain ⟨u, hu⟩ : ∃ u, hasD d.n k = u := ⟨_, rfl⟩
    rw [hu]
    have HU := Lib.hid hu
    clear hu
    cases u
    · go_enter Try.func20, Try.ntmps20
      go_wp2_with fail
      refine (has_any _ g gm v cap B d k false HD.out HU.out).mono ?_
      rintro e w1 ⟨rfl, rfl⟩
      go_wp2_with fail
      go_ret2
      exact ⟨rfl, Below.refl _ _⟩
    · unfold readD
      obtain ⟨l, hl⟩ : ∃ l, d.waits = l := ⟨_, rfl⟩
      obtain ⟨p, c, hv⟩ := HD.out.2.2.1.form
      rw [hl] at hv hn ⊢
      subst hv
      have HL := Lib.hid hl
      clear hl
      have hw0 : IntKind.i64.wrap ((l.length : Int) - 1) = (l.length : Int) - 1 := IntWalk.i64_in _ (by omega)
      simp only [if_true]
      go_enter Try.func20, Try.ntmps20
      go_wp2_with fail
      refine (has_any _ g gm _ cap B d k true HD.out HU.out).mono ?_
      rintro e w1 ⟨rfl, rfl⟩
      go_wp2_with fail
      go_loop [6] (fun i => ∃ j : Nat, j ≤ l.length ∧ i = .int .i64 ((j : Int) - 1) ∧ ∀ q ∈ l.drop j, q.1 ≠ k) (fun i => ((intOf i) + 1).toNat)
      case atStart => exact ⟨l.length, Nat.le_refl _, rfl, by simp⟩
      case round =>
        obtain ⟨j, hj, rfl, hno⟩ := hrel
        cases j with
        | zero =>
          have hz : ((0 : Nat) : Int) - 1 = -1 := rfl
          rw [hz]
          have hno' := lastW_none l (by simpa using hno)
          have HN := Lib.hid hno'
          clear hno hno' hw0 hz
          go_wp2_with fail
          refine (safe_any _ g gm _ cap B d k HD.out hk).mono ?_
          rw [HU.out]
          rintro e w2 ⟨rfl, hb2⟩
          go_wp2_with fail
          go_ret2
          exact ⟨by rw [HN.out]; rfl, hb2⟩
        | succ m =>
          have hz : ((m + 1 : Nat) : Int) - 1 = (m : Int) := by omega
          rw [hz]
          rcases HD.out.2.2.1.read with ⟨-, h2⟩ | ⟨gv, c', heq, -, hgv, -, -, hcell⟩
          · rw [HL.out] at h2
            rw [h2] at hj
            simp at hj
          · rw [HL.out] at hcell
            obtain ⟨e1, e2⟩ := hcell m (by omega)
            injection heq with hp hp1 hp2
            clear hp1 hp2
            subst hp
            rw [Nat.mul_comm] at e1 e2
            obtain ⟨⟨x, t⟩, hx⟩ : ∃ q, l[m] = q := ⟨_, rfl⟩
            rw [hx] at e1 e2
            simp only [] at e1 e2
            have hw1 : IntKind.i64.wrap ((m : Int) - 1) = (m : Int) - 1 := IntWalk.i64_in _ (by omega)
            by_cases hxk : x = k
            · subst hxk
              have hat := lastW_at l m (by omega) (by rw [hx]) hno
              rw [hx] at hat
              have HA := Lib.hid hat
              clear hat hno hx hcell hw0
              go_wp2_with fail
              go_ret2
              exact ⟨by rw [HA.out]; rfl, Below.refl _ _⟩
            · have hno2 : ∀ q ∈ l.drop m, q.1 ≠ k := by
                rw [List.drop_eq_getElem_cons (by omega)]
                intro q hq
                rcases List.mem_cons.1 hq with rfl | hq
                · rw [hx]; exact hxk
                · exact hno q hq
              have HN := Lib.hid hno2
              clear hno hno2 hx hcell hw0
              go_wp2_with fail
              go_round
              case rel => exact ⟨m, by omega, rfl, HN.out⟩
              case measure => simp [intOf]
set_option maxHeartbeats 800000 in
theorem read_nil (w : World) (k : Int) :
    Calls Try.prog 20 #[.pointer none, .int .i64 k] w fun e w' => e = .returned (.tuple #[str [], .int .i64 1]) ∧ w = w' := by
  go_enter Try.func20, Try.ntmps20
  go_wp2_with fail
  go_ret2
  exact ⟨rfl, rfl⟩

def armD (d : Dev) (n : Int) : Dev := { d with armed := true, left := max n 0 }
set_option maxRecDepth 100000 in
set_option maxHeartbeats 800000 in
theorem arm_any (w : World) (g gm : Nat) (v : Value) (cap B : Nat) (d : Dev) (n : Int) (hd : IsDev w g gm v cap B d) :
    Calls Try.prog 26 #[.pointer (some ⟨g, 0, none⟩), .int .i64 n] w
      fun e w' => e = .returned (.tuple #[]) ∧ IsDev w' g gm v cap B (armD d n) ∧ Touch g gm w v w' v := by
  obtain ⟨m, safe, waits, on, armed, left, steps⟩ := d
  have HD := Lib.hid hd
  obtain ⟨c0, c1, c2, c3, c4, c5, c6⟩ := dev_cells hd
  have q4 := hd.1.frozen 4
  have q5 := hd.1.frozen 5
  clear hd
  simp only [] at c0 c1 c2 c3 c4 c5 c6
  unfold armD
  by_cases h0 : 0 ≤ n
  · have hm : max n 0 = n := by omega
    rw [hm]
    go_enter Try.func26, Try.ntmps26
    go_wp2_with fail
    go_end0
    obtain ⟨hd0, t0⟩ := IsDev.set (i := 4) (u := .bool true) (d' := ⟨m, safe, waits, on, true, left, steps⟩) HD.out rfl rfl rfl
    obtain ⟨hd1, t1⟩ := IsDev.set (i := 5) (u := .int .i64 (n)) (d' := ⟨m, safe, waits, on, true, n, steps⟩) hd0 rfl rfl rfl
    exact ⟨rfl, hd1, t0.trans t1⟩
  · have hm : max n 0 = 0 := by omega
    rw [hm]
    go_enter Try.func26, Try.ntmps26
    go_wp2_with fail
    go_end0
    obtain ⟨hd0, t0⟩ := IsDev.set (i := 4) (u := .bool true) (d' := ⟨m, safe, waits, on, true, left, steps⟩) HD.out rfl rfl rfl
    obtain ⟨hd1, t1⟩ := IsDev.set (i := 5) (u := .int .i64 (0)) (d' := ⟨m, safe, waits, on, true, 0, steps⟩) hd0 rfl rfl rfl
    exact ⟨rfl, hd1, t0.trans t1⟩
set_option maxHeartbeats 800000 in
theorem arm_nil (w : World) (k : Int) :
    Calls Try.prog 26 #[.pointer none, .int .i64 k] w fun e w' => e = .returned (.tuple #[]) ∧ w = w' := by
  go_enter Try.func26, Try.ntmps26
  go_wp2_with fail
  go_end0
  exact ⟨rfl, rfl⟩
end Go.Proofs.Ytiighehibiijcaa

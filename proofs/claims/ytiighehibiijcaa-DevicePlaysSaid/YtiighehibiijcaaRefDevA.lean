/-
  The document's device as memory holds it: the same plain device; what its step, Read and Arm do. No conditions beside those in each theorem.
-/
import Derived.Test.YtiighehibiijcaaDevPlain
import Derived.Test.YtiighehibiijcaaStrs
namespace Go.Proofs.Ytiighehibiijcaa
open Go.RowKit
set_option linter.unusedSimpArgs false
set_option linter.unnecessarySimpa false
set_option linter.unusedVariables false

/-- What is safe of each sector, in their order. -/
def safeL (d : Dev) : List (List UInt8) := (List.range d.n.toNat).map fun k : Nat => safeD d (k : Int)
theorem safeL_length (d : Dev) : (safeL d).length = d.n.toNat := by simp [safeL]
theorem safeL_at {d : Dev} {k : Nat} (h : k < (safeL d).length) : (safeL d)[k] = safeD d (k : Int) := by simp [safeL]
theorem safeL_same {d d' : Dev} (h : d'.safe = d.safe) (hn : d'.n = d.n) : safeL d' = safeL d := by
  unfold safeL
  rw [hn]
  refine List.map_congr_left fun k _ => safeD_same h _
theorem safeL_keep {d : Dev} {k : Nat} {s : List UInt8} (hk : k < (safeL d).length) : safeL (keepD d (k : Int) s) = (safeL d).set k s := by
  refine List.ext_getElem (by simp [safeL_length]; rfl) fun i h1 h2 => ?_
  rw [safeL_at h1, safeD_keep, List.getElem_set]
  by_cases e : k = i
  · rw [if_pos e, if_pos (by omega)]
  · rw [if_neg e, if_neg (by omega), safeL_at]
section
variable {w w' w2 : World} {B : Nat} {v : Value} {L : List (List UInt8)}
theorem OwnS.ne {g : Nat} {t : TypeId} {cs : Array Value} (h : OwnS w B v L) (hb : Blk w g t cs) (ht : t ≠ 9) : v.ownBlock ≠ some g := by
  rcases h.2 with ⟨h1, _⟩ | ⟨k, cap, cur, h1, h2, h3, _⟩
  · subst h1; simp [Value.ownBlock]
  · subst h1
    intro he
    have : k = g := by simpa [Value.ownBlock] using he
    subst this
    unfold Blk at hb
    rw [hb] at h3
    injection h3 with h3
    injection h3 with _ h4 _
    exact ht h4
theorem OwnS.own_lt (h : OwnS w B v L) {i : Nat} (hi : v.ownBlock = some i) : i < w.heap.size ∧ B ≤ i := by
  have := World.ownsRow.lt h i (by rw [hi])
  exact ⟨this.2, this.1⟩
theorem OwnS.apart {rv : Value} {M : List (Int × List UInt8)} (h : OwnS w B v L) (k : OwnW w B rv M) {i : Nat} (hi : v.ownBlock = some i) : rv.ownBlock ≠ some i := by
  rcases h.2 with ⟨h1, _⟩ | ⟨g, cap, cur, h1, h2, h3, _⟩
  · subst h1; simp [Value.ownBlock] at hi
  · subst h1
    have : g = i := by simpa [Value.ownBlock] using hi
    subst this
    exact k.ne (show Blk w g 9 cur from h3) (by decide)
theorem OwnS.len (h : OwnS w B v L) : ∃ p c, v = .slice p L.length c := by
  rcases h.read with ⟨rfl, rfl⟩ | ⟨g, cap, rfl, _⟩
  · exact ⟨_, _, rfl⟩
  · exact ⟨_, _, rfl⟩
end

/-- The document's device h: its row of sectors sv, what waits rv. -/
def IsRef (w : World) (h : Nat) (sv rv : Value) (B : Nat) (d : Dev) : Prop :=
  Blk w h 56 #[sv, rv, .bool d.on, .bool d.armed, .int .i64 d.left, .int .i64 d.steps] ∧ OwnS w B sv (safeL d) ∧ OwnW w B rv d.waits ∧ B ≤ h
/-- What a call on it may touch. -/
structure RTouch (h : Nat) (sv : Value) (w : World) (rv : Value) (w' : World) (rv' : Value) : Prop where
  os : w'.os = w.os
  tape : w'.tape = w.tape
  output : w'.output = w.output
  size : w.heap.size ≤ w'.heap.size
  block : ∀ i, i < w.heap.size → i ≠ h → sv.ownBlock ≠ some i → rv.ownBlock ≠ some i → w'.heap[i]? = w.heap[i]?
  own : ∀ i, rv'.ownBlock = some i → rv.ownBlock = some i ∨ w.heap.size ≤ i
section
variable {h : Nat} {w w' w2 : World} {sv rv rv' rv2 : Value} {B : Nat} {d : Dev}
theorem RTouch.refl (h : Nat) (sv : Value) (w : World) (rv : Value) : RTouch h sv w rv w rv := ⟨rfl, rfl, rfl, Nat.le_refl _, fun _ _ _ _ _ => rfl, fun _ h => .inl h⟩
theorem RTouch.trans (a : RTouch h sv w rv w' rv') (b : RTouch h sv w' rv' w2 rv2) : RTouch h sv w rv w2 rv2 where
  os := b.os.trans a.os
  tape := b.tape.trans a.tape
  output := b.output.trans a.output
  size := Nat.le_trans a.size b.size
  block := fun i hi h1 h2 h3 => (b.block i (Nat.lt_of_lt_of_le hi a.size) h1 h2 (fun e => (a.own i e).elim h3 (fun h4 => by omega))).trans (a.block i hi h1 h2 h3)
  own := fun i hi => (b.own i hi).elim (fun e => a.own i e) (fun h4 => .inr (Nat.le_trans a.size h4))
theorem RTouch.of_below (hb : Below w.heap.size w w') : RTouch h sv w rv w' rv := ⟨hb.os, hb.tape, hb.output, hb.size, fun i hi _ _ _ => hb.block i hi, fun _ h => .inl h⟩
theorem RTouch.of_grown {row : Option Nat} (hb : w.grownBy w' row) (hr : row = some h ∨ row = sv.ownBlock ∨ row = none) : RTouch h sv w rv w' rv :=
  ⟨hb.os, hb.tape, hb.output, hb.size, fun i hi h1 h2 _ => hb.block i hi (fun e => by rcases hr with r | r | r; exact h1 (by rw [← e] at r; injection r); exact h2 (r ▸ e.symm); rw [r] at e; cases e), fun _ h => .inl h⟩
theorem RTouch.of_own (hb : w.grownBy w' rv.ownBlock) (hv : ∀ i, rv'.ownBlock = some i → rv.ownBlock = some i ∨ w.heap.size ≤ i) : RTouch h sv w rv w' rv' :=
  ⟨hb.os, hb.tape, hb.output, hb.size, fun i hi _ _ h3 => hb.block i hi (fun e => h3 e.symm), hv⟩
theorem RTouch.to_nil (a : RTouch h sv w rv w' rv') : RTouch h sv w rv w' (.slice none 0 0) := ⟨a.os, a.tape, a.output, a.size, a.block, fun i hi => by simp [Value.ownBlock] at hi⟩
theorem RTouch.drew (a : RTouch h sv w rv w' rv') : RTouch h sv w rv w'.drew rv' := ⟨a.os, a.tape, a.output, a.size, a.block, a.own⟩
theorem IsRef.step (hd : IsRef w h sv rv B d) (hb : Below w.heap.size w w') : IsRef w' h sv rv B d := ⟨hd.1.step hb, hd.2.1.step hb, hd.2.2.1.step hb, hd.2.2.2⟩
theorem IsRef.drew (hd : IsRef w h sv rv B d) : IsRef w.drew h sv rv B d := hd
theorem IsRef.below {B0 : Nat} (hd : IsRef w h sv rv B d) (ht : RTouch h sv w rv w' rv') (hB : B0 ≤ B) (hw : B0 ≤ w.heap.size) : Below B0 w w' :=
  ⟨ht.os, ht.tape, ht.output, ht.size, fun i hi => ht.block i (by omega) (by have := hd.2.2.2; omega) (fun e => by have := (hd.2.1.own_lt e).2; omega) (fun e => by have := (hd.2.2.1.own_lt e).2; omega)⟩
theorem IsRef.keep {i : Nat} {t : TypeId} {cs : Array Value} (hd : IsRef w h sv rv B d) (ht : RTouch h sv w rv w' rv') (hb : Blk w i t cs) (h1 : t ≠ 56) (h2 : t ≠ 91) (h3 : t ≠ 9) : Blk w' i t cs := by
  refine (ht.block i hb.lt ?_ (hd.2.1.ne hb h3) (hd.2.2.1.ne hb h2)).trans hb
  rintro rfl
  exact blk_ne hb hd.1 h1 rfl
theorem ref_cells (hd : IsRef w h sv rv B d) : w.cell? ⟨h, 0, none⟩ = some sv ∧ w.cell? ⟨h, 1, none⟩ = some rv ∧ w.cell? ⟨h, 2, none⟩ = some (.bool d.on) ∧ w.cell? ⟨h, 3, none⟩ = some (.bool d.armed) ∧
    w.cell? ⟨h, 4, none⟩ = some (.int .i64 d.left) ∧ w.cell? ⟨h, 5, none⟩ = some (.int .i64 d.steps) := ⟨hd.1.cell 0, hd.1.cell 1, hd.1.cell 2, hd.1.cell 3, hd.1.cell 4, hd.1.cell 5⟩
/-- A store into a cell of it. -/
theorem IsRef.set {i : Nat} {u : Value} {d' : Dev} (hd : IsRef w h sv rv B d)
    (hc : (#[sv, rv, .bool d.on, .bool d.armed, .int .i64 d.left, .int .i64 d.steps] : Array Value).setIfInBounds i u = #[sv, rv, .bool d'.on, .bool d'.armed, .int .i64 d'.left, .int .i64 d'.steps])
    (hs : d'.safe = d.safe) (hn : d'.n = d.n) (hw : d'.waits = d.waits) : IsRef (w.setCell ⟨h, i, none⟩ u) h sv rv B d' ∧ RTouch h sv w rv (w.setCell ⟨h, i, none⟩ u) rv := by
  have hg := upd_set w h i u
  refine ⟨⟨?_, ?_, ?_, hd.2.2.2⟩, RTouch.of_grown hg (.inl rfl)⟩
  · rw [← hc]; exact hd.1.set_ i u
  · rw [safeL_same hs hn]; exact hd.2.1.grown hg (.inr (hd.2.1.ne hd.1 (by decide)))
  · rw [hw]; exact hd.2.2.1.grown hg (.inr (hd.2.2.1.ne hd.1 (by decide)))
/-- What waits was appended to (or laid down), and its field not yet set. -/
theorem IsRef.setWaits {L : List (Int × List UInt8)} (hb : Blk w h 56 #[sv, rv, .bool d.on, .bool d.armed, .int .i64 d.left, .int .i64 d.steps]) (hs : OwnS w B sv (safeL d)) (hw : OwnW w B rv2 L) (hB : B ≤ h) :
    IsRef (w.setCell ⟨h, 1, none⟩ rv2) h sv rv2 B { d with waits := L } := by
  have hg := upd_set w h 1 rv2
  exact ⟨hb.set_ 1 rv2, OwnS.grown (show OwnS w B sv (safeL { d with waits := L }) from hs) hg (.inr (hs.ne hb (by decide))), hw.grown hg (.inr (hw.ne hb (by decide))), hB⟩
end

set_option maxRecDepth 100000 in
set_option maxHeartbeats 1600000 in
theorem refStep_any (w : World) (h : Nat) (sv rv : Value) (B : Nat) (d : Dev) (hd : IsRef w h sv rv B d) (hok : OkD d) :
    Calls Try.prog 54 #[.pointer (some ⟨h, 0, none⟩)] w
      fun e w' => e = .returned (.int .i64 (if goesD d then 0 else 14)) ∧ IsRef w' h sv rv B (if goesD d then stepD d else { d with on := false }) ∧ RTouch h sv w rv w' rv := by
  obtain ⟨n, safe, waits, on, armed, left, steps⟩ := d
  have HD := Lib.hid hd
  obtain ⟨o1, o2, o3, o4, o5⟩ := hok
  simp only [] at o1 o2 o3 o4
  obtain ⟨c0, c1, c2, c3, c4, c5⟩ := ref_cells hd
  have f2 := hd.1.frozen 2
  have f4 := hd.1.frozen 4
  have f5 := hd.1.frozen 5
  simp only [] at c2 c3 c4 c5
  clear hd
  have e1 : IntKind.i64.wrap (steps + 1) = steps + 1 := IntWalk.i64_in _ (by omega)
  cases armed
  · go_enter Try.func54, Try.ntmps54
    go_wp2_with fail
    go_ret
    obtain ⟨h1, t1⟩ := IsRef.set (i := 5) (u := .int .i64 (steps + 1)) (d' := ⟨n, safe, waits, on, false, left, steps + 1⟩) HD.out rfl rfl rfl rfl
    exact ⟨rfl, h1, t1⟩
  · by_cases hl : left = 0
    · subst hl
      go_enter Try.func54, Try.ntmps54
      go_wp2_with fail
      go_ret
      obtain ⟨h1, t1⟩ := IsRef.set (i := 2) (u := .bool false) (d' := ⟨n, safe, waits, false, true, 0, steps⟩) HD.out rfl rfl rfl rfl
      exact ⟨rfl, h1, t1⟩
    · have hl' : (left == 0) = false := by simpa using hl
      have e2 : IntKind.i64.wrap (left - 1) = left - 1 := IntWalk.i64_in _ (by omega)
      have hg : goesD ⟨n, safe, waits, on, true, left, steps⟩ = true := by simp [goesD, hl]
      rw [hg]
      have HL := Lib.hid hl
      clear hl hg
      go_enter Try.func54, Try.ntmps54
      go_wp2_with fail
      go_ret
      obtain ⟨h1, t1⟩ := IsRef.set (i := 4) (u := .int .i64 (left - 1)) (d' := ⟨n, safe, waits, on, true, left - 1, steps⟩) HD.out rfl rfl rfl rfl
      obtain ⟨h2, t2⟩ := IsRef.set (i := 5) (u := .int .i64 (steps + 1)) (d' := ⟨n, safe, waits, on, true, left - 1, steps + 1⟩) h1 rfl rfl rfl rfl
      exact ⟨rfl, h2, t1.trans t2⟩
set_option maxRecDepth 100000 in
set_option maxHeartbeats 1600000 in
theorem refArm_any (w : World) (h : Nat) (sv rv : Value) (B : Nat) (d : Dev) (k : Int) (hd : IsRef w h sv rv B d) :
    Calls Try.prog 31 #[.pointer (some ⟨h, 0, none⟩), .int .i64 k] w
      fun e w' => e = .returned (.tuple #[]) ∧ IsRef w' h sv rv B (armD d k) ∧ RTouch h sv w rv w' rv := by
  obtain ⟨n, safe, waits, on, armed, left, steps⟩ := d
  have HD := Lib.hid hd
  obtain ⟨c0, c1, c2, c3, c4, c5⟩ := ref_cells hd
  have f3 := hd.1.frozen 3
  have f4 := hd.1.frozen 4
  simp only [] at c2 c3 c4 c5
  clear hd
  unfold armD
  by_cases h0 : 0 ≤ k
  · have hm : max k 0 = k := by omega
    have h0' : ¬ k < 0 := by omega
    rw [hm]
    go_enter Try.func31, Try.ntmps31
    go_wp2_with fail
    go_end0
    obtain ⟨h1, t1⟩ := IsRef.set (i := 3) (u := .bool true) (d' := ⟨n, safe, waits, on, true, left, steps⟩) HD.out rfl rfl rfl rfl
    obtain ⟨h2, t2⟩ := IsRef.set (i := 4) (u := .int .i64 k) (d' := ⟨n, safe, waits, on, true, k, steps⟩) h1 rfl rfl rfl rfl
    exact ⟨rfl, h2, t1.trans t2⟩
  · have hm : max k 0 = 0 := by omega
    have h0' : k < 0 := by omega
    rw [hm]
    clear h0
    go_enter Try.func31, Try.ntmps31
    go_wp2_with fail
    go_end0
    obtain ⟨h1, t1⟩ := IsRef.set (i := 3) (u := .bool true) (d' := ⟨n, safe, waits, on, true, left, steps⟩) HD.out rfl rfl rfl rfl
    obtain ⟨h2, t2⟩ := IsRef.set (i := 4) (u := .int .i64 k) (d' := ⟨n, safe, waits, on, true, k, steps⟩) h1 rfl rfl rfl rfl
    obtain ⟨h3, t3⟩ := IsRef.set (i := 4) (u := .int .i64 0) (d' := ⟨n, safe, waits, on, true, 0, steps⟩) h2 rfl rfl rfl rfl
    exact ⟨rfl, h3, (t1.trans t2).trans t3⟩

/-! Read. -/
theorem lastW_step {k : Int} {l : List (Int × List UInt8)} {i : Nat} (hi : i < l.length) : lastW k (l.take (i + 1)) = if l[i].1 = k then some l[i].2 else lastW k (l.take i) := by
  rw [List.take_succ_eq_append_getElem hi]
  exact lastW_push k l[i].1 l[i].2 (l.take i)
set_option maxRecDepth 100000 in
set_option maxHeartbeats 3200000 in
theorem refRead_any (w : World) (h : Nat) (sv rv : Value) (B : Nat) (d : Dev) (k : Int) (hd : IsRef w h sv rv B d) (hn0 : 0 ≤ d.n) (hn1 : d.n ≤ 4096) (hn : d.waits.length < 4611686018427) :
    Calls Try.prog 30 #[.pointer (some ⟨h, 0, none⟩), .int .i64 k] w
      fun e w' => e = .returned (.tuple #[str (readS d k), .int .i64 (readE d k)]) ∧ w = w' := by
  obtain ⟨c0, c1, c2, -⟩ := ref_cells hd
  have HD := Lib.hid hd
  obtain ⟨p, c, hsv⟩ := hd.2.1.len
  have hsl := safeL_length d
  unfold readS readE
  obtain ⟨on, hon⟩ : ∃ u, d.on = u := ⟨_, rfl⟩
  rw [hon] at c2 ⊢
  clear hd hon
  subst hsv
  have hlen : ((safeL d).length : Int) = d.n := by omega
  cases on
  · go_enter Try.func30, Try.ntmps30
    go_wp2_with fail
    go_ret2
    exact ⟨rfl, rfl⟩
  · by_cases h0 : 0 ≤ k
    · have h0' : ¬ k < 0 := by omega
      by_cases h1 : k < d.n
      · have hu : hasD d.n k = true := by simp [hasD, h0, h1]
        rw [hu]
        obtain ⟨q, rfl⟩ := Int.eq_ofNat_of_zero_le h0
        have h1' : ((q : Nat) : Int) < ((safeL d).length : Int) := by omega
        have h1'' : ¬ ((safeL d).length : Int) ≤ ((q : Nat) : Int) := by omega
        obtain ⟨g, cap, hp, -, -, -, -, hcell⟩ : ∃ g cap, p = some ⟨g, 0, none⟩ ∧ True ∧ True ∧ True ∧ True ∧ (∀ i (hi : i < (safeL d).length), w.cell? ⟨g, i, none⟩ = some (str (safeL d)[i])) := by
          rcases HD.out.2.1.read with ⟨h2, h3⟩ | ⟨g, cap, h2, -, -, -, -, h3⟩
          · rw [h3] at h1'; simp at h1'; omega
          · injection h2 with h2
            exact ⟨g, cap, h2, trivial, trivial, trivial, trivial, h3⟩
        subst hp
        have cs := hcell q (by omega)
        rw [safeL_at] at cs
        unfold readD
        obtain ⟨l, hl⟩ : ∃ l, d.waits = l := ⟨_, rfl⟩
        obtain ⟨pw, cw, hrv⟩ := HD.out.2.2.1.form
        rw [hl] at hrv hn ⊢
        subst hrv
        have HL := Lib.hid hl
        obtain ⟨S0, hS0⟩ : ∃ s, safeD d (q : Int) = s := ⟨_, rfl⟩
        rw [hS0] at cs ⊢
        simp only [if_true]
        clear hl hcell hlen hu h0 h1 hsl hS0
        go_enter Try.func30, Try.ntmps30
        go_wp2_with fail
        go_loop [6, 7] (fun s i => ∃ j : Nat, j ≤ l.length ∧ i = .int .i64 j ∧ s = str ((lastW (q : Int) (l.take j)).getD S0)) (fun _ i => l.length - (intOf i).toNat)
        case atStart => exact ⟨0, Nat.zero_le _, rfl, rfl⟩
        case round =>
          obtain ⟨j, hj, rfl, rfl⟩ := hrel
          by_cases hlt : j < l.length
          · have hji : (j : Int) < (l.length : Int) := by omega
            rcases HD.out.2.2.1.read with ⟨-, h2⟩ | ⟨gv, c', heq, -, hgv, -, -, hcell⟩
            · rw [HL.out] at h2
              rw [h2] at hlt
              simp at hlt
            · rw [HL.out] at hcell
              obtain ⟨e1, e2⟩ := hcell j hlt
              injection heq with hp hp1 hp2
              clear hp1 hp2
              subst hp
              rw [Nat.mul_comm] at e1 e2
              obtain ⟨⟨x, t⟩, hx⟩ : ∃ q, l[j] = q := ⟨_, rfl⟩
              rw [hx] at e1 e2
              simp only [] at e1 e2
              have hst := lastW_step (k := (q : Int)) hlt
              rw [hx] at hst
              simp only [] at hst
              have HST := Lib.hid hst
              clear hst hx hcell
              by_cases hxk : x = (q : Int)
              · subst hxk
                go_wp2_with fail
                go_round
                case rel => exact ⟨j + 1, by omega, by go_num, by rw [HST.out, if_pos rfl]; rfl⟩
                case measure => simp [intOf]; omega
              · have hxb : (x == (q : Int)) = false := by simpa using hxk
                have HXK := Lib.hid hxk
                clear hxk
                go_wp2_with fail
                go_round
                case rel => exact ⟨j + 1, by omega, by go_num, by rw [HST.out, if_neg HXK.out]⟩
                case measure => simp [intOf]; omega
          · obtain rfl : j = l.length := by omega
            rw [List.take_length]
            go_wp2_with fail
            go_ret2
            exact ⟨rfl, rfl⟩
      · have hu : hasD d.n k = false := by simp [hasD, h0, h1]
        rw [hu]
        have h1' : ((safeL d).length : Int) ≤ k := by omega
        clear hu
        go_enter Try.func30, Try.ntmps30
        go_wp2_with fail
        go_ret2
        exact ⟨rfl, rfl⟩
    · have hu : hasD d.n k = false := by simp [hasD, h0]
      rw [hu]
      have h0' : k < 0 := by omega
      clear hu
      go_enter Try.func30, Try.ntmps30
      go_wp2_with fail
      go_ret2
      exact ⟨rfl, rfl⟩
end Go.Proofs.Ytiighehibiijcaa

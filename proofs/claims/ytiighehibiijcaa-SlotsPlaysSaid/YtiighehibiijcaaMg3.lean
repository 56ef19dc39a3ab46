/-
  Rows of strings that a call has made itself: carried over calls, pushed onto, read. No conditions beside those in each theorem.
  What tlv.heads and tlv.Text return: the field of a text of at most 16777215 bytes. No conditions beside those in each theorem.
  What tlv.digits and tlv.Num return: a number below 2^64 as its bytes, and its field. No conditions beside those in each theorem.
  What the reference Text, digits and Num return: the same fields. No conditions beside those in each theorem.
  What check.Sum and its closure compute: the two halves of the sum, for any text within the reach. No conditions beside those in each theorem.
  What check.Put and the reference Put, record and Sum return, for a body of at most 2^20 bytes. No conditions beside those in each theorem.
  What the methods Good, fails, Next, Left, End and Text of tlv.Reader return, and how they leave the reader. For readers that are not nil, of texts within the reach.
  What (*tlv.Reader).Text returns, and how it leaves the reader. For readers that are not nil, of texts within the reach.
  What tlv.Read, (*tlv.Reader).Num and Int return, and how they leave the reader. For readers that are not nil, of texts within the reach.
  Plain laws of readers: what was written is read again; cut short it is not; what was read off was written so. No conditions beside those in each theorem.
  What check.Take returns, for any text within the reach.
  Plain laws of records: what was put is taken again; a byte turned, or cut short, it is not. No program in sight; no conditions beside those in each theorem.
  What check.All returns: the bodies taken off one by one, and how many bytes. For texts within the reach.
  What slots.Unpack and slots.Newest return. For sectors of any length within the reach.
  What slots.Newest returns.
-/
import Derived.Test.YtiighehibiijcaaMg2
import Derived.Laws.AppendOwn
import Derived.Lib.BufferRead
namespace Go.Proofs.Ytiighehibiijcaa
open Go.RowKit

theorem Try.infoStr : (Try.prog.info? 9).map (fun i => (i.zero, i.size, i.bytes)) = some (some (.string ByteArray.empty), 1, 16) := by kernel_rfl

/-- v is a row of the texts L, of the call's own (in a block from B on). -/
def OwnS (w : World) (B : Nat) (v : Value) (L : List (List UInt8)) : Prop := w.ownsRow B 9 1 v L.length (L.map str)
section
variable {w w' : World} {B : Nat} {v : Value} {L : List (List UInt8)}
theorem OwnS.none (w : World) (B : Nat) : OwnS w B (.slice none 0 0) [] := World.ownsRow_nil _ _ _ _
theorem OwnS.drew (h : OwnS w B v L) : OwnS w.drew B v L := h
theorem OwnS.alloc (h : OwnS w B v L) (o : Obj) : OwnS (w.alloc o) B v L := World.ownsRow.alloc h o
theorem OwnS.step (h : OwnS w B v L) (hb : Below w.heap.size w w') : OwnS w' B v L :=
  World.ownsRow.kept h (row := Option.none) ⟨hb.os, hb.tape, hb.output, hb.size, fun k hk _ => hb.block k hk⟩ (by
    rcases hv : v.ownBlock with _ | k
    · exact .inl rfl
    · exact .inr (by simp))
theorem OwnS.grown {row : Option Nat} (h : OwnS w B v L) (hg : w.grownBy w' row) (hne : v.ownBlock = Option.none ∨ v.ownBlock ≠ row) : OwnS w' B v L := World.ownsRow.kept h hg hne
theorem OwnS.weak {B' : Nat} (h : OwnS w B v L) (hB : B' ≤ B) : OwnS w B' v L := by
  refine ⟨h.1, ?_⟩
  rcases h.2 with h1 | ⟨g, cap, cur, h1, h2, h3⟩
  · exact .inl h1
  · exact .inr ⟨g, cap, cur, h1, Nat.le_trans hB h2, h3⟩
theorem OwnS.push {b : List UInt8} (h : w.ownsRow B 9 1 v (L.length + 1) (L.map str ++ [str b])) : OwnS w B v (L ++ [b]) := by
  unfold OwnS
  simpa only [List.map_append, List.map_cons, List.map_nil, List.length_append, List.length_cons, List.length_nil, Nat.zero_add] using h
theorem OwnS.read (h : OwnS w B v L) : (v = .slice Option.none 0 0 ∧ L = []) ∨
    ∃ g cap, v = .slice (some ⟨g, 0, Option.none⟩) L.length cap ∧ B ≤ g ∧ g < w.heap.size ∧ L.length ≤ cap ∧ cap ≤ maxLen ∧ (∀ i (h : i < L.length), w.cell? ⟨g, i, Option.none⟩ = some (str L[i])) := by
  rcases h.2 with ⟨h1, h2⟩ | ⟨g, cap, cur, h1, h2, h3, h4, h5, h6, h7⟩
  · exact .inl ⟨h1, List.eq_nil_of_length_eq_zero h2⟩
  · refine .inr ⟨g, cap, h1, h2, (Array.getElem?_eq_some_iff.1 h3).1, h4, h5, ?_⟩
    intro i hi
    rw [cell_of_row w g i cur 9 (0, 0) h3]
    have h8 : (cur.toList.take (L.length * 1))[i]? = (L.map str)[i]? := by rw [h7]
    rw [List.getElem?_take] at h8
    rw [if_pos (by omega)] at h8
    rw [← Array.getElem?_toList, h8]
    simp [hi]
theorem OwnS.fits (h : OwnS w B v L) : L.length ≤ maxLen := by
  rcases h.read with ⟨_, rfl⟩ | ⟨g, cap, _, _, _, h1, h2, _⟩
  · simp
  · omega
end

theorem take_all_eq (s t : List UInt8) : (str s = str t) ↔ s = t := by simp [str]

/-! Are two lists of texts the same? -/
def sameL : List (List UInt8) → List (List UInt8) → Bool
  | [], [] => true
  | a :: l, b :: m => a == b && sameL l m
  | _, _ => false
theorem sameL_refl : ∀ l, sameL l l = true := by
  intro l
  induction l with
  | nil => rfl
  | cons a l ih => simp [sameL, ih]
theorem sameL_eq : ∀ l m, sameL l m = true ↔ l = m := by
  intro l
  induction l with
  | nil => intro m; cases m <;> simp [sameL]
  | cons a l ih =>
    intro m
    cases m with
    | nil => simp [sameL]
    | cons b m => simp [sameL, ih]
end Go.Proofs.Ytiighehibiijcaa

namespace Go.Proofs.Ytiighehibiijcaa
open Go.RowKit

set_option maxHeartbeats 400000 in
theorem heads_any (c n : Int) (w : World) (h0 : 0 ≤ n) (h1 : n ≤ 16777215) :
    Calls Try.prog 87 #[.int .u8 c, .int .i64 n] w fun e w' => e = .returned (.agg #[.int .u8 c, .int .u8 (n / 65536 % 256), .int .u8 (n / 256 % 256), .int .u8 (n % 256)]) ∧ Below w.heap.size w w' := by
  have h2 : n / 65536 % 256 = n / 65536 := by omega
  have H2 := Lib.hid h2
  clear h2
  go_enter Try.func87, Try.ntmps87
  go_wp2
  rw [H2.out]
  go_returns
  exact ⟨rfl, by go_grown⟩

set_option maxHeartbeats 400000 in
theorem text_any (c : Int) (s : List UInt8) (w : World) (c0 : 0 ≤ c) (c1 : c ≤ 255) (hs : s.length ≤ 16777215) :
    Calls Try.prog 74 #[.int .u8 c, str s] w fun e w' => e = .returned (str (tText c s)) ∧ Below w.heap.size w w' := by
  go_enter Try.func74, Try.ntmps74
  go_wp2_with (go_at_call 87; refine (heads_any _ _ _ (by omega) (by omega)).mono ?_; rintro e w1 ⟨rfl, hb⟩; have kc := run_str_head (P := Try.prog) w1 40 9 5 26 c s.length c0 c1 Try.underlying40 Try.underlying5 Try.underlying9)
  go_ret
  exact ⟨rfl, hb.alloc hb.size _⟩
end Go.Proofs.Ytiighehibiijcaa

namespace Go.Proofs.Ytiighehibiijcaa
open Go.RowKit

theorem Try.infoU8 : (Try.prog.info? 5).map (fun i => (i.zero, i.size, i.bytes)) = some (some (.int .u8 0), 1, 1) := by kernel_rfl

/-- A number's bytes: of k bytes at most. -/
def digsF : Nat → Nat → List UInt8
  | 0, _ => []
  | k + 1, n => if n = 0 then [] else digsF k (n / 256) ++ [UInt8.ofNat (n % 256)]
def digs (n : Nat) : List UInt8 := digsF 8 n
theorem digsF_zero (k : Nat) : digsF k 0 = [] := by cases k <;> simp [digsF]
theorem digsF_enough : ∀ (k j n : Nat), n < 256 ^ k → k ≤ j → digsF j n = digsF k n := by
  intro k
  induction k with
  | zero => intro j n h _; simp at h; subst h; rw [digsF_zero, digsF_zero]
  | succ k ih =>
    intro j n h hj
    obtain ⟨j, rfl⟩ : ∃ i, j = i + 1 := ⟨j - 1, by omega⟩
    unfold digsF
    by_cases h0 : n = 0
    · simp [h0]
    · rw [if_neg h0, if_neg h0, ih j (n / 256) (by rw [Nat.pow_succ] at h; omega) (by omega)]
theorem digs_step (n : Nat) (h : n < 256 ^ 8) : digs n = if n = 0 then [] else digs (n / 256) ++ [UInt8.ofNat (n % 256)] := by
  have h8 : (256 : Nat) ^ 8 = 256 ^ 7 * 256 := rfl
  have : digsF 8 (n / 256) = digsF 7 (n / 256) := digsF_enough 7 8 (n / 256) (by rw [h8] at h; omega) (by omega)
  unfold digs
  rw [this]
  rfl
theorem digs_nil (n : Nat) (h : n < 256 ^ 8) : digs n = [] ↔ n = 0 := by
  rw [digs_step n h]
  by_cases h0 : n = 0 <;> simp [h0]
theorem digsF_length : ∀ (k n : Nat), (digsF k n).length ≤ k := by
  intro k
  induction k with
  | zero => intro n; simp [digsF]
  | succ k ih =>
    intro n
    unfold digsF
    split
    · simp
    · have := ih (n / 256); simp; omega
theorem digs_length (n : Nat) : (digs n).length ≤ 8 := digsF_length 8 n

/-- 'string(b)' of a row of bytes of the call's own. -/
theorem run_str_ownT {P : Program} {w : World} {src dst e : TypeId} {base : Nat} {v : Value} {n : Nat} {l : List UInt8} (hs : P.underlying src = some (.slice e)) (he : P.underlying e = some (.int .u8)) (hd : P.underlying dst = some .string)
    (hown : w.ownsRow base e 1 v n (Lib.byteCells l)) : (convert src dst v).run P w = .ok (.string ⟨l.toArray⟩) w := by
  have hl : l.length = n := by have := hown.1; simpa [Lib.byteCells] using this
  rcases hown.2 with ⟨rfl, h0⟩ | ⟨g, cap, cur, rfl, hb, hg, hn, hc, hcs, htk⟩
  · have : l = [] := by cases l with
      | nil => rfl
      | cons a l => simp at hl; omega
    subst this
    exact Lib.run_convert_nil_bytes w src dst e 0 hs he hd
  · subst hl
    exact run_convert_bytes_back w src dst e ⟨g, 0, none⟩ cap l hs he hd (Lib.bytes_of_row hg (by simpa using htk))

theorem digs_hit (n j : Nat) (hn : n < 256 ^ 8) (h : n / 256 ^ j ≠ 0) : digs (n / 256 ^ j) = digs (n / 256 ^ (j + 1)) ++ [UInt8.ofNat (n / 256 ^ j % 256)] := by
  have : n / 256 ^ j ≤ n := Nat.div_le_self _ _
  rw [digs_step _ (by omega), if_neg h, Nat.div_div_eq_div_mul, ← Nat.pow_succ]
theorem digs_miss (n j : Nat) (h : n / 256 ^ j = 0) : digs (n / 256 ^ j) = [] ∧ digs (n / 256 ^ (j + 1)) = [] := by
  have : n / 256 ^ (j + 1) = 0 := by rw [Nat.pow_succ, ← Nat.div_div_eq_div_mul, h]
  rw [h, this]
  exact ⟨digsF_zero 8, digsF_zero 8⟩
set_option maxRecDepth 10000 in
theorem shr_byte (n j : Nat) : ((n : Int) / 2 ^ (8 * j) % 256) = ((n / 256 ^ j % 256 : Nat) : Int) := by
  have e : (2 : Int) ^ (8 * j) = ((256 ^ j : Nat) : Int) := by
    rw [Int.pow_mul]
    norm_cast
  rw [e]
  norm_cast
set_option maxRecDepth 10000 in
theorem hit_cell (n j : Nat) : (n : Int) / 2 ^ (8 * j) % 256 = (((UInt8.ofNat (n / 256 ^ j % 256)).toNat : Nat) : Int) := by
  rw [shr_byte, UInt8.toNat_ofNat']
  omega

/-- A byte more. -/
theorem digits_push {w1 : World} {B : Nat} {v' : Value} {n j : Nat} (hn : n < 256 ^ 8) (h : n / 256 ^ j ≠ 0)
    (hown : w1.ownsRow B 5 1 v' ((digs (n / 256 ^ (j + 1))).length + 1) (Lib.byteCells (digs (n / 256 ^ (j + 1))) ++ [.int .u8 ((n : Int) / 2 ^ (8 * j) % 256)])) :
    w1.ownsRow B 5 1 v' (digs (n / 256 ^ j)).length (Lib.byteCells (digs (n / 256 ^ j))) := by
  rw [hit_cell] at hown
  rw [digs_hit n j hn h]
  simpa only [Lib.byteCells, List.map_append, List.map_cons, List.map_nil, List.length_append, List.length_cons, List.length_nil, Nat.zero_add] using hown

theorem digits_keep {n j : Nat} (hn : n < 256 ^ 8) (hz : (n : Int) / 2 ^ (8 * j) % 256 = 0) (hd : (digs (n / 256 ^ (j + 1))).length = 0) : digs (n / 256 ^ j) = [] ∧ digs (n / 256 ^ (j + 1)) = [] := by
  have h1 : n / 256 ^ (j + 1) = 0 := (digs_nil _ (Nat.lt_of_le_of_lt (Nat.div_le_self _ _) hn)).1 (List.eq_nil_of_length_eq_zero hd)
  rw [shr_byte] at hz
  rw [Nat.pow_succ, ← Nat.div_div_eq_div_mul] at h1
  exact digs_miss n j (by omega)
theorem digits_hot {n j : Nat} (hz : ¬ (n : Int) / 2 ^ (8 * j) % 256 = 0) : n / 256 ^ j ≠ 0 := by
  rw [shr_byte] at hz
  omega
theorem digits_hot2 {n j : Nat} (hd : 0 < (digs (n / 256 ^ (j + 1))).length) : n / 256 ^ j ≠ 0 := by
  intro h
  rw [(digs_miss n j h).2] at hd
  simp at hd

set_option maxRecDepth 100000 in
set_option maxHeartbeats 400000 in
theorem digits_any (n : Nat) (w : World) (hn : n < 256 ^ 8) :
    Calls Try.prog 88 #[.int .u64 n] w fun e w' => e = .returned (str (digs n)) ∧ Below w.heap.size w w' := by
  obtain ⟨i0, hi, hz0, hz1, hz2⟩ := info_parts Try.infoU8
  have Hn := Lib.hid hn
  clear hn
  go_enter Try.func88, Try.ntmps88
  go_wp2
  go_loopw [3, 4] (fun b s wr => ∃ k : Nat, k ≤ 8 ∧ s = .int .i64 (8 * (k : Int) - 8) ∧ wr.ownsRow w.heap.size 5 1 b (digs (n / 256 ^ k)).length (Lib.byteCells (digs (n / 256 ^ k))) ∧ Below w.heap.size w wr)
    (fun _ s _ => (intOf s + 8).toNat)
  case atStart => exact ⟨8, Nat.le_refl _, rfl, by rw [show n / 256 ^ 8 = 0 from Nat.div_eq_of_lt Hn.out]; exact World.ownsRow_nil _ _ _ _, Below.refl _ _⟩
  case round =>
    obtain ⟨k, hk, rfl, hown, hnx⟩ := hrel
    rcases Nat.eq_zero_or_pos k with h0 | h0
    · subst h0
      rw [Nat.pow_zero, Nat.div_one] at hown
      have kc := run_str_ownT (P := Try.prog) (w := wr) (v := u3) (src := 40) (dst := 9) Try.underlying40 Try.underlying5 Try.underlying9 hown
      go_wp2
      go_ret
      exact ⟨rfl, hnx⟩
    · obtain ⟨j, rfl⟩ : ∃ j, k = j + 1 := ⟨k - 1, by omega⟩
      have Hown := Lib.hid hown
      have hsz := hnx.size
      have hlen := digs_length (n / 256 ^ (j + 1))
      have e8 : (8 * ((j + 1 : Nat) : Int) - 8) = 8 * (j : Int) := by omega
      by_cases hz : (n : Int) / 2 ^ (8 * j) % 256 = 0
      · rcases hown.2 with ⟨rfl, hd⟩ | ⟨g, cap, cur, rfl, hg1, hg2, hg3, hg4, hg5, hg6⟩
        · have Hd := Lib.hid hd
          clear hown hd hlen
          rw [e8]
          clear e8
          go_wp2
          go_roundw
          case rel =>
            have hk := digits_keep Hn.out hz Hd.out
            have ho := Hown.out
            rw [hk.2] at ho
            exact ⟨j, by omega, rfl, by rw [hk.1]; exact ho, hnx⟩
          case measure => simp [intOf]; omega
        · by_cases hpos : 0 < (digs (n / 256 ^ (j + 1))).length
          · clear hown
            rw [e8]
            clear e8
            go_wp2_with (at_builtin; refine wpList_append_own _ rfl _ _ 40 rfl w.heap.size 5 i0 (.int .u8 0) 1 1 Try.underlying40 hi hz0 hz1 hz2 rfl (by decide) _ _ _ rfl (Hown.out.alloc _) ⟨wr.heap.size, 0, none⟩ 1 1 [.int .u8 0] rfl rfl (cell_one_new _ _ _) (by simp [Value.oneCell']) (by unfold maxLen; omega) (by omega) (by simp; omega) ?_; intro v' w1 hown' hgrow _)
            go_roundw
            case rel => exact ⟨j, by omega, rfl, digits_push Hn.out (digits_hot2 hpos) (by rw [hz]; exact hown'), (hnx.alloc hsz _).grown hgrow (by simp; omega) (fun k hk => (Hown.out.lt k hk).1)⟩
            case measure => simp [intOf]; omega
          · have h0 : (digs (n / 256 ^ (j + 1))).length = 0 := by omega
            have H0 := Lib.hid h0
            clear hown h0
            rw [e8]
            clear e8
            go_wp2
            go_roundw
            case rel =>
              have hk := digits_keep Hn.out hz H0.out
              have ho := Hown.out
              rw [hk.2] at ho
              exact ⟨j, by omega, rfl, by rw [hk.1, hk.2]; exact ho, hnx⟩
            case measure => simp [intOf]; omega
      · have Hz := Lib.hid hz
        clear hown
        rw [e8]
        clear e8
        go_wp2_with (at_builtin; refine wpList_append_own _ rfl _ _ 40 rfl w.heap.size 5 i0 (.int .u8 0) 1 1 Try.underlying40 hi hz0 hz1 hz2 rfl (by decide) _ _ _ rfl (Hown.out.alloc _) ⟨wr.heap.size, 0, none⟩ 1 1 [.int .u8 ((n : Int) / 2 ^ (8 * j) % 256)] rfl rfl (cell_one_new _ _ _) (by simp [Value.oneCell']) (by unfold maxLen; omega) (by omega) (by simp; omega) ?_; intro v' w1 hown' hgrow _)
        go_roundw
        case rel => exact ⟨j, by omega, rfl, digits_push Hn.out (digits_hot Hz.out) hown', (hnx.alloc hsz _).grown hgrow (by simp; omega) (fun k hk => (Hown.out.lt k hk).1)⟩
        case measure => simp [intOf]; omega
/-- A number's field. -/
def tNum (c : Int) (n : Nat) : List UInt8 := tText c (digs n)
theorem tNum_length (c : Int) (n : Nat) : (tNum c n).length = 4 + (digs n).length := tText_length _ _
theorem tNum_le (c : Int) (n : Nat) : (tNum c n).length ≤ 12 := by have := digs_length n; rw [tNum_length]; omega

set_option maxHeartbeats 400000 in
theorem num_any (c : Int) (n : Nat) (w : World) (c0 : 0 ≤ c) (c1 : c ≤ 255) (hn : n < 256 ^ 8) :
    Calls Try.prog 75 #[.int .u8 c, .int .u64 n] w fun e w' => e = .returned (str (tNum c n)) ∧ Below w.heap.size w w' := by
  have Hn := Lib.hid hn
  clear hn
  go_enter Try.func75, Try.ntmps75
  go_wp2_with fail
  refine (digits_any n _ Hn.out).mono ?_
  rintro e w1 ⟨rfl, hb1⟩
  go_wp2_with fail
  refine (text_any c (digs n) _ c0 c1 (by have := digs_length n; omega)).mono ?_
  rintro e w2 ⟨rfl, hb2⟩
  go_wp2
  go_ret
  exact ⟨rfl, hb1.trans (hb2.mono hb1.size)⟩
end Go.Proofs.Ytiighehibiijcaa

namespace Go.Proofs.Ytiighehibiijcaa
open Go.RowKit

set_option maxRecDepth 100000 in
set_option maxHeartbeats 400000 in
theorem refText_any (c : Int) (s : List UInt8) (w : World) (c0 : 0 ≤ c) (c1 : c ≤ 255) (hs : s.length ≤ 16777215) :
    Calls Try.prog 92 #[.int .u8 c, str s] w fun e w' => e = .returned (str (tText c s)) ∧ Below w.heap.size w w' := by
  have kc := run_str_head (P := Try.prog) w 40 9 5 5 c s.length c0 c1 Try.underlying40 Try.underlying5 Try.underlying9
  have h2 : (s.length : Int) / 65536 % 256 = s.length / 65536 := by omega
  rw [h2] at kc
  clear h2
  go_enter Try.func92, Try.ntmps92
  go_wp2
  go_ret
  exact ⟨rfl, (Below.refl _ _).alloc (Nat.le_refl _) _⟩

theorem run_str_one {P : Program} (w : World) (src dst e t : TypeId) (n : Int) (n0 : 0 ≤ n) (n1 : n ≤ 255)
    (hs : P.underlying src = some (.slice e)) (he : P.underlying e = some (.int .u8)) (hd : P.underlying dst = some .string) :
    (convert src dst (.slice (some ⟨w.heap.size, 0, none⟩) 1 1)).run P (w.alloc (.cells #[.int .u8 n] t)) = .ok (.string ⟨[byt n].toArray⟩) (w.alloc (.cells #[.int .u8 n] t)) :=
  run_str_new (P := P) w src dst e t [n] 1 1 rfl (by simp; omega) hs he hd

theorem byt_ofNat (n : Nat) : byt ((n : Int) % 256) = UInt8.ofNat (n % 256) := by unfold byt; rw [show ((n : Int) % 256).toNat = n % 256 by omega]

set_option maxRecDepth 100000 in
set_option maxHeartbeats 400000 in
theorem refDigits_any (n : Nat) (w : World) (hn : n < 256 ^ 8) :
    Calls Try.prog 98 #[.int .u64 n] w fun e w' => e = .returned (str (digs n)) ∧ Below w.heap.size w w' := by
  have Hn := Lib.hid hn
  clear hn
  go_enter Try.func98, Try.ntmps98
  go_wp2
  go_loopw [0, 3] (fun a b wr => ∃ (m : Nat) (t : List UInt8), a = .int .u64 m ∧ b = str t ∧ digs m ++ t = digs n ∧ m ≤ n ∧ t.length ≤ 8 ∧ Below w.heap.size w wr)
    (fun a _ _ => (intOf a).toNat)
  case atStart => exact ⟨n, [], rfl, rfl, by simp, Nat.le_refl _, by simp, Below.refl _ _⟩
  case round =>
    obtain ⟨m, t, rfl, rfl, hd, hm, ht, hnx⟩ := hrel
    have Hd := Lib.hid hd
    clear hd
    by_cases h0 : m = 0
    · subst h0
      go_wp2
      go_ret
      exact ⟨by have := Hd.out; rw [show digs 0 = [] from digsF_zero 8] at this; rw [← this]; rfl, hnx⟩
    · have hp : 0 < m := by omega
      have hm64 : (m : Int) ≤ 18446744073709551615 := by have := Hn.out; omega
      have Hstep := Lib.hid (digs_step m (Nat.lt_of_le_of_lt hm Hn.out))
      have kc := run_str_one (P := Try.prog) wr 40 9 5 5 (m % 256) (by omega) (by omega) Try.underlying40 Try.underlying5 Try.underlying9
      have H0 := Lib.hid h0
      clear h0
      go_wp2
      go_roundw
      case rel =>
        have e := Hstep.out
        rw [if_neg H0.out] at e
        have hd := Hd.out
        have hl := digs_length n
        rw [← hd, e] at hl
        simp at hl
        exact ⟨m / 256, byt (m % 256) :: t, by go_num, rfl, by rw [← hd, e, byt_ofNat]; simp, by omega, by simp; omega, hnx.alloc hnx.size _⟩
      case measure => simp [intOf]; omega

set_option maxHeartbeats 400000 in
theorem refNum_any (c : Int) (n : Nat) (w : World) (c0 : 0 ≤ c) (c1 : c ≤ 255) (hn : n < 256 ^ 8) :
    Calls Try.prog 93 #[.int .u8 c, .int .u64 n] w fun e w' => e = .returned (str (tNum c n)) ∧ Below w.heap.size w w' := by
  have Hn := Lib.hid hn
  clear hn
  go_enter Try.func93, Try.ntmps93
  go_wp2_with fail
  refine (refDigits_any n _ Hn.out).mono ?_
  rintro e w1 ⟨rfl, hb1⟩
  go_wp2_with fail
  refine (refText_any c (digs n) _ c0 c1 (by have := digs_length n; omega)).mono ?_
  rintro e w2 ⟨rfl, hb2⟩
  go_wp2
  go_ret
  exact ⟨rfl, hb1.trans (hb2.mono hb1.size)⟩
end Go.Proofs.Ytiighehibiijcaa

namespace Go.Proofs.Ytiighehibiijcaa
open Go.RowKit

/-- One byte more in a sum's two halves. -/
def addOn (p : Int × Int) (c : UInt8) : Int × Int := ((p.1 + c.toNat) % 65521, (p.2 + (p.1 + c.toNat)) % 65521)
def halves (l : List UInt8) : Int × Int := l.foldl addOn (1, 0)
theorem halves_nil : halves [] = (1, 0) := rfl
theorem halves_snoc (l : List UInt8) (c : UInt8) : halves (l ++ [c]) = addOn (halves l) c := by simp [halves, List.foldl_append]
theorem addOn_bounds (p : Int × Int) (c : UInt8) : 0 ≤ (addOn p c).1 ∧ (addOn p c).1 ≤ 65520 ∧ 0 ≤ (addOn p c).2 ∧ (addOn p c).2 ≤ 65520 := by unfold addOn; simp only; omega
theorem halves_bounds (l : List UInt8) : 0 ≤ (halves l).1 ∧ (halves l).1 ≤ 65520 ∧ 0 ≤ (halves l).2 ∧ (halves l).2 ≤ 65520 := by
  rcases List.eq_nil_or_concat l with rfl | ⟨l, c, rfl⟩
  · rw [halves_nil]; decide
  · rw [List.concat_eq_append, halves_snoc]; exact addOn_bounds _ _
/-- A text's sum. -/
def sumN (l : List UInt8) : Int := (halves l).2 * 65536 + (halves l).1
theorem sumN_bounds (l : List UInt8) : 0 ≤ sumN l ∧ sumN l ≤ 4294967295 := by have := halves_bounds l; unfold sumN; omega

theorem or_low (i a b : Nat) (h : b < 2 ^ i) : a * 2 ^ i ||| b = a * 2 ^ i + b := by
  rw [Nat.mul_comm, Nat.two_pow_add_eq_or_of_lt h]
theorem or_sum (a b : Int) (a0 : 0 ≤ a) (a1 : a ≤ 65535) (b0 : 0 ≤ b) (b1 : b ≤ 65535) : bits BinOp.or IntKind.u32 (a * 65536) b = a * 65536 + b := by
  obtain ⟨a, rfl⟩ := Int.eq_ofNat_of_zero_le a0
  obtain ⟨b, rfl⟩ := Int.eq_ofNat_of_zero_le b0
  have h := u32_or_nat (a * 65536) b (by omega) (by omega)
  rw [show a * 65536 ||| b = a * 65536 + b from or_low 16 a b (by omega)] at h
  rw [show ((a : Int) * 65536) = ((a * 65536 : Nat) : Int) by omega, h]
  omega

set_option maxHeartbeats 400000 in
theorem sum1_any (c : UInt8) (a b : Int) (ga gb : Nat) (w : World) (a0 : 0 ≤ a) (a1 : a ≤ 65520) (b0 : 0 ≤ b) (b1 : b ≤ 65520)
    (hA : w.heap[ga]? = some (.cells #[.int .u32 a] 118 (0, 0))) (hB : w.heap[gb]? = some (.cells #[.int .u32 b] 118 (0, 0))) (hne : ga ≠ gb) :
    Calls Try.prog 89 #[.int .u8 c.toNat, .pointer (some ⟨ga, 0, none⟩), .pointer (some ⟨gb, 0, none⟩)] w fun e w' =>
      e = .returned (.tuple #[]) ∧ (w.setCell ⟨ga, 0, none⟩ (.int .u32 (addOn (a, b) c).1)).setCell ⟨gb, 0, none⟩ (.int .u32 (addOn (a, b) c).2) = w' := by
  have hc : (c.toNat : Int) < 256 := by have := c.toNat_lt; omega
  have cA := cell_of_one hA
  have cB := cell_of_one hB
  have fA := free_of_one hA
  have fB := free_of_one hB
  have hne' : gb ≠ ga := fun h => hne h.symm
  clear hA hB
  go_enter Try.func89, Try.ntmps89
  go_wp2
  go_end0
  exact ⟨rfl, rfl⟩

theorem take_snoc (l : List UInt8) (k : Nat) (h : k < l.length) : l.take (k + 1) = l.take k ++ [l[k]] := by
  rw [List.take_succ_eq_append_getElem h]

theorem heap_new_at {w : World} {n : Nat} (h : n = w.heap.size) (o : Obj) : (w.alloc o).heap[n]? = some o := by subst h; exact heap_alloc_new _ _

set_option maxHeartbeats 400000 in
theorem sum_any (l : List UInt8) (w : World) (hl : l.length ≤ 140737488351232) :
    Calls Try.prog 76 #[str l] w fun e w' => e = .returned (.int .u32 (sumN l)) ∧ Below w.heap.size w w' := by
  go_enter Try.func76, Try.ntmps76
  go_wp2
  go_loopw [10] (fun i wr => ∃ k : Nat, k ≤ l.length ∧ i = .int .i64 k ∧ wr.heap[w.heap.size]? = some (.cells #[.int .u32 (halves (l.take k)).1] 118 (0, 0)) ∧
      wr.heap[w.heap.size + 1]? = some (.cells #[.int .u32 (halves (l.take k)).2] 118 (0, 0)) ∧ Below w.heap.size w wr)
    (fun i _ => l.length - (intOf i).toNat)
  case atStart =>
    refine ⟨0, Nat.zero_le _, rfl, ?_, ?_, ((Below.refl _ _).alloc (Nat.le_refl _) _).alloc (by simp) _⟩
    · rw [Below.heap_alloc _ _ _ (by simp)]
      exact heap_alloc_new _ _
    · exact heap_new_at (by simp) _
  case round =>
    obtain ⟨k, hk, rfl, hA, hB, hnx⟩ := hrel
    have hb := halves_bounds (l.take k)
    by_cases hlt : k < l.length
    · have hts := take_snoc l k hlt
      have Hts := Lib.hid hts
      clear hts
      have HA := Lib.hid hA
      have HB := Lib.hid hB
      clear hA hB
      go_wp2_with (go_at_call 89; refine (sum1_any l[k] _ _ w.heap.size (w.heap.size + 1) wr hb.1 hb.2.1 hb.2.2.1 hb.2.2.2 HA.out HB.out (by omega)).mono ?_; rintro e w1 ⟨rfl, rfl⟩)
      go_roundw
      case rel =>
        refine ⟨k + 1, by omega, by go_num, ?_, ?_, (hnx.setCell (Nat.le_refl _) _).setCell (Nat.le_succ _) _⟩
        · rw [Below.heap_setCell _ _ _ _ (by simp), Hts.out, halves_snoc]
          exact one_setCell HA.out
        · rw [Hts.out, halves_snoc]
          exact one_setCell (b := w.heap.size + 1) ((Below.heap_setCell wr ⟨w.heap.size, 0, none⟩ _ (w.heap.size + 1) (by simp)).trans HB.out)
      case measure => simp [intOf]; omega
    · obtain rfl : k = l.length := by omega
      rw [List.take_length] at hA hB hb
      have cA := cell_of_one hA
      have cB := cell_of_one hB
      clear hA hB
      go_wp2
      go_ret
      exact ⟨by unfold sumN; rw [← or_sum _ _ hb.2.2.1 (by omega) hb.1 (by omega)]; rfl, hnx⟩
end Go.Proofs.Ytiighehibiijcaa

namespace Go.Proofs.Ytiighehibiijcaa
open Go.RowKit

theorem addOn_snd (p : Int × Int) (c : UInt8) : (addOn p c).2 = (p.2 + (p.1 + c.toNat) % 65521) % 65521 := by unfold addOn; simp

set_option maxHeartbeats 400000 in
theorem refSum_any (l : List UInt8) (w : World) (hl : l.length ≤ 140737488351232) :
    Calls Try.prog 94 #[str l] w fun e w' => e = .returned (.int .u32 (sumN l)) ∧ w = w' := by
  go_enter Try.func94, Try.ntmps94
  go_wp2
  go_loop [3, 4, 5] (fun a b i => ∃ k : Nat, k ≤ l.length ∧ i = .int .i64 k ∧ a = .int .u32 (halves (l.take k)).1 ∧ b = .int .u32 (halves (l.take k)).2)
    (fun _ _ i => l.length - (intOf i).toNat)
  case atStart => exact ⟨0, Nat.zero_le _, rfl, rfl, rfl⟩
  case round =>
    obtain ⟨k, hk, rfl, rfl, rfl⟩ := hrel
    have hb := halves_bounds (l.take k)
    by_cases hlt : k < l.length
    · have hts := take_snoc l k hlt
      have Hts := Lib.hid hts
      clear hts
      have hc : (l[k].toNat : Int) < 256 := by have := l[k].toNat_lt; omega
      go_wp2
      go_round
      case rel => exact ⟨k + 1, by omega, by go_num, by rw [Hts.out, halves_snoc]; rfl, by rw [Hts.out, halves_snoc, addOn_snd]⟩
      case measure => simp [intOf]; omega
    · obtain rfl : k = l.length := by omega
      rw [List.take_length] at *
      go_wp2
      go_ret
      exact ⟨rfl, rfl⟩

/-- A record. -/
def tRec (s : List UInt8) : List UInt8 := tText 82 s ++ tNum 83 (sumN (tText 82 s)).toNat
theorem sum_toNat (l : List UInt8) : ((sumN l).toNat : Int) = sumN l := by have := sumN_bounds l; omega
theorem sum_lt (l : List UInt8) : (sumN l).toNat < 256 ^ 8 := by have := sumN_bounds l; omega

set_option maxHeartbeats 400000 in
theorem refRecord_any (s : List UInt8) (w : World) (hs : s.length ≤ 16777215) :
    Calls Try.prog 79 #[str s] w fun e w' => e = .returned (str (tRec s)) ∧ Below w.heap.size w w' := by
  have hl := tText_length 82 s
  have Hl := Lib.hid hl
  clear hl
  have hn := tNum_le 83 (sumN (tText 82 s)).toNat
  have hb := sumN_bounds (tText 82 s)
  go_enter Try.func79, Try.ntmps79
  go_wp2_with fail
  refine (refText_any 82 s _ (by decide) (by decide) hs).mono ?_
  rintro e w1 ⟨rfl, hb1⟩
  go_wp2_with fail
  refine (refSum_any (tText 82 s) _ (by rw [Hl.out]; omega)).mono ?_
  rintro e w2 ⟨rfl, rfl⟩
  go_wp2_with fail
  rw [← sum_toNat]
  refine (refNum_any 83 (sumN (tText 82 s)).toNat _ (by decide) (by decide) (sum_lt _)).mono ?_
  rintro e w2 ⟨rfl, hb2⟩
  go_wp2
  go_ret
  exact ⟨rfl, hb1.trans (hb2.mono hb1.size)⟩

set_option maxHeartbeats 400000 in
theorem refPut_any (s : List UInt8) (w : World) (hs : s.length ≤ 1048576) :
    Calls Try.prog 70 #[str s] w fun e w' => e = .returned (.tuple #[str (tRec s), .int .i64 0]) ∧ Below w.heap.size w w' := by
  go_enter Try.func70, Try.ntmps70
  go_wp2_with fail
  refine (refRecord_any s _ (by omega)).mono ?_
  rintro e w1 ⟨rfl, hb1⟩
  go_wp2
  go_ret2
  exact ⟨rfl, hb1⟩

set_option maxHeartbeats 400000 in
theorem ckPut_any (s : List UInt8) (w : World) (hs : s.length ≤ 1048576) :
    Calls Try.prog 62 #[str s] w fun e w' => e = .returned (.tuple #[str (tRec s), .int .i64 0]) ∧ Below w.heap.size w w' := by
  have hl := tText_length 82 s
  have Hl := Lib.hid hl
  clear hl
  have hn := tNum_le 83 (sumN (tText 82 s)).toNat
  have hb := sumN_bounds (tText 82 s)
  go_enter Try.func62, Try.ntmps62
  go_wp2_with fail
  refine (text_any 82 s _ (by decide) (by decide) (by omega)).mono ?_
  rintro e w1 ⟨rfl, hb1⟩
  go_wp2_with fail
  refine (sum_any (tText 82 s) _ (by rw [Hl.out]; omega)).mono ?_
  rintro e w2 ⟨rfl, hb2⟩
  go_wp2_with fail
  rw [← sum_toNat]
  refine (num_any 83 (sumN (tText 82 s)).toNat _ (by decide) (by decide) (sum_lt _)).mono ?_
  rintro e w3 ⟨rfl, hb3⟩
  go_wp2
  go_ret2
  exact ⟨rfl, (hb1.trans (hb2.mono hb1.size)).trans (hb3.mono (Nat.le_trans hb1.size hb2.size))⟩
end Go.Proofs.Ytiighehibiijcaa

namespace Go.Proofs.Ytiighehibiijcaa
open Go.RowKit

/-- A reader: what is left, and whether it is bad. -/
abbrev Rd := List UInt8 × Bool
/-- The reader behind address g is r. -/
def IsRd (w : World) (g : Nat) (r : Rd) : Prop := Blk w g 136 #[str r.1, .bool r.2]
theorem rd_cells {w : World} {g : Nat} {s : List UInt8} {b : Bool} (h : IsRd w g (s, b)) : w.cell? ⟨g, 0, none⟩ = some (str s) ∧ w.cell? ⟨g, 1, none⟩ = some (.bool b) ∧ w.frozen? ⟨g, 0, none⟩ = false ∧ w.frozen? ⟨g, 1, none⟩ = false :=
  ⟨Blk.cell h 0, Blk.cell h 1, Blk.frozen h 0, Blk.frozen h 1⟩

set_option maxHeartbeats 400000 in
theorem good_any (s : List UInt8) (b : Bool) (g : Nat) (w : World) (h : IsRd w g (s, b)) :
    Calls Try.prog 86 #[.pointer (some ⟨g, 0, none⟩)] w fun e w' => e = .returned (.bool !b) ∧ w = w' := by
  obtain ⟨c0, c1, f0, f1⟩ := rd_cells h
  clear h
  go_enter Try.func86, Try.ntmps86
  go_wp2
  go_ret
  exact ⟨by simp, rfl⟩

set_option maxHeartbeats 400000 in
theorem fails_any (s : List UInt8) (b : Bool) (g : Nat) (w : World) (h : IsRd w g (s, b)) :
    Calls Try.prog 96 #[.pointer (some ⟨g, 0, none⟩)] w fun e w' => e = .returned (.tuple #[]) ∧ IsRd w' g (s, true) ∧ w.grownBy w' (some g) := by
  obtain ⟨c0, c1, f0, f1⟩ := rd_cells h
  have H := Lib.hid h
  clear h
  go_enter Try.func96, Try.ntmps96
  go_wp2
  go_end0
  exact ⟨rfl, Blk.set_ H.out 1 _, upd_set w g 1 _⟩

/-- What stands next. -/
def rNext (r : Rd) : Int × Bool := if r.2 = true ∨ r.1 = [] then (0, false) else (((r.1.headD 0).toNat : Int), true)

set_option maxHeartbeats 800000 in
theorem next_no (s : List UInt8) (b : Bool) (g : Nat) (w : World) (h : IsRd w g (s, b)) (hb : b = true ∨ s = []) :
    Calls Try.prog 95 #[.pointer (some ⟨g, 0, none⟩)] w fun e w' => e = .returned (.tuple #[.int .u8 0, .bool false]) ∧ w = w' := by
  have H := Lib.hid h
  obtain ⟨c0, c1, f0, f1⟩ := rd_cells h
  clear h
  cases b
  · obtain rfl : s = [] := by simpa using hb
    clear hb
    go_enter Try.func95, Try.ntmps95
    go_wp2_with fail
    refine (good_any [] false g _ H.out).mono ?_
    rintro e w1 ⟨rfl, rfl⟩
    go_wp2
    go_ret2
    exact ⟨rfl, rfl⟩
  · clear hb
    go_enter Try.func95, Try.ntmps95
    go_wp2_with fail
    refine (good_any s true g _ H.out).mono ?_
    rintro e w1 ⟨rfl, rfl⟩
    go_wp2
    go_ret2
    exact ⟨rfl, rfl⟩

set_option maxHeartbeats 800000 in
theorem next_yes (x : UInt8) (s : List UInt8) (g : Nat) (w : World) (h : IsRd w g (x :: s, false)) :
    Calls Try.prog 95 #[.pointer (some ⟨g, 0, none⟩)] w fun e w' => e = .returned (.tuple #[.int .u8 x.toNat, .bool true]) ∧ w = w' := by
  have H := Lib.hid h
  obtain ⟨c0, c1, f0, f1⟩ := rd_cells h
  clear h
  go_enter Try.func95, Try.ntmps95
  go_wp2_with fail
  refine (good_any (x :: s) false g _ H.out).mono ?_
  rintro e w1 ⟨rfl, rfl⟩
  go_wp2
  go_ret2
  exact ⟨rfl, rfl⟩

set_option maxHeartbeats 800000 in
theorem left_any (s : List UInt8) (b : Bool) (g : Nat) (w : World) (h : IsRd w g (s, b)) :
    Calls Try.prog 84 #[.pointer (some ⟨g, 0, none⟩)] w fun e w' => e = .returned (.int .i64 (if b = true then 0 else s.length)) ∧ w = w' := by
  have H := Lib.hid h
  obtain ⟨c0, c1, f0, f1⟩ := rd_cells h
  clear h
  cases b
  all_goals
    go_enter Try.func84, Try.ntmps84
    go_wp2_with fail
    refine (good_any s _ g _ H.out).mono ?_
    rintro e w1 ⟨rfl, rfl⟩
    go_wp2
    go_ret
    exact ⟨rfl, rfl⟩
end Go.Proofs.Ytiighehibiijcaa

namespace Go.Proofs.Ytiighehibiijcaa
open Go.RowKit

/-- The number of the bytes 1, 2 and 3. -/
def n3 (x y z : UInt8) : Int := (x.toNat * 256 + y.toNat) * 256 + z.toNat
/-- A body, taken off. -/
def rText (c most : Int) (r : Rd) : List UInt8 × Rd :=
  match r with
  | (a :: x :: y :: z :: s, false) => if (a.toNat : Int) = c ∧ n3 x y z ≤ most ∧ n3 x y z ≤ s.length then (s.take (n3 x y z).toNat, s.drop (n3 x y z).toNat, false) else ([], a :: x :: y :: z :: s, true)
  | (s, _) => ([], s, true)

theorem i64_or8 (x y : Int) (hx : 0 ≤ x) (hx' : x ≤ 16777215) (hy : 0 ≤ y) (hy' : y ≤ 255) : bits BinOp.or IntKind.i64 (x * 256) y = x * 256 + y := by
  obtain ⟨x, rfl⟩ := Int.eq_ofNat_of_zero_le hx
  obtain ⟨y, rfl⟩ := Int.eq_ofNat_of_zero_le hy
  have hxn : x ≤ 16777215 := by omega
  have hyn : y ≤ 255 := by omega
  have e1 : ((x : Int) * 256) = ((x * 256 : Nat) : Int) := by omega
  have hk : (BitVec.ofInt 64 ((x * 256 : Nat) : Int) ||| BitVec.ofInt 64 (y : Int)).toNat = x * 256 + y := by
    rw [BitVec.toNat_or, BitVec.toNat_ofInt, BitVec.toNat_ofInt]
    have a1 : (((x * 256 : Nat) : Int) % ((2 ^ 64 : Nat) : Int)).toNat = x * 256 := by omega
    have a2 : ((y : Int) % ((2 ^ 64 : Nat) : Int)).toNat = y := by omega
    rw [a1, a2]
    have := Nat.two_pow_add_eq_or_of_lt (b := y) (i := 8) (by omega) x
    rw [Nat.mul_comm]
    exact this.symm
  rw [e1]
  show IntKind.i64.wrap ((BitVec.ofInt 64 ((x * 256 : Nat) : Int) ||| BitVec.ofInt 64 (y : Int)).toNat : Nat) = _
  rw [hk, IntKind.wrap_i64]
  omega

theorem bytes3 (w : World) (s : List UInt8) (c j : Nat) (h : j < s.length) :
    (w.alloc (.cells (bytesRow ⟨s.toArray⟩ c) 5 ((bytesRow ⟨s.toArray⟩ c).size, (bytesRow ⟨s.toArray⟩ c).size + 1))).cell? ⟨w.heap.size, j, none⟩ = some (.int .u8 (s[j].toNat : Int)) := by
  rw [World.cell?_alloc_mark, bytesRow_at ⟨s.toArray⟩ c j (by simpa using h)]
  simp

theorem take_four (s : List UInt8) (N : Nat) : List.take (4 + N - 4) s = List.take N s := by rw [show 4 + N - 4 = N by omega]
theorem take_cut (a x y z : UInt8) (s : List UInt8) (N : Nat) : List.take (s.length + 1 + 1 + 1 + 1 - (4 + N)) (List.drop (4 + N) (a :: x :: y :: z :: s)) = List.drop N s := by
  rw [show 4 + N = N + 1 + 1 + 1 + 1 by omega]
  simp only [List.drop_succ_cons]
  rw [List.take_of_length_le]
  rw [List.length_drop]
  omega

set_option maxRecDepth 100000 in
set_option maxHeartbeats 1600000 in
theorem readText_bad (s : List UInt8) (b : Bool) (c most : Int) (g : Nat) (w : World) (h : IsRd w g (s, b)) (c0 : 0 ≤ c) (c1 : c ≤ 255)
    (hb : b = true ∨ s = [] ∨ ∃ a r, s = a :: r ∧ ((a.toNat : Int) ≠ c ∨ r.length < 3)) :
    Calls Try.prog 83 #[.pointer (some ⟨g, 0, none⟩), .int .u8 c, .int .i64 most] w fun e w' => e = .returned (str []) ∧ IsRd w' g (s, true) ∧ w.grownBy w' (some g) := by
  have H := Lib.hid h
  obtain ⟨d0, d1, f0, f1⟩ := rd_cells h
  clear h
  by_cases hn : b = true ∨ s = []
  · have Hn := Lib.hid hn
    clear hb hn
    go_enter Try.func83, Try.ntmps83
    go_wp2_with fail
    refine (next_no s b g _ H.out Hn.out).mono ?_
    rintro e w1 ⟨rfl, rfl⟩
    go_wp2_with fail
    refine (fails_any s b g _ H.out).mono ?_
    rintro e w1 ⟨rfl, hr, hu⟩
    go_wp2
    go_ret
    exact ⟨rfl, hr, hu⟩
  · have hb' : b = false := by simpa using fun h => hn (.inl h)
    subst hb'
    obtain ⟨a, r, rfl, ha⟩ : ∃ a r, s = a :: r ∧ ((a.toNat : Int) ≠ c ∨ r.length < 3) := by
      rcases hb with h | h | h
      · cases h
      · exact absurd (.inr h) hn
      · exact h
    clear hn hb
    by_cases hac : (a.toNat : Int) = c
    · have hr3 : r.length < 3 := by
        rcases ha with h | h
        · exact absurd hac h
        · exact h
      clear ha
      subst hac
      go_enter Try.func83, Try.ntmps83
      go_wp2_with fail
      refine (next_yes a r g _ H.out).mono ?_
      rintro e w1 ⟨rfl, rfl⟩
      go_wp2_with fail
      refine (fails_any (a :: r) false g _ H.out).mono ?_
      rintro e w1 ⟨rfl, hr, hu⟩
      go_wp2
      go_ret
      exact ⟨rfl, hr, hu⟩
    · clear ha
      go_enter Try.func83, Try.ntmps83
      go_wp2_with fail
      refine (next_yes a r g _ H.out).mono ?_
      rintro e w1 ⟨rfl, rfl⟩
      go_wp2_with fail
      refine (fails_any (a :: r) false g _ H.out).mono ?_
      rintro e w1 ⟨rfl, hr, hu⟩
      go_wp2
      go_ret
      exact ⟨rfl, hr, hu⟩

set_option maxRecDepth 100000 in
set_option maxHeartbeats 1600000 in
theorem readText_long (a x y z : UInt8) (s : List UInt8) (most : Int) (g : Nat) (w : World) (h : IsRd w g (a :: x :: y :: z :: s, false)) (hs : s.length ≤ 140737488351232) (hm : most ≤ 9223372036854775807) :
    Calls Try.prog 83 #[.pointer (some ⟨g, 0, none⟩), .int .u8 a.toNat, .int .i64 most] w fun e w' =>
      ∃ t r, rText a.toNat most (a :: x :: y :: z :: s, false) = (t, r) ∧ e = .returned (str t) ∧ IsRd w' g r ∧ w.grownBy w' (some g) := by
  have H := Lib.hid h
  obtain ⟨d0, d1, f0, f1⟩ := rd_cells h
  have hlt := Blk.lt h
  clear h
  have hx : (x.toNat : Int) < 256 := by have := x.toNat_lt; omega
  have hy : (y.toNat : Int) < 256 := by have := y.toNat_lt; omega
  have hz : (z.toNat : Int) < 256 := by have := z.toNat_lt; omega
  have kb := run_bytes_of_string (P := Try.prog) w 9 40 5 ⟨[x, y, z].toArray⟩ Try.underlying9 Try.underlying40 Try.underlying5
  have e0 := bytes3 w [x, y, z] (grownCap w 3 0 5) 0 (by simp)
  have e1 := bytes3 w [x, y, z] (grownCap w 3 0 5) 1 (by simp)
  have e2 := bytes3 w [x, y, z] (grownCap w 3 0 5) 2 (by simp)
  simp only [List.getElem_cons_zero, List.getElem_cons_succ] at e0 e1 e2
  go_enter Try.func83, Try.ntmps83
  go_wp2_with fail
  refine (next_yes a _ g _ H.out).mono ?_
  rintro e w1 ⟨rfl, rfl⟩
  go_wp2_with fail
  have k0 : bits BinOp.or IntKind.i64 0 x.toNat = x.toNat := by have := i64_or8 0 x.toNat (by omega) (by omega) (by omega) (by omega); simpa using this
  have k1 : bits BinOp.or IntKind.i64 ((x.toNat : Int) * 256) y.toNat = x.toNat * 256 + y.toNat := i64_or8 _ _ (by omega) (by omega) (by omega) (by omega)
  have k2 : bits BinOp.or IntKind.i64 (((x.toNat : Int) * 256 + y.toNat) * 256) z.toNat = (x.toNat * 256 + y.toNat) * 256 + z.toNat := i64_or8 _ _ (by omega) (by omega) (by omega) (by omega)
  clear kb
  by_cases hok : n3 x y z ≤ most ∧ n3 x y z ≤ s.length
  · have hok1 : ((x.toNat : Int) * 256 + y.toNat) * 256 + z.toNat ≤ most := hok.1
    have hok2 : ((x.toNat : Int) * 256 + y.toNat) * 256 + z.toNat ≤ s.length := hok.2
    have Hok := Lib.hid hok
    clear hok
    refine wp_loop_rounds 4 ?_
    rw [rounds_succ]
    go_wp2
    rw [rounds_succ]
    go_wp2
    rw [rounds_succ]
    go_wp2
    rw [rounds_succ]
    go_wp2
    go_ret
    refine ⟨_, (_, false), ?_, rfl, ((Blk.set_ H.out 0 _).alloc _).drew, upd_drew (upd_alloc (upd_set w g 0 _) _)⟩
    have hN : (n3 x y z).toNat = (x.toNat * 256 + y.toNat) * 256 + z.toNat := by unfold n3; omega
    unfold rText
    simp only []
    rw [if_pos ⟨trivial, Hok.out⟩, hN, take_four, take_cut]
  · have hcase : most < ((x.toNat : Int) * 256 + y.toNat) * 256 + z.toNat ∨ (((x.toNat : Int) * 256 + y.toNat) * 256 + z.toNat ≤ most ∧ (s.length : Int) < ((x.toNat : Int) * 256 + y.toNat) * 256 + z.toNat) := by
      unfold n3 at hok
      omega
    have Hok := Lib.hid hok
    clear hok
    rcases hcase with h1 | ⟨h1, h2⟩
    all_goals
      refine wp_loop_rounds 4 ?_
      rw [rounds_succ]
      go_wp2
      rw [rounds_succ]
      go_wp2
      rw [rounds_succ]
      go_wp2
      rw [rounds_succ]
      go_wp2_with fail
      refine (fails_any (a :: x :: y :: z :: s) false g _ (Blk.drew (Blk.alloc H.out _))).mono ?_
      rintro e w1 ⟨rfl, hr, hu⟩
      go_wp2
      go_ret
      refine ⟨[], (a :: x :: y :: z :: s, true), ?_, rfl, hr, upd_trans (upd_drew (upd_alloc (World.grownBy.refl w _) _)) hu⟩
      unfold rText
      simp only []
      rw [if_neg (fun h => Hok.out h.2)]

/-- Whatever the reader: what Text returns. -/
theorem readText_any (s : List UInt8) (b : Bool) (c most : Int) (g : Nat) (w : World) (h : IsRd w g (s, b)) (c0 : 0 ≤ c) (c1 : c ≤ 255) (hs : s.length ≤ 140737488351232) (hm : most ≤ 9223372036854775807)
    (t : List UInt8) (s' : List UInt8) (b' : Bool) (hr : rText c most (s, b) = (t, s', b')) :
    Calls Try.prog 83 #[.pointer (some ⟨g, 0, none⟩), .int .u8 c, .int .i64 most] w fun e w' => e = .returned (str t) ∧ IsRd w' g (s', b') ∧ w.grownBy w' (some g) := by
  by_cases hb : b = true ∨ s = [] ∨ ∃ a r, s = a :: r ∧ ((a.toNat : Int) ≠ c ∨ r.length < 3)
  · have hn : rText c most (s, b) = ([], s, true) := by
      unfold rText
      split
      · rename_i a x y z r hh
        injection hh with h1 h2
        subst h1 h2
        rw [if_neg]
        rintro ⟨k1, k2, k3⟩
        rcases hb with hb | hb | ⟨a', r', hb, hb'⟩
        · cases hb
        · cases hb
        · injection hb with e1 e2
          subst e1 e2
          rcases hb' with hb' | hb'
          · exact hb' k1
          · simp at hb'; omega
      · rename_i hh
        injection hh with h1 h2
        subst h1
        rfl
    rw [hn] at hr
    injection hr with e1 e2
    injection e2 with e2 e3
    subst e1 e2 e3
    exact readText_bad s b c most g w h c0 c1 hb
  · have hb1 : b = false := by simpa using fun h => hb (.inl h)
    subst hb1
    match s, hs, h, hr, hb with
    | [], _, _, _, hb => exact absurd (.inr (.inl rfl)) hb
    | [a], _, _, _, hb => exact absurd (.inr (.inr ⟨a, [], rfl, .inr (by simp)⟩)) hb
    | [a, x], _, _, _, hb => exact absurd (.inr (.inr ⟨a, [x], rfl, .inr (by simp)⟩)) hb
    | [a, x, y], _, _, _, hb => exact absurd (.inr (.inr ⟨a, [x, y], rfl, .inr (by simp)⟩)) hb
    | a :: x :: y :: z :: s, hs, h, hr, hb =>
      have hac : (a.toNat : Int) = c := by
        apply Classical.byContradiction
        intro hne
        exact hb (.inr (.inr ⟨a, _, rfl, .inl hne⟩))
      subst hac
      refine (readText_long a x y z s most g w h (by simp at hs; omega) hm).mono ?_
      rintro e w' ⟨t', r', h1, h2, h3, h4⟩
      rw [hr] at h1
      injection h1 with e1 e2
      subst e1 e2
      exact ⟨h2, h3, h4⟩
end Go.Proofs.Ytiighehibiijcaa

namespace Go.Proofs.Ytiighehibiijcaa
open Go.RowKit

/-- The number of bytes. -/
def val (l : List UInt8) : Nat := l.foldl (fun n b => n * 256 + b.toNat) 0
theorem val_snoc (l : List UInt8) (b : UInt8) : val (l ++ [b]) = val l * 256 + b.toNat := by simp [val, List.foldl_append]
theorem val_lt : ∀ (k : Nat) (l : List UInt8), l.length = k → val l < 256 ^ k := by
  intro k
  induction k with
  | zero => intro l h; have := List.eq_nil_of_length_eq_zero h; subst this; simp [val]
  | succ k ih =>
    intro l h
    rcases List.eq_nil_or_concat l with rfl | ⟨l, b, rfl⟩
    · simp at h
    · rw [List.concat_eq_append] at h ⊢
      rw [val_snoc, Nat.pow_succ]
      have h1 := ih l (by simpa using h)
      have h2 := b.toNat_lt
      omega
theorem rText_le {c most : Int} {r r' : Rd} {t : List UInt8} (h : rText c most r = (t, r')) (hm : 0 ≤ most) : (t.length : Int) ≤ most := by
  unfold rText at h
  split at h
  · rename_i a x y z s
    split at h
    · rename_i hh
      injection h with h1 h2
      subst h1
      have := List.length_take_le (n3 x y z).toNat s
      have h0 : 0 ≤ n3 x y z := by unfold n3; omega
      omega
    · injection h with h1 h2; subst h1; simpa using hm
  · injection h with h1 h2; subst h1; simpa using hm
theorem rText_left_le {c most : Int} {r r' : Rd} {t : List UInt8} (h : rText c most r = (t, r')) : r'.1.length ≤ r.1.length := by
  unfold rText at h
  split at h
  · split at h
    · injection h with h1 h2; subst h2; simp; omega
    · injection h with h1 h2; subst h2; simp
  · injection h with h1 h2; subst h2; simp

/-- A number, taken off. -/
def rNum (c : Int) (r : Rd) : Nat × Rd :=
  match rText c 8 r with
  | ([], r') => (0, r')
  | (b :: t, s', b') => if b = 0 then (0, s', true) else (val (b :: t), s', b')

theorem u64_or8 (x : Nat) (y : UInt8) (hx : x < 256 ^ 7) : bits BinOp.or IntKind.u64 ((x : Int) * 256) (y.toNat : Int) = ((x * 256 + y.toNat : Nat) : Int) := by
  have hy := y.toNat_lt
  have h7 : (256 : Nat) ^ 7 = 72057594037927936 := rfl
  have h := u64_or_nat (x * 256) y.toNat (by omega) (by omega)
  rw [show x * 256 ||| y.toNat = x * 256 + y.toNat from by
    have := Nat.two_pow_add_eq_or_of_lt (b := y.toNat) (i := 8) (by omega) x
    rw [Nat.mul_comm]
    exact this.symm] at h
  rw [show ((x : Int) * 256) = ((x * 256 : Nat) : Int) by omega, h]

set_option maxHeartbeats 400000 in
theorem rdNew_any (s : List UInt8) (w : World) :
    Calls Try.prog 82 #[str s] w fun e w' => e = .returned (.pointer (some ⟨w.heap.size, 0, none⟩)) ∧ w.alloc (.cells #[str s, .bool false] 136) = w' := by
  go_enter Try.func82, Try.ntmps82
  go_wp2
  go_ret
  exact ⟨rfl, rfl⟩
theorem read_isRd (s : List UInt8) (w : World) : IsRd (w.alloc (.cells #[str s, .bool false] 136)) w.heap.size (s, false) := Blk.new w _ _

set_option maxRecDepth 100000 in
set_option maxHeartbeats 1600000 in
theorem readNum_any (s : List UInt8) (b : Bool) (c : Int) (g : Nat) (w : World) (h : IsRd w g (s, b)) (c0 : 0 ≤ c) (c1 : c ≤ 255) (hs : s.length ≤ 140737488351232)
    (n : Nat) (s' : List UInt8) (b' : Bool) (hr : rNum c (s, b) = (n, s', b')) :
    Calls Try.prog 97 #[.pointer (some ⟨g, 0, none⟩), .int .u8 c] w fun e w' => e = .returned (.int .u64 n) ∧ IsRd w' g (s', b') ∧ w.grownBy w' (some g) := by
  obtain ⟨⟨t, s1, b1⟩, ht⟩ : ∃ q, rText c 8 (s, b) = q := ⟨_, rfl⟩
  have hl := rText_le ht (by decide)
  have Ht := Lib.hid ht
  have H := Lib.hid h
  rw [rNum, ht] at hr
  have Hr := Lib.hid hr
  clear ht hr h
  go_enter Try.func97, Try.ntmps97
  go_wp2_with fail
  refine (readText_any s b c 8 g _ H.out c0 c1 hs (by decide) t s1 b1 Ht.out).mono ?_
  rintro e w1 ⟨rfl, hr1, hu1⟩
  have Hr1 := Lib.hid hr1
  clear hr1
  go_wp2_with fail
  go_loop [6, 13] (fun a i => ∃ k : Nat, k ≤ t.length ∧ i = .int .i64 k ∧ a = .int .u64 (val (t.take k) : Nat)) (fun _ i => t.length - (intOf i).toNat)
  case atStart => exact ⟨0, Nat.zero_le _, rfl, rfl⟩
  case round =>
    obtain ⟨k, hk, rfl, rfl⟩ := hrel
    by_cases hlt : k < t.length
    · have hv : val (t.take k) < 256 ^ 7 := Nat.lt_of_lt_of_le (val_lt k _ (by simp; omega)) (Nat.pow_le_pow_right (by decide) (by omega))
      have hvi : ((val (t.take k) : Nat) : Int) ≤ 72057594037927935 := by have h7 : (256 : Nat) ^ 7 = 72057594037927936 := rfl; omega
      have hor := u64_or8 (val (t.take k)) t[k] hv
      have hts : t.take (k + 1) = t.take k ++ [t[k]] := by rw [List.take_succ_eq_append_getElem hlt]
      have Hts := Lib.hid hts
      have hb8 : (t[k].toNat : Int) < 256 := by have := t[k].toNat_lt; omega
      clear hv hts
      go_wp2
      go_round
      case rel => exact ⟨k + 1, by omega, by go_num, by rw [Hts.out, val_snoc]; go_num⟩
      case measure => simp [intOf]; omega
    · obtain rfl : k = t.length := by omega
      rw [List.take_length]
      cases t with
      | nil =>
        have hr := Hr.out
        simp only [Prod.mk.injEq] at hr
        obtain ⟨rfl, rfl, rfl⟩ := hr
        go_wp2
        go_ret
        exact ⟨rfl, Hr1.out, hu1⟩
      | cons x t =>
        by_cases hx : (x.toNat : Int) = 0
        · have hr := Hr.out
          simp only [] at hr
          rw [if_pos (UInt8.toNat_inj.1 (by simpa using hx))] at hr
          simp only [Prod.mk.injEq] at hr
          obtain ⟨rfl, rfl, rfl⟩ := hr
          go_wp2_with fail
          refine (fails_any s1 b1 g _ Hr1.out).mono ?_
          rintro e w2 ⟨rfl, hr2, hu2⟩
          go_wp2
          go_ret
          exact ⟨rfl, hr2, upd_trans hu1 hu2⟩
        · have hr := Hr.out
          simp only [] at hr
          rw [if_neg (fun h => hx (by rw [h]; rfl))] at hr
          simp only [Prod.mk.injEq] at hr
          obtain ⟨rfl, rfl, rfl⟩ := hr
          go_wp2
          go_ret
          exact ⟨rfl, Hr1.out, hu1⟩

theorem rNum_lt {c : Int} {r r' : Rd} {n : Nat} (h : rNum c r = (n, r')) : n < 256 ^ 8 := by
  unfold rNum at h
  split at h
  · injection h with h1 h2; subst h1; decide
  · rename_i b t s' b' hh
    have hl := rText_le hh (by decide)
    split at h
    · injection h with h1 h2; subst h1; decide
    · injection h with h1 h2
      subst h1
      exact Nat.lt_of_lt_of_le (val_lt (b :: t).length _ rfl) (Nat.pow_le_pow_right (by decide) (by omega))
/-- An int that is not above another one, taken off. -/
def rInt (c most : Int) (r : Rd) : Int × Rd :=
  let (n, r') := rNum c r
  if most < 0 ∨ most < (n : Int) then (0, r'.1, true) else ((n : Int), r')

set_option maxRecDepth 100000 in
set_option maxHeartbeats 1600000 in
theorem readInt_any (s : List UInt8) (b : Bool) (c most : Int) (g : Nat) (w : World) (h : IsRd w g (s, b)) (c0 : 0 ≤ c) (c1 : c ≤ 255) (hs : s.length ≤ 140737488351232) (hm : most ≤ 9223372036854775807)
    (n : Int) (s' : List UInt8) (b' : Bool) (hr : rInt c most (s, b) = (n, s', b')) :
    Calls Try.prog 85 #[.pointer (some ⟨g, 0, none⟩), .int .u8 c, .int .i64 most] w fun e w' => e = .returned (.int .i64 n) ∧ IsRd w' g (s', b') ∧ w.grownBy w' (some g) := by
  obtain ⟨⟨m, s1, b1⟩, ht⟩ : ∃ q, rNum c (s, b) = q := ⟨_, rfl⟩
  have hl := rNum_lt ht
  have hl' : (m : Int) ≤ 18446744073709551615 := by have h8 : (256 : Nat) ^ 8 = 18446744073709551616 := rfl; omega
  have Ht := Lib.hid ht
  have H := Lib.hid h
  rw [rInt, ht] at hr
  simp only [] at hr
  clear ht h hl
  by_cases h1 : most < 0
  · rw [if_pos (.inl h1)] at hr
    simp only [Prod.mk.injEq] at hr
    obtain ⟨rfl, rfl, rfl⟩ := hr
    go_enter Try.func85, Try.ntmps85
    go_wp2_with fail
    refine (readNum_any s b c g _ H.out c0 c1 hs m s1 b1 Ht.out).mono ?_
    rintro e w1 ⟨rfl, hr1, hu1⟩
    go_wp2_with fail
    refine (fails_any s1 b1 g _ hr1).mono ?_
    rintro e w2 ⟨rfl, hr2, hu2⟩
    go_wp2
    go_ret
    exact ⟨rfl, hr2, upd_trans hu1 hu2⟩
  · have h0 : 0 ≤ most := by omega
    by_cases h2 : most < (m : Int)
    · rw [if_pos (.inr h2)] at hr
      simp only [Prod.mk.injEq] at hr
      obtain ⟨rfl, rfl, rfl⟩ := hr
      go_enter Try.func85, Try.ntmps85
      go_wp2_with fail
      refine (readNum_any s b c g _ H.out c0 c1 hs m s1 b1 Ht.out).mono ?_
      rintro e w1 ⟨rfl, hr1, hu1⟩
      go_wp2_with fail
      refine (fails_any s1 b1 g _ hr1).mono ?_
      rintro e w2 ⟨rfl, hr2, hu2⟩
      go_wp2
      go_ret
      exact ⟨rfl, hr2, upd_trans hu1 hu2⟩
    · rw [if_neg (by omega)] at hr
      simp only [Prod.mk.injEq] at hr
      obtain ⟨rfl, rfl, rfl⟩ := hr
      go_enter Try.func85, Try.ntmps85
      go_wp2_with fail
      refine (readNum_any s b c g _ H.out c0 c1 hs m s1 b1 Ht.out).mono ?_
      rintro e w1 ⟨rfl, hr1, hu1⟩
      go_wp2
      go_ret
      exact ⟨rfl, hr1, hu1⟩
theorem rNum_left_le {c : Int} {r r' : Rd} {n : Nat} (h : rNum c r = (n, r')) : r'.1.length ≤ r.1.length := by
  unfold rNum at h
  split at h
  · rename_i hh
    injection h with h1 h2; subst h2; exact rText_left_le hh
  · rename_i hh
    have := rText_left_le hh
    split at h <;> (injection h with h1 h2; subst h2; exact this)
theorem rInt_left_le {c most : Int} {r r' : Rd} {n : Int} (h : rInt c most r = (n, r')) : r'.1.length ≤ r.1.length := by
  obtain ⟨⟨m, r1⟩, ht⟩ : ∃ q, rNum c r = q := ⟨_, rfl⟩
  have := rNum_left_le ht
  rw [rInt, ht] at h
  simp only [] at h
  split at h <;> (injection h with h1 h2; subst h2; exact this)
end Go.Proofs.Ytiighehibiijcaa

namespace Go.Proofs.Ytiighehibiijcaa
open Go.RowKit

theorem val_digsF : ∀ (k n : Nat), n < 256 ^ k → val (digsF k n) = n := by
  intro k
  induction k with
  | zero => intro n h; simp at h; subst h; rfl
  | succ k ih =>
    intro n h
    unfold digsF
    split
    · subst_vars; rfl
    · rw [val_snoc, ih (n / 256) (by rw [Nat.pow_succ] at h; omega), UInt8.toNat_ofNat']
      omega
theorem val_digs (n : Nat) (h : n < 256 ^ 8) : val (digs n) = n := val_digsF 8 n h
theorem digsF_head : ∀ (k n : Nat) (b : UInt8) (t : List UInt8), n < 256 ^ k → digsF k n = b :: t → b ≠ 0 := by
  intro k
  induction k with
  | zero => intro n b t _ h; simp [digsF] at h
  | succ k ih =>
    intro n b t hn h
    unfold digsF at h
    split at h
    · cases h
    · rename_i h0
      rcases hd : digsF k (n / 256) with _ | ⟨b', t'⟩
      · rw [hd] at h
        have hz : n / 256 = 0 := by
          have := val_digsF k (n / 256) (by rw [Nat.pow_succ] at hn; omega)
          rw [hd] at this
          exact this.symm
        simp only [List.nil_append, List.cons.injEq] at h
        intro hb
        rw [hb] at h
        have := congrArg UInt8.toNat h.1
        rw [UInt8.toNat_ofNat'] at this
        have h00 : (0 : UInt8).toNat = 0 := rfl
        omega
      · rw [hd] at h
        simp only [List.cons_append, List.cons.injEq] at h
        rw [← h.1]
        exact ih (n / 256) b' t' (by rw [Nat.pow_succ] at hn; omega) hd
theorem digs_head {n : Nat} {b : UInt8} {t : List UInt8} (hn : n < 256 ^ 8) (h : digs n = b :: t) : b ≠ 0 := digsF_head 8 n b t hn h

theorem n3_hd (n : Int) (h0 : 0 ≤ n) (h1 : n ≤ 16777215) : n3 (byt (n / 65536 % 256)) (byt (n / 256 % 256)) (byt (n % 256)) = n := by
  unfold n3
  rw [byt_toNat _ (by omega) (by omega), byt_toNat _ (by omega) (by omega), byt_toNat _ (by omega) (by omega)]
  omega
/-- What was written is read again, and what stands behind it is left. -/
theorem rText_back (c most : Int) (s rest : List UInt8) (c0 : 0 ≤ c) (c1 : c ≤ 255) (hs : s.length ≤ 16777215) (hm : (s.length : Int) ≤ most) :
    rText c most (tText c s ++ rest, false) = (s, rest, false) := by
  unfold tText hd
  simp only [List.cons_append, List.nil_append]
  unfold rText
  simp only []
  have hn := n3_hd s.length (by omega) (by omega)
  rw [hn, byt_toNat c c0 c1, if_pos ⟨rfl, hm, by rw [List.length_append]; omega⟩]
  simp
theorem rNum_back (c : Int) (n : Nat) (rest : List UInt8) (c0 : 0 ≤ c) (c1 : c ≤ 255) (hn : n < 256 ^ 8) : rNum c (tNum c n ++ rest, false) = (n, rest, false) := by
  have hl := digs_length n
  unfold rNum tNum
  rw [rText_back c 8 (digs n) rest c0 c1 (by omega) (by omega)]
  rcases hd : digs n with _ | ⟨b, t⟩
  · have : n = 0 := (digs_nil n hn).1 hd
    subst this
    rfl
  · simp only []
    rw [if_neg (digs_head hn hd), ← hd, val_digs n hn]
theorem rInt_back (c most : Int) (n : Nat) (rest : List UInt8) (c0 : 0 ≤ c) (c1 : c ≤ 255) (hn : n < 256 ^ 8) (hm : (n : Int) ≤ most) : rInt c most (tNum c n ++ rest, false) = ((n : Int), rest, false) := by
  unfold rInt
  rw [rNum_back c n rest c0 c1 hn]
  simp only []
  rw [if_neg (by omega)]
theorem rText_bad (c most : Int) (s : List UInt8) : rText c most (s, true) = ([], s, true) := by
  unfold rText
  split
  · rename_i h; injection h with h1 h2; cases h2
  · rename_i h; injection h with h1 h2; subst h1; rfl
theorem rNum_bad (c : Int) (s : List UInt8) : rNum c (s, true) = (0, s, true) := by unfold rNum; rw [rText_bad]
theorem rInt_bad (c most : Int) (s : List UInt8) : rInt c most (s, true) = (0, s, true) := by
  unfold rInt
  rw [rNum_bad]
  simp only []
  split <;> rfl
theorem rInt_bounds {c most n : Int} {r r' : Rd} (h : rInt c most r = (n, r')) : 0 ≤ n ∧ (n ≤ most ∨ n = 0) := by
  obtain ⟨⟨m, r1⟩, ht⟩ : ∃ q, rNum c r = q := ⟨_, rfl⟩
  rw [rInt, ht] at h
  simp only [] at h
  split at h
  · injection h with h1 h2; subst h1; exact ⟨by omega, .inr rfl⟩
  · injection h with h1 h2; subst h1; exact ⟨by omega, .inl (by omega)⟩


set_option maxHeartbeats 400000 in
theorem left_ok (s : List UInt8) (g : Nat) (w : World) (h : IsRd w g (s, false)) :
    Calls Try.prog 84 #[.pointer (some ⟨g, 0, none⟩)] w fun e w' => e = .returned (.int .i64 s.length) ∧ w = w' := by
  have := left_any s false g w h
  simpa using this
theorem left_bad (s : List UInt8) (g : Nat) (w : World) (h : IsRd w g (s, true)) :
    Calls Try.prog 84 #[.pointer (some ⟨g, 0, none⟩)] w fun e w' => e = .returned (.int .i64 0) ∧ w = w' := by
  have := left_any s true g w h
  simpa using this

/-- Cut short it is not read. -/
theorem rText_cut (c most : Int) (s rest : List UInt8) (k : Nat) (hk : k < 4 + s.length) (hs : s.length ≤ 16777215) :
    rText c most ((tText c s ++ rest).take k, false) = ([], (tText c s ++ rest).take k, true) := by
  have hn := n3_hd s.length (by omega) (by omega)
  unfold tText hd
  simp only [List.cons_append, List.nil_append]
  match k with
  | 0 => rfl
  | 1 => rfl
  | 2 => rfl
  | 3 => rfl
  | k + 4 =>
    simp only [List.take_succ_cons]
    unfold rText
    simp only []
    rw [hn, if_neg]
    rintro ⟨_, _, h⟩
    rw [List.length_take] at h
    omega

/-- What was read off was written so. -/
theorem rText_inv {c most : Int} {s t s' : List UInt8} (h : rText c most (s, false) = (t, s', false)) : s = tText c t ++ s' ∧ (t.length : Int) ≤ most ∧ t.length ≤ 16777215 := by
  unfold rText at h
  split at h
  · rename_i a x y z r h0
    injection h0 with h0 _
    subst h0
    split at h
    · rename_i hc
      obtain ⟨h1, h2, h3⟩ := hc
      injection h with h4 h5
      injection h5 with h5 _
      have hx := UInt8.toNat_lt x
      have hy := UInt8.toNat_lt y
      have hz := UInt8.toNat_lt z
      have hn : n3 x y z = (x.toNat * 256 + y.toNat) * 256 + z.toNat := rfl
      have hlen : (t.length : Int) = n3 x y z := by rw [← h4, List.length_take]; omega
      refine ⟨?_, by omega, by omega⟩
      unfold tText hd
      rw [hlen, ← h4, ← h5, ← h1, byt_of]
      have e1 : byt (n3 x y z / 65536 % 256) = x := by rw [show n3 x y z / 65536 % 256 = (x.toNat : Int) by omega, byt_of]
      have e2 : byt (n3 x y z / 256 % 256) = y := by rw [show n3 x y z / 256 % 256 = (y.toNat : Int) by omega, byt_of]
      have e3 : byt (n3 x y z % 256) = z := by rw [show n3 x y z % 256 = (z.toNat : Int) by omega, byt_of]
      rw [e1, e2, e3]
      simp only [List.cons_append, List.nil_append, List.take_append_drop]
    · injection h with _ h5
      injection h5 with _ h6
      cases h6
  · injection h with _ h5
    injection h5 with _ h6
    cases h6
theorem digs_val_snoc (l : List UInt8) (b : UInt8) (hl : l.length ≤ 7) (hd : digs (val l) = l) (hb : l ≠ [] ∨ b ≠ 0) : digs (val (l ++ [b])) = l ++ [b] := by
  have hv := val_lt _ l rfl
  have hlt : val l < 256 ^ 7 := Nat.lt_of_lt_of_le hv (Nat.pow_le_pow_right (by decide) hl)
  have hbl := UInt8.toNat_lt b
  have h87 : (256 : Nat) ^ 8 = 256 ^ 7 * 256 := rfl
  rw [val_snoc, digs_step _ (by omega), if_neg]
  · rw [show (val l * 256 + b.toNat) / 256 = val l by omega, show (val l * 256 + b.toNat) % 256 = b.toNat by omega, hd]
    simp
  · intro h0
    rcases hb with hb | hb
    · have : val l = 0 := by omega
      rw [this, show digs 0 = [] from digsF_zero 8] at hd
      exact hb hd.symm
    · exact hb (UInt8.toNat_inj.1 (by show b.toNat = 0; omega))
theorem digs_val : ∀ (n : Nat) (l : List UInt8), l.length = n → n ≤ 8 → (∀ b t, l = b :: t → b ≠ 0) → digs (val l) = l := by
  intro n
  induction n with
  | zero =>
    intro l hl _ _
    rw [List.eq_nil_of_length_eq_zero hl]
    exact digsF_zero 8
  | succ n ih =>
    intro l hl hn hb
    rcases List.eq_nil_or_concat l with rfl | ⟨l', b, rfl⟩
    · cases hl
    · rw [List.concat_eq_append] at *
      simp only [List.length_append, List.length_cons, List.length_nil] at hl
      refine digs_val_snoc l' b (by omega) (ih l' (by omega) (by omega) ?_) ?_
      · intro b' t' e
        exact hb b' (t' ++ [b]) (by rw [e]; rfl)
      · rcases l' with _ | ⟨x, t⟩
        · exact .inr (hb b [] rfl)
        · exact .inl (by simp)
theorem rNum_inv {c : Int} {s s' : List UInt8} {n : Nat} (h : rNum c (s, false) = (n, s', false)) : s = tNum c n ++ s' := by
  unfold rNum at h
  obtain ⟨⟨t, s1, b1⟩, ht⟩ : ∃ q, rText c 8 (s, false) = q := ⟨_, rfl⟩
  rw [ht] at h
  rcases t with _ | ⟨b, t⟩
  · simp only [Prod.mk.injEq] at h
    obtain ⟨rfl, rfl, rfl⟩ := h
    exact (rText_inv ht).1
  · simp only [] at h
    split at h
    · injection h with _ h2
      injection h2 with _ h3
      cases h3
    · rename_i h0
      simp only [Prod.mk.injEq] at h
      obtain ⟨rfl, rfl, rfl⟩ := h
      have hi := rText_inv ht
      unfold tNum
      rw [digs_val _ (b :: t) rfl (by have := hi.2.1; omega) (by
        intro b' t' e
        injection e with e1 e2
        rw [← e1]
        exact h0)]
      exact hi.1
theorem rInt_inv {c most n : Int} {s s' : List UInt8} (h : rInt c most (s, false) = (n, s', false)) : s = tNum c n.toNat ++ s' := by
  unfold rInt at h
  obtain ⟨⟨m, s1, b1⟩, ht⟩ : ∃ q, rNum c (s, false) = q := ⟨_, rfl⟩
  rw [ht] at h
  simp only [] at h
  split at h
  · simp at h
  · simp only [Prod.mk.injEq] at h
    obtain ⟨rfl, rfl, rfl⟩ := h
    rw [Int.toNat_natCast]
    exact rNum_inv ht
end Go.Proofs.Ytiighehibiijcaa

namespace Go.Proofs.Ytiighehibiijcaa
open Go.RowKit

/-- A record, taken off: its body, how many bytes, whether it is none. -/
def takeR (s : List UInt8) : List UInt8 × Int × Int :=
  match rText 82 1048576 (s, false) with
  | (_, _, true) => ([], 0, 10)
  | (body, s1, false) =>
    match rInt 83 4294967295 (s1, false) with
    | (_, _, true) => ([], 0, 10)
    | (n, s2, false) => if n = sumN (s.take (s.length - s1.length)) then (body, (s.length : Int) - s2.length, 0) else ([], 0, 10)

set_option maxRecDepth 100000 in
set_option maxHeartbeats 1600000 in
theorem take_any (s : List UInt8) (body : List UInt8) (n er : Int) (w : World) (hr : takeR s = (body, n, er)) (hs : s.length ≤ 140737488351232) :
    Calls Try.prog 73 #[str s] w fun e w' => e = .returned (.tuple #[str body, .int .i64 n, .int .i64 er]) ∧ Below w.heap.size w w' := by
  obtain ⟨⟨t, s1, b1⟩, ht⟩ : ∃ q, rText 82 1048576 (s, false) = q := ⟨_, rfl⟩
  have l1 := rText_left_le ht
  simp only [] at l1
  have Ht := Lib.hid ht
  rw [takeR, ht] at hr
  clear ht
  cases b1
  · obtain ⟨⟨m, s2, b2⟩, hi⟩ : ∃ q, rInt 83 4294967295 (s1, false) = q := ⟨_, rfl⟩
    have l2 := rInt_left_le hi
    simp only [] at l2
    have hm := rInt_bounds hi
    have hm0 := hm.1
    have hm1 : m ≤ 4294967295 := by omega
    have Hi := Lib.hid hi
    simp only [hi] at hr
    clear hi hm
    cases b2
    · have hsum := sumN_bounds (s.take (s.length - s1.length))
      by_cases hq : m = sumN (s.take (s.length - s1.length))
      · simp only [] at hr
        rw [if_pos hq] at hr
        simp only [Prod.mk.injEq] at hr
        obtain ⟨rfl, rfl, rfl⟩ := hr
        have Hq := Lib.hid hq
        clear hq
        go_enter Try.func73, Try.ntmps73
        go_wp2_with fail
        refine (rdNew_any s _).mono ?_
        rintro e w1 ⟨rfl, rfl⟩
        go_wp2_with fail
        refine (readText_any s false 82 1048576 _ _ (read_isRd s w) (by decide) (by decide) hs (by decide) t s1 false Ht.out).mono ?_
        rintro e w2 ⟨rfl, hr2, hu2⟩
        have hz2 := hu2.size
        have hb2 := (((Below.refl w.heap.size w).alloc (Nat.le_refl _) _).trans (upd_below hu2 (by simp) (Nat.le_refl _)))
        have Hr2 := Lib.hid hr2
        clear hr2 hu2
        go_wp2_with fail
        refine (left_ok s1 _ _ Hr2.out).mono ?_
        rintro e w3 ⟨rfl, rfl⟩
        go_wp2_with fail
        refine (readInt_any s1 false 83 4294967295 _ _ Hr2.out (by decide) (by decide) (by omega) (by decide) m s2 false Hi.out).mono ?_
        rintro e w3 ⟨rfl, hr3, hu3⟩
        have hb3 := hb2.trans (upd_below hu3 hb2.size (Nat.le_refl _))
        have Hr3 := Lib.hid hr3
        clear hr3 hu3
        go_wp2_with fail
        refine (good_any s2 false _ _ Hr3.out).mono ?_
        rintro e w4 ⟨rfl, rfl⟩
        go_wp2_with fail
        refine (sum_any _ _ (by rw [List.length_take]; omega)).mono ?_
        rw [← Hq.out]
        rintro e w4 ⟨rfl, hb4⟩
        have hb5 := bel_step hb3 hb4
        have Hr5 := Lib.hid (Blk.step Hr3.out hb4)
        go_wp2_with fail
        refine (left_ok s2 _ _ Hr5.out).mono ?_
        rintro e w5 ⟨rfl, rfl⟩
        go_wp2
        go_ret3
        exact ⟨rfl, hb5⟩
      · simp only [] at hr
        rw [if_neg hq] at hr
        simp only [Prod.mk.injEq] at hr
        obtain ⟨rfl, rfl, rfl⟩ := hr
        obtain ⟨S, hS⟩ : ∃ S, sumN (s.take (s.length - s1.length)) = S := ⟨_, rfl⟩
        rw [hS] at hsum hq
        have hS0 := hsum.1
        have hS1 := hsum.2
        have hq' : (m == S) = false := by simpa using hq
        have HS := Lib.hid hS
        clear hS hsum
        go_enter Try.func73, Try.ntmps73
        go_wp2_with fail
        refine (rdNew_any s _).mono ?_
        rintro e w1 ⟨rfl, rfl⟩
        go_wp2_with fail
        refine (readText_any s false 82 1048576 _ _ (read_isRd s w) (by decide) (by decide) hs (by decide) t s1 false Ht.out).mono ?_
        rintro e w2 ⟨rfl, hr2, hu2⟩
        have hz2 := hu2.size
        have hb2 := (((Below.refl w.heap.size w).alloc (Nat.le_refl _) _).trans (upd_below hu2 (by simp) (Nat.le_refl _)))
        have Hr2 := Lib.hid hr2
        clear hr2 hu2
        go_wp2_with fail
        refine (left_ok s1 _ _ Hr2.out).mono ?_
        rintro e w3 ⟨rfl, rfl⟩
        go_wp2_with fail
        refine (readInt_any s1 false 83 4294967295 _ _ Hr2.out (by decide) (by decide) (by omega) (by decide) m s2 false Hi.out).mono ?_
        rintro e w3 ⟨rfl, hr3, hu3⟩
        have hb3 := hb2.trans (upd_below hu3 hb2.size (Nat.le_refl _))
        have Hr3 := Lib.hid hr3
        clear hr3 hu3
        go_wp2_with fail
        refine (good_any s2 false _ _ Hr3.out).mono ?_
        rintro e w4 ⟨rfl, rfl⟩
        go_wp2_with fail
        refine (sum_any _ _ (by rw [List.length_take]; omega)).mono ?_
        rw [HS.out]
        rintro e w4 ⟨rfl, hb4⟩
        have hb5 := bel_step hb3 hb4
        go_wp2
        go_ret3
        exact ⟨rfl, hb5⟩
    · simp only [Prod.mk.injEq] at hr
      obtain ⟨rfl, rfl, rfl⟩ := hr
      go_enter Try.func73, Try.ntmps73
      go_wp2_with fail
      refine (rdNew_any s _).mono ?_
      rintro e w1 ⟨rfl, rfl⟩
      go_wp2_with fail
      refine (readText_any s false 82 1048576 _ _ (read_isRd s w) (by decide) (by decide) hs (by decide) t s1 false Ht.out).mono ?_
      rintro e w2 ⟨rfl, hr2, hu2⟩
      have hz2 := hu2.size
      have hb2 := (((Below.refl w.heap.size w).alloc (Nat.le_refl _) _).trans (upd_below hu2 (by simp) (Nat.le_refl _)))
      have Hr2 := Lib.hid hr2
      clear hr2 hu2
      go_wp2_with fail
      refine (left_ok s1 _ _ Hr2.out).mono ?_
      rintro e w3 ⟨rfl, rfl⟩
      go_wp2_with fail
      refine (readInt_any s1 false 83 4294967295 _ _ Hr2.out (by decide) (by decide) (by omega) (by decide) m s2 true Hi.out).mono ?_
      rintro e w3 ⟨rfl, hr3, hu3⟩
      have hb3 := hb2.trans (upd_below hu3 hb2.size (Nat.le_refl _))
      have Hr3 := Lib.hid hr3
      clear hr3 hu3
      go_wp2_with fail
      refine (good_any s2 true _ _ Hr3.out).mono ?_
      rintro e w4 ⟨rfl, rfl⟩
      go_wp2
      go_ret3
      exact ⟨rfl, hb3⟩
  · simp only [Prod.mk.injEq] at hr
    obtain ⟨rfl, rfl, rfl⟩ := hr
    go_enter Try.func73, Try.ntmps73
    go_wp2_with fail
    refine (rdNew_any s _).mono ?_
    rintro e w1 ⟨rfl, rfl⟩
    go_wp2_with fail
    refine (readText_any s false 82 1048576 _ _ (read_isRd s w) (by decide) (by decide) hs (by decide) t s1 true Ht.out).mono ?_
    rintro e w2 ⟨rfl, hr2, hu2⟩
    have hz2 := hu2.size
    have hb2 := (((Below.refl w.heap.size w).alloc (Nat.le_refl _) _).trans (upd_below hu2 (by simp) (Nat.le_refl _)))
    have Hr2 := Lib.hid hr2
    clear hr2 hu2
    go_wp2_with fail
    refine (left_bad s1 _ _ Hr2.out).mono ?_
    rintro e w3 ⟨rfl, rfl⟩
    go_wp2_with fail
    refine (readInt_any s1 true 83 4294967295 _ _ Hr2.out (by decide) (by decide) (by omega) (by decide) 0 s1 true (rInt_bad _ _ _)).mono ?_
    rintro e w3 ⟨rfl, hr3, hu3⟩
    have hb3 := hb2.trans (upd_below hu3 hb2.size (Nat.le_refl _))
    have Hr3 := Lib.hid hr3
    clear hr3 hu3
    go_wp2_with fail
    refine (good_any s1 true _ _ Hr3.out).mono ?_
    rintro e w4 ⟨rfl, rfl⟩
    go_wp2
    go_ret3
    exact ⟨rfl, hb3⟩
end Go.Proofs.Ytiighehibiijcaa

namespace Go.Proofs.Ytiighehibiijcaa
open Go.RowKit

theorem take_back (s rest : List UInt8) (hs : s.length ≤ 1048576) : takeR (tRec s ++ rest) = (s, ((tRec s).length : Int), 0) := by
  have hb := sumN_bounds (tText 82 s)
  unfold takeR tRec
  rw [List.append_assoc, rText_back 82 1048576 s _ (by decide) (by decide) (by omega) (by omega)]
  simp only []
  rw [rInt_back 83 4294967295 _ rest (by decide) (by decide) (sum_lt _) (by rw [sum_toNat]; omega)]
  simp only []
  have hlen : (tText 82 s ++ (tNum 83 (sumN (tText 82 s)).toNat ++ rest)).length - (tNum 83 (sumN (tText 82 s)).toNat ++ rest).length = (tText 82 s).length := by
    simp only [List.length_append]
    omega
  rw [hlen, List.take_left, sum_toNat, if_pos rfl]
  simp only [List.length_append, Prod.mk.injEq, true_and, and_true]
  omega
end Go.Proofs.Ytiighehibiijcaa

namespace Go.Proofs.Ytiighehibiijcaa
open Go.RowKit

theorem rText_bound {c most : Int} {r r' : Rd} {t : List UInt8} (h : rText c most r = (t, r')) : t.length + r'.1.length ≤ r.1.length := by
  unfold rText at h
  split at h
  · split at h
    · injection h with h1 h2
      subst h1 h2
      simp only [List.length_take, List.length_drop, List.length_cons]
      omega
    · injection h with h1 h2
      subst h1 h2
      simp
  · injection h with h1 h2
    subst h1 h2
    simp
theorem rText_taken {c most : Int} {r : Rd} {t s' : List UInt8} (h : rText c most r = (t, s', false)) : t.length + s'.length + 4 ≤ r.1.length := by
  unfold rText at h
  split at h
  · split at h
    · injection h with h1 h2
      injection h2 with h3 h4
      subst h1 h3
      simp only [List.length_take, List.length_drop, List.length_cons]
      omega
    · injection h with h1 h2
      injection h2 with h3 h4
      cases h4
  · rename_i h0
    injection h with h1 h2
    injection h2 with h3 h4
    cases h4
/-- What is taken off: some bytes, no more than there are; or nothing. -/
theorem takeR_cases {s b : List UInt8} {n er : Int} (h : takeR s = (b, n, er)) : (er = 0 ∧ 1 ≤ n ∧ n ≤ s.length ∧ (b.length : Int) ≤ n) ∨ (er = 10 ∧ n = 0 ∧ b = []) := by
  unfold takeR at h
  split at h
  · simp only [Prod.mk.injEq] at h
    obtain ⟨rfl, rfl, rfl⟩ := h
    exact .inr ⟨rfl, rfl, rfl⟩
  · rename_i body s1 ht
    have h1 := rText_taken ht
    simp only [] at h1
    split at h
    · simp only [Prod.mk.injEq] at h
      obtain ⟨rfl, rfl, rfl⟩ := h
      exact .inr ⟨rfl, rfl, rfl⟩
    · rename_i m s2 hi
      have h2 := rInt_left_le hi
      simp only [] at h2
      split at h
      · simp only [Prod.mk.injEq] at h
        obtain ⟨rfl, rfl, rfl⟩ := h
        exact .inl ⟨rfl, by omega, by omega, by omega⟩
      · simp only [Prod.mk.injEq] at h
        obtain ⟨rfl, rfl, rfl⟩ := h
        exact .inr ⟨rfl, rfl, rfl⟩

/-- Records, taken off one by one: k of them at most. -/
def allF : Nat → List UInt8 → List (List UInt8) × Nat
  | 0, _ => ([], 0)
  | k + 1, s => if (takeR s).2.2 = 0 then ((takeR s).1 :: (allF k (s.drop (takeR s).2.1.toNat)).1, (takeR s).2.1.toNat + (allF k (s.drop (takeR s).2.1.toNat)).2) else ([], 0)
def allR (s : List UInt8) : List (List UInt8) × Nat := allF s.length s
theorem allF_enough : ∀ (k j : Nat) (s : List UInt8), s.length ≤ k → k ≤ j → allF j s = allF k s := by
  intro k
  induction k with
  | zero =>
    intro j s hs _
    obtain rfl : s = [] := List.eq_nil_of_length_eq_zero (by omega)
    cases j with
    | zero => rfl
    | succ j => rfl
  | succ k ih =>
    intro j s hs hj
    obtain ⟨j, rfl⟩ : ∃ i, j = i + 1 := ⟨j - 1, by omega⟩
    obtain ⟨⟨b, n, er⟩, ht⟩ : ∃ q, takeR s = q := ⟨_, rfl⟩
    unfold allF
    rw [ht]
    simp only []
    rcases takeR_cases ht with ⟨rfl, h1, h2, _⟩ | ⟨rfl, _, _⟩
    · have := ih j (s.drop n.toNat) (by rw [List.length_drop]; omega) (by omega)
      rw [this]
    · rfl
theorem allR_stop {s b : List UInt8} {n : Int} (h : takeR s = (b, n, 10)) : allR s = ([], 0) := by
  unfold allR
  cases hl : s.length with
  | zero => rfl
  | succ k => unfold allF; rw [h]; rfl
theorem allR_step {s b : List UInt8} {n : Nat} (h : takeR s = (b, (n : Int), 0)) : allR s = (b :: (allR (s.drop n)).1, n + (allR (s.drop n)).2) := by
  rcases takeR_cases h with ⟨_, h1, h2, _⟩ | ⟨h0, _⟩
  · unfold allR
    obtain ⟨k, hl⟩ : ∃ k, s.length = k + 1 := ⟨s.length - 1, by omega⟩
    have hd : (s.drop n).length ≤ k := by rw [List.length_drop]; omega
    have := allF_enough _ k (s.drop n) (Nat.le_refl _) hd
    rw [hl]
    conv => lhs; unfold allF
    rw [h]
    simp only [Int.toNat_natCast, if_true]
    rw [this]
  · exact absurd h0 (by decide)
theorem drop_drop' (s : List UInt8) (m n : Nat) : (s.drop m).drop n = s.drop (m + n) := by rw [List.drop_drop]

set_option maxRecDepth 100000 in
set_option maxHeartbeats 1600000 in
theorem all_any (s : List UInt8) (w : World) (hs : s.length ≤ 16777216) :
    Calls Try.prog 61 #[str s] w fun e w' => ∃ v, e = .returned (.tuple #[v, .int .i64 (allR s).2]) ∧ OwnS w' w.heap.size v (allR s).1 ∧ Below w.heap.size w w' := by
  obtain ⟨i0, hi, hz0, hz1, hz2⟩ := info_parts Try.infoStr
  obtain ⟨⟨R, N⟩, hR⟩ : ∃ q, allR s = q := ⟨_, rfl⟩
  rw [hR]
  have HR := Lib.hid hR
  clear hR
  go_enter Try.func61, Try.ntmps61
  go_wp2
  go_step3
  go_wp2
  go_step3
  go_wp2
  go_loopw [2, 3] (fun b n wr => ∃ (L : List (List UInt8)) (m : Nat), m ≤ s.length ∧ L.length ≤ m ∧ n = .int .i64 m ∧ (L ++ (allR (s.drop m)).1, m + (allR (s.drop m)).2) = (R, N) ∧ OwnS wr w.heap.size b L ∧ Below w.heap.size w wr)
    (fun _ n _ => s.length - (intOf n).toNat)
  case atStart => exact ⟨[], 0, Nat.zero_le _, Nat.zero_le _, rfl, by rw [List.drop_zero, HR.out]; simp, OwnS.none _ _, Below.refl _ _⟩
  case round =>
    obtain ⟨L, m, hm, hLm, rfl, hall, hown, hnx⟩ := hrel
    have Hown := Lib.hid hown
    have hsz := hnx.size
    have hdl : (s.drop m).length = s.length - m := List.length_drop ..
    obtain ⟨⟨b, n, er⟩, ht⟩ : ∃ q, takeR (s.drop m) = q := ⟨_, rfl⟩
    have Ht := Lib.hid ht
    have Hcut := Lib.hid (show List.take (s.length - m) (List.drop m s) = List.drop m s from List.take_of_length_le (by omega))
    rcases takeR_cases ht with ⟨rfl, h1, h2, h3⟩ | ⟨rfl, rfl, rfl⟩
    · obtain ⟨n, rfl⟩ : ∃ k : Nat, n = k := ⟨n.toNat, by omega⟩
      rw [allR_step ht, List.drop_drop] at hall
      have Hall := Lib.hid hall
      clear hall hown ht
      go_wp2_with fail
      rw [Hcut.out]
      refine (take_any (s.drop m) b n 0 _ Ht.out (by omega)).mono ?_
      rintro e w1 ⟨rfl, hb1⟩
      have hb1' := bel_step hnx hb1
      have Hown1 := Lib.hid (Hown.out.step hb1)
      have z1 := hb1'.size
      go_wp2_with (at_builtin; refine wpList_append_own _ rfl _ _ 54 rfl w.heap.size 9 i0 (.string ByteArray.empty) 1 16 Try.underlying54 hi hz0 hz1 hz2 rfl (by decide) _ _ _ rfl (Hown1.out.alloc _) ⟨w1.heap.size, 0, none⟩ 1 1 [str b] rfl rfl (cell_one_new _ _ _) (by simp [Value.oneCell']) (by unfold maxLen; omega) (by omega) (by simp; omega) ?_; intro v' w2 hown' hgrow _)
      have hb2 := (hb1'.alloc z1 (.cells #[str b] 9)).grown hgrow (by simp; omega) (fun k hk => (Hown1.out.lt k hk).1)
      go_roundw
      case rel => exact ⟨L ++ [b], m + n, by omega, by rw [List.length_append]; simp; omega, by go_num, by rw [← Hall.out]; simp [Nat.add_assoc], OwnS.push hown', hb2⟩
      case measure => simp [intOf]; omega
    · rw [allR_stop ht] at hall
      simp only [List.append_nil, Nat.add_zero, Prod.mk.injEq] at hall
      obtain ⟨rfl, rfl⟩ := hall
      clear hown ht
      go_wp2_with fail
      rw [Hcut.out]
      refine (take_any (s.drop m) [] 0 10 _ Ht.out (by omega)).mono ?_
      rintro e w1 ⟨rfl, hb1⟩
      have hb1' := bel_step hnx hb1
      go_wp2
      rw [Exit.noGoto_ret]
      go_ret2
      exact ⟨_, rfl, Hown.out.step hb1, hb1'⟩
end Go.Proofs.Ytiighehibiijcaa

namespace Go.Proofs.Ytiighehibiijcaa
open Go.RowKit
set_option linter.unusedSimpArgs false
set_option linter.unnecessarySimpa false
set_option linter.unusedVariables false

/-- Number j of a sector. -/
def numT (s : List UInt8) (j : Nat) : List UInt8 := (s.drop (j * 8)).take 8
def numAt (s : List UInt8) (j : Nat) : Nat := val (numT s j)
def NumsFit (s : List UInt8) : Prop := s.length = 64 ∧ numAt s 0 ≤ 1099511627776 ∧ numAt s 1 ≤ 1099511627776 ∧ numAt s 2 ≤ 1099511627776
instance (s : List UInt8) : Decidable (NumsFit s) := by unfold NumsFit; infer_instance
/-- A sector's mark, and whether it is one. -/
def unpackR (s : List UInt8) : (Int × Int × Int) × Bool :=
  if NumsFit s ∧ packS (numAt s 0) (numAt s 1) (numAt s 2) = s then ((numAt s 0, numAt s 1, numAt s 2), true) else ((0, 0, 0), false)
theorem numT_length {s : List UInt8} (h : s.length = 64) {j : Nat} (hj : j < 3) : (numT s j).length = 8 := by simp [numT, h]; omega
theorem cut_numT (s : List UInt8) (j : Nat) : List.take ((j + 1) * 8 - j * 8) (List.drop (j * 8) s) = numT s j := by
  unfold numT; rw [show (j + 1) * 8 - j * 8 = 8 by omega]
/-- The first j numbers, laid. -/
def rawAt (s : List UInt8) (j : Nat) : Array Value :=
  #[.int .i64 (if 0 < j then (numAt s 0 : Int) else 0), .int .i64 (if 1 < j then (numAt s 1 : Int) else 0), .int .i64 (if 2 < j then (numAt s 2 : Int) else 0)]
theorem rawAt_set (s : List UInt8) {j : Nat} (hj : j < 3) : (rawAt s j).setIfInBounds j (.int .i64 (numAt s j : Int)) = rawAt s (j + 1) := by
  have h3 : j = 0 ∨ j = 1 ∨ j = 2 := by omega
  rcases h3 with rfl | rfl | rfl <;> simp [rawAt]
theorem rawAt_has (s : List UInt8) {j : Nat} (hj : j < 3) : (rawAt s j)[j]? = some (.int .i64 0) := by
  have h3 : j = 0 ∨ j = 1 ∨ j = 2 := by omega
  rcases h3 with rfl | rfl | rfl <;> simp [rawAt]
def zeroMark : Array Value := #[.int .i64 0, .int .i64 0, .int .i64 0]

theorem cells3 {w : World} {g : Nat} {t : TypeId} {a b c : Value} (h : Blk w g t #[a, b, c]) :
    w.cell? ⟨g, 0, none⟩ = some a ∧ w.cell? ⟨g, 1, none⟩ = some b ∧ w.cell? ⟨g, 2, none⟩ = some c ∧ w.frozen? ⟨g, 0, none⟩ = false ∧ w.frozen? ⟨g, 1, none⟩ = false ∧ w.frozen? ⟨g, 2, none⟩ = false :=
  ⟨h.cell 0, h.cell 1, h.cell 2, h.frozen 0, h.frozen 1, h.frozen 2⟩

set_option maxRecDepth 100000 in
set_option maxHeartbeats 3200000 in
theorem unpack_any (s : List UInt8) (hs : s.length ≤ 140737488351232) (w : World) (e0 b0 c0 : Int) (ok : Bool) (hu : unpackR s = ((e0, b0, c0), ok)) :
    Calls Try.prog 37 #[str s] w fun e w' => e = .returned (.tuple #[.agg #[.int .i64 e0, .int .i64 b0, .int .i64 c0], .bool ok]) ∧ Below w.heap.size w w' := by
  have HU := Lib.hid hu
  clear hu
  go_enter Try.func37, Try.ntmps37
  by_cases h64 : s.length = 64
  · have h64b : (s.length == 64) = true := by simpa using h64
    have h64c : (s.length != 64) = false := by simpa using h64
    go_wp2_with fail
    go_step3
    go_wp2_with fail
    go_step3
    obtain ⟨gm, hgm⟩ : ∃ g, w.heap.size = g := ⟨_, rfl⟩
    obtain ⟨g, hg⟩ : ∃ g, w.heap.size + 1 = g := ⟨_, rfl⟩
    have hz : (w.alloc (.cells zeroMark 62)).heap.size = w.heap.size + 1 := by simp
    have X1 : Blk ((w.alloc (.cells zeroMark 62)).alloc (.cells (rawAt s 0) 96)) g 96 (rawAt s 0) := Blk.new_at (by rw [hz]; exact hg.symm) _ _
    have Y1 : Blk ((w.alloc (.cells zeroMark 62)).alloc (.cells (rawAt s 0) 96)) gm 62 zeroMark := (Blk.new_at hgm.symm _ _).alloc _
    have B1 : Below w.heap.size w ((w.alloc (.cells zeroMark 62)).alloc (.cells (rawAt s 0) 96)) := ((Below.refl _ _).alloc (Nat.le_refl _) _).alloc (by simp) _
    rw [hg, hgm]
    change Exit.then _ _ _ _ ((w.alloc (.cells zeroMark 62)).alloc (.cells (rawAt s 0) 96))
    generalize (w.alloc (.cells zeroMark 62)).alloc (.cells (rawAt s 0) 96) = w1 at X1 Y1 B1 ⊢
    have hgB : w.heap.size ≤ g := by omega
    have hgmB : w.heap.size ≤ gm := by omega
    have hne : g ≠ gm := by omega
    have HX := Lib.hid X1
    have HY := Lib.hid Y1
    have HB := Lib.hid B1
    have HG := Lib.hid (And.intro hgB (And.intro hgmB hne))
    clear X1 Y1 B1 hz hgm hg hgB hgmB hne
    go_wp2_with fail
    go_loopw [15, 5] (fun i r wr => ∃ j : Nat, j ≤ 3 ∧ i = .int .i64 j ∧ r = .bool true ∧ (∀ q, q < j → numAt s q ≤ 1099511627776) ∧ Blk wr g 96 (rawAt s j) ∧ Blk wr gm 62 zeroMark ∧ Below w.heap.size w wr) (fun i _ _ => 3 - (intOf i).toNat)
    case atStart => exact ⟨0, Nat.zero_le _, rfl, rfl, fun q hq => absurd hq (Nat.not_lt_zero _), HX.out, HY.out, HB.out⟩
    case round =>
      obtain ⟨j, hj, rfl, rfl, hq, hx, hy, hb⟩ := hrel
      have HQ := Lib.hid hq
      have HX := Lib.hid hx
      have HY := Lib.hid hy
      have HB := Lib.hid hb
      clear hq hx hy hb
      by_cases hlt : j < 3
      · have hji : (j : Int) < 3 := by omega
        obtain ⟨t, ht⟩ : ∃ t, numT s j = t := ⟨_, rfl⟩
        have htl : t.length = 8 := by rw [← ht]; exact numT_length h64 hlt
        have kb := run_bytes_of_string (P := Try.prog) wr 9 40 5 ⟨t.toArray⟩ Try.underlying9 Try.underlying40 Try.underlying5
        have hct := cut_numT s j
        rw [ht] at hct
        go_wp2_with fail
        have hw2 : Below w.heap.size w (wr.alloc (Obj.cells (bytesRow ⟨t.toArray⟩ (grownCap wr 8 0 5)) 5 ((bytesRow ⟨t.toArray⟩ (grownCap wr 8 0 5)).size, (bytesRow ⟨t.toArray⟩ (grownCap wr 8 0 5)).size + 1))).drew := (HB.out.alloc HB.out.size _).drew
        have hx2 := (HX.out.alloc (Obj.cells (bytesRow ⟨t.toArray⟩ (grownCap wr 8 0 5)) 5 ((bytesRow ⟨t.toArray⟩ (grownCap wr 8 0 5)).size, (bytesRow ⟨t.toArray⟩ (grownCap wr 8 0 5)).size + 1))).drew
        have hy2 := (HY.out.alloc (Obj.cells (bytesRow ⟨t.toArray⟩ (grownCap wr 8 0 5)) 5 ((bytesRow ⟨t.toArray⟩ (grownCap wr 8 0 5)).size, (bytesRow ⟨t.toArray⟩ (grownCap wr 8 0 5)).size + 1))).drew
        have hcell : ∀ k (hk : k < t.length), (wr.alloc (Obj.cells (bytesRow ⟨t.toArray⟩ (grownCap wr 8 0 5)) 5 ((bytesRow ⟨t.toArray⟩ (grownCap wr 8 0 5)).size, (bytesRow ⟨t.toArray⟩ (grownCap wr 8 0 5)).size + 1))).drew.cell? ⟨wr.heap.size, k, none⟩ = some (.int .u8 (t[k].toNat : Int)) := fun k hk => bytes3 wr t (grownCap wr 8 0 5) k hk
        have hws : ((wr.alloc (Obj.cells (bytesRow ⟨t.toArray⟩ (grownCap wr 8 0 5)) 5 ((bytesRow ⟨t.toArray⟩ (grownCap wr 8 0 5)).size, (bytesRow ⟨t.toArray⟩ (grownCap wr 8 0 5)).size + 1))).drew).heap.size = wr.heap.size + 1 := by simp [World.drew]
        generalize (wr.alloc (Obj.cells (bytesRow ⟨t.toArray⟩ (grownCap wr 8 0 5)) 5 ((bytesRow ⟨t.toArray⟩ (grownCap wr 8 0 5)).size, (bytesRow ⟨t.toArray⟩ (grownCap wr 8 0 5)).size + 1))).drew = wv at hw2 hx2 hy2 hcell hws ⊢
        have HB2 := Lib.hid hw2
        have HX2 := Lib.hid hx2
        have HY2 := Lib.hid hy2
        have HC := Lib.hid hcell
        have HT := Lib.hid ht
        rw [show (Value.int .i64 8) = Value.int .i64 (t.length : Int) by rw [htl]; rfl]
        clear hw2 hx2 hy2 hcell hws kb hct ht
        go_loop [27, 7] (fun i n => ∃ k : Nat, k ≤ 8 ∧ i = .int .i64 k ∧ n = .int .u64 (val (t.take k) : Nat)) (fun i _ => 8 - (intOf i).toNat)
        case atStart => exact ⟨0, Nat.zero_le _, rfl, rfl⟩
        case round =>
          obtain ⟨k, hk, rfl, rfl⟩ := hrel
          by_cases hk8 : k < 8
          · have hkt : k < t.length := by omega
            have hki : (k : Int) < 8 := by omega
            have hkl : (k : Int) < (t.length : Int) := by omega
            have hv : val (t.take k) < 256 ^ 7 := Nat.lt_of_lt_of_le (val_lt k _ (by simp; omega)) (Nat.pow_le_pow_right (by decide) (by omega))
            have hvi : ((val (t.take k) : Nat) : Int) ≤ 72057594037927935 := by have h7 : (256 : Nat) ^ 7 = 72057594037927936 := rfl; omega
            have hor := u64_or8 (val (t.take k)) t[k] hv
            have hts : t.take (k + 1) = t.take k ++ [t[k]] := by rw [List.take_succ_eq_append_getElem hkt]
            have Hts := Lib.hid hts
            have hb8 : (t[k].toNat : Int) < 256 := by have := t[k].toNat_lt; omega
            have hc := HC.out k hkt
            clear hv hts
            go_wp2_with fail
            go_round
            case rel => exact ⟨k + 1, by omega, by go_num, by rw [Hts.out, val_snoc]; go_num⟩
            case measure => simp [intOf]; omega
          · obtain rfl : k = t.length := by omega
            rw [List.take_length]
            have hvt : val t = numAt s j := by unfold numAt; rw [HT.out]
            obtain ⟨n, hn⟩ : ∃ n, val t = n := ⟨_, rfl⟩
            rw [hn]
            have hnn : numAt s j = n := hvt.symm.trans hn
            have HN := Lib.hid hnn
            clear hvt hn hnn
            by_cases hfit : n ≤ 1099511627776
            · have hfi : (n : Int) ≤ 1099511627776 := by omega
              have hc := (HX2.out.cell j).trans (rawAt_has s hlt)
              have hf := HX2.out.frozen j
              go_wp2_with fail
              have hx3 := HX2.out.set_ j (.int .i64 (n : Int))
              rw [← HN.out, rawAt_set s hlt, HN.out] at hx3
              have hy3 : Blk (wv.setCell ⟨g, j, none⟩ (.int .i64 (n : Int))) gm 62 zeroMark := HY2.out.far (p := ⟨g, j, none⟩) (fun e => HG.out.2.2 e.symm) _
              have hb3 := HB2.out.setCell (p := ⟨g, j, none⟩) HG.out.1 (.int .i64 (n : Int))
              go_roundw
              case rel => exact ⟨j + 1, by omega, by go_num, rfl, (fun q hq => by
                rcases Nat.lt_or_ge q j with h | h
                · exact HQ.out q h
                · obtain rfl : q = j := by omega
                  rw [HN.out]; exact hfit), hx3, hy3, hb3⟩
              case measure => simp [intOf]; omega
            · have hfi : ¬ (n : Int) ≤ 1099511627776 := by omega
              obtain ⟨A, hA⟩ : ∃ A : Int, (if 0 < j then (numAt s 0 : Int) else 0) = A := ⟨_, rfl⟩
              obtain ⟨B, hB⟩ : ∃ B : Int, (if 1 < j then (numAt s 1 : Int) else 0) = B := ⟨_, rfl⟩
              obtain ⟨C, hC⟩ : ∃ C : Int, (if 2 < j then (numAt s 2 : Int) else 0) = C := ⟨_, rfl⟩
              have hrow : rawAt s j = #[.int .i64 A, .int .i64 B, .int .i64 C] := by unfold rawAt; rw [hA, hB, hC]
              have hx2 := HX2.out
              rw [hrow] at hx2
              obtain ⟨k0, k1, k2, f0, f1, f2⟩ := cells3 hx2
              obtain ⟨m0, m1, m2, v0, v1, v2⟩ := cells3 HY2.out
              have hgv : g < wv.heap.size := HX2.out.lt
              have hgmv : gm < wv.heap.size := HY2.out.lt
              have hg1 : g ≠ wv.heap.size := by omega
              have hg2 : gm ≠ wv.heap.size := by omega
              clear hx2 hrow hA hB hC
              go_wp2_with fail
              have hnf : unpackR s = ((0, 0, 0), false) := by
                unfold unpackR NumsFit
                rw [if_neg]
                rintro ⟨⟨_, h0, h1, h2⟩, _⟩
                have h3 : j = 0 ∨ j = 1 ∨ j = 2 := by omega
                have hnj := HN.out
                rcases h3 with rfl | rfl | rfl <;> omega
              rw [HU.out] at hnf
              simp only [Prod.mk.injEq] at hnf
              obtain ⟨⟨rfl, rfl, rfl⟩, rfl⟩ := hnf
              have hb4 := ((HB2.out.setCell (p := ⟨gm, 0, none⟩) HG.out.2.1 (.int .i64 0)).setCell (p := ⟨gm, 1, none⟩) HG.out.2.1 (.int .i64 0)).setCell (p := ⟨gm, 2, none⟩) HG.out.2.1 (.int .i64 0)
              refine bodyPost_ret (results_cellrow_tmp rfl _ _ gm 62 zeroMark _ rfl ((((HY2.out.set_ 0 _).set_ 1 _).set_ 2 _).alloc _) Try.underlying62 rfl (by kernel_rfl)) rfl ?_
              exact ⟨rfl, hb4.alloc hb4.size _⟩
      · obtain rfl : j = 3 := by omega
        obtain ⟨A, hA⟩ : ∃ A : Int, (numAt s 0 : Int) = A := ⟨_, rfl⟩
        obtain ⟨B, hB⟩ : ∃ B : Int, (numAt s 1 : Int) = B := ⟨_, rfl⟩
        obtain ⟨C, hC⟩ : ∃ C : Int, (numAt s 2 : Int) = C := ⟨_, rfl⟩
        have hrow : rawAt s 3 = #[.int .i64 A, .int .i64 B, .int .i64 C] := by rw [← hA, ← hB, ← hC]; rfl
        have hx2 := HX.out
        rw [hrow] at hx2
        obtain ⟨k0, k1, k2, f0, f1, f2⟩ := cells3 hx2
        have hgv : g < wr.heap.size := HX.out.lt
        have hg1 : g ≠ wr.heap.size := by omega
        clear hx2 hrow
        obtain ⟨p, hp⟩ : ∃ p, packS A B C = p := ⟨_, rfl⟩
        have HP := Lib.hid hp
        have HABC := Lib.hid (And.intro hA (And.intro hB hC))
        clear hp hA hB hC
        have hy := HY.out
        have hb := HB.out
        by_cases hps : p = s
        · have e1 : (p == s) = true := by simpa using hps
          have e2 : (p != s) = false := by simpa using hps
          go_wp2_with (go_at_call 36; refine (pack_any A B C _).mono ?_; rw [HP.out]; rintro e w2 ⟨rfl, hb2⟩; have X9 := Blk.step (Blk.new wr 62 #[.int .i64 A, .int .i64 B, .int .i64 C]) hb2; have Y9 := Blk.step (hy.alloc _) hb2; have B9 := bel_step (hb.alloc hb.size _) hb2; obtain ⟨n0, n1, n2, r0, r1, r2⟩ := cells3 X9; obtain ⟨m0, m1, m2, v0, v1, v2⟩ := cells3 Y9)
          have huv : unpackR s = ((A, B, C), true) := by
            unfold unpackR
            rw [if_pos ⟨⟨h64, HQ.out 0 (by omega), HQ.out 1 (by omega), HQ.out 2 (by omega)⟩, by rw [HABC.out.1, HABC.out.2.1, HABC.out.2.2, HP.out]; exact hps⟩, HABC.out.1, HABC.out.2.1, HABC.out.2.2]
          rw [HU.out] at huv
          simp only [Prod.mk.injEq] at huv
          obtain ⟨⟨rfl, rfl, rfl⟩, rfl⟩ := huv
          have hb4 := ((B9.setCell (p := ⟨gm, 0, none⟩) HG.out.2.1 (.int .i64 e0)).setCell (p := ⟨gm, 1, none⟩) HG.out.2.1 (.int .i64 b0)).setCell (p := ⟨gm, 2, none⟩) HG.out.2.1 (.int .i64 c0)
          rw [Exit.noGoto_ret]
          refine bodyPost_ret (results_cellrow_tmp rfl _ _ gm 62 #[.int .i64 e0, .int .i64 b0, .int .i64 c0] _ rfl (((Y9.set_ 0 _).set_ 1 _).set_ 2 _) Try.underlying62 rfl (by kernel_rfl)) rfl ?_
          exact ⟨rfl, hb4⟩
        · have e1 : (p == s) = false := by simpa using hps
          have e2 : (p != s) = true := by simpa using hps
          go_wp2_with (go_at_call 36; refine (pack_any A B C _).mono ?_; rw [HP.out]; rintro e w2 ⟨rfl, hb2⟩; have X9 := Blk.step (Blk.new wr 62 #[.int .i64 A, .int .i64 B, .int .i64 C]) hb2; have Y9 := Blk.step (hy.alloc _) hb2; have B9 := bel_step (hb.alloc hb.size _) hb2; obtain ⟨n0, n1, n2, r0, r1, r2⟩ := cells3 X9; obtain ⟨m0, m1, m2, v0, v1, v2⟩ := cells3 Y9)
          have huv : unpackR s = ((0, 0, 0), false) := by
            unfold unpackR
            rw [if_neg (fun h => hps (by rw [← h.2, HABC.out.1, HABC.out.2.1, HABC.out.2.2, HP.out]))]
          rw [HU.out] at huv
          simp only [Prod.mk.injEq] at huv
          obtain ⟨⟨rfl, rfl, rfl⟩, rfl⟩ := huv
          have hb4 := ((B9.setCell (p := ⟨gm, 0, none⟩) HG.out.2.1 (.int .i64 0)).setCell (p := ⟨gm, 1, none⟩) HG.out.2.1 (.int .i64 0)).setCell (p := ⟨gm, 2, none⟩) HG.out.2.1 (.int .i64 0)
          rw [Exit.noGoto_ret]
          refine bodyPost_ret (results_cellrow_tmp rfl _ _ gm 62 zeroMark _ rfl (((Y9.set_ 0 _).set_ 1 _).set_ 2 _) Try.underlying62 rfl (by kernel_rfl)) rfl ?_
          exact ⟨rfl, hb4⟩
  · have hnf : unpackR s = ((0, 0, 0), false) := by unfold unpackR NumsFit; rw [if_neg (fun h => h64 h.1.1)]
    rw [HU.out] at hnf
    simp only [Prod.mk.injEq] at hnf
    obtain ⟨⟨rfl, rfl, rfl⟩, rfl⟩ := hnf
    have h64i : ¬ ((s.length : Int) = 64) := by omega
    go_wp2_with fail
    go_step3
    go_wp2_with fail
    rw [Exit.noGoto_ret]
    refine bodyPost_ret (results_cellrow_tmp rfl _ _ w.heap.size 62 zeroMark _ rfl (Blk.new _ _ _) Try.underlying62 rfl (by kernel_rfl)) rfl ?_
    exact ⟨rfl, (Below.refl _ _).alloc (Nat.le_refl _) _⟩
end Go.Proofs.Ytiighehibiijcaa

namespace Go.Proofs.Ytiighehibiijcaa
open Go.RowKit
set_option linter.unusedSimpArgs false
set_option linter.unnecessarySimpa false
set_option linter.unusedVariables false

abbrev Mk := Int × Int × Int
/-- The newest of two marks. -/
def newR (x y : Mk) : Mk := if x.1 < y.1 then y else x

set_option maxRecDepth 100000 in
set_option maxHeartbeats 3200000 in
theorem newest_any (a b : List UInt8) (ha : a.length ≤ 140737488351232) (hb : b.length ≤ 140737488351232) (w : World) (e0 b0 c0 e1 b1 c1 e2 b2 c2 : Int) (ok1 ok2 : Bool) (hu : unpackR a = ((e0, b0, c0), ok1)) (hv : unpackR b = ((e1, b1, c1), ok2)) (hn : newR (e0, b0, c0) (e1, b1, c1) = (e2, b2, c2)) :
    Calls Try.prog 55 #[str a, str b] w fun e w' => e = .returned (.agg #[.int .i64 e2, .int .i64 b2, .int .i64 c2]) ∧ Below w.heap.size w w' := by
  have HU := Lib.hid hu
  have HV := Lib.hid hv
  have HN := Lib.hid hn
  clear hu hv hn
  go_enter Try.func55, Try.ntmps55
  go_wp2_with fail
  refine (unpack_any a ha _ e0 b0 c0 ok1 HU.out).mono ?_
  rintro e w1 ⟨rfl, hb1⟩
  have Y1 := Blk.step (Blk.new w 62 zeroMark) hb1
  have B1 := bel_step ((Below.refl w.heap.size w).alloc (Nat.le_refl _) _) hb1
  clear hb1
  have s1 := B1.size
  go_wp2_with fail
  refine (unpack_any b hb _ e1 b1 c1 ok2 HV.out).mono ?_
  rintro e w2 ⟨rfl, hb2⟩
  have X2 := Blk.step (Blk.new w1 62 #[.int .i64 e0, .int .i64 b0, .int .i64 c0]) hb2
  have Y2 := Blk.step (Y1.alloc _) hb2
  have B2 := bel_step (B1.alloc B1.size _) hb2
  have n1 := Y1.lt
  have n2 := X2.lt
  have n3 := Y2.lt
  clear hb2
  have s2 := B2.size
  obtain ⟨n0, n1, n2, r0, r1, r2⟩ := cells3 X2
  obtain ⟨m0, m1, m2, v0, v1, v2⟩ := cells3 Y2
  by_cases hgt : e1 > e0
  · have hr : newR (e0, b0, c0) (e1, b1, c1) = (e1, b1, c1) := by unfold newR; rw [if_pos hgt]
    rw [HN.out] at hr
    simp only [Prod.mk.injEq] at hr
    obtain ⟨rfl, rfl, rfl⟩ := hr
    go_wp2_with fail
    have hb4 := ((B2.setCell (p := ⟨w.heap.size, 0, none⟩) (Nat.le_refl _) (.int .i64 e2)).setCell (p := ⟨w.heap.size, 1, none⟩) (Nat.le_refl _) (.int .i64 b2)).setCell (p := ⟨w.heap.size, 2, none⟩) (Nat.le_refl _) (.int .i64 c2)
    refine bodyPost_ret (results_cellrow rfl _ _ w.heap.size 62 #[.int .i64 e2, .int .i64 b2, .int .i64 c2] _ rfl ((((Y2.set_ 0 _).set_ 1 _).set_ 2 _).alloc _) Try.underlying62 rfl (by kernel_rfl)) rfl ?_
    exact ⟨rfl, hb4.alloc hb4.size _⟩
  · have hr : newR (e0, b0, c0) (e1, b1, c1) = (e0, b0, c0) := by unfold newR; rw [if_neg hgt]
    rw [HN.out] at hr
    simp only [Prod.mk.injEq] at hr
    obtain ⟨rfl, rfl, rfl⟩ := hr
    go_wp2_with fail
    have hb4 := ((B2.setCell (p := ⟨w.heap.size, 0, none⟩) (Nat.le_refl _) (.int .i64 e2)).setCell (p := ⟨w.heap.size, 1, none⟩) (Nat.le_refl _) (.int .i64 b2)).setCell (p := ⟨w.heap.size, 2, none⟩) (Nat.le_refl _) (.int .i64 c2)
    refine bodyPost_ret (results_cellrow rfl _ _ w.heap.size 62 #[.int .i64 e2, .int .i64 b2, .int .i64 c2] _ rfl ((((Y2.set_ 0 _).set_ 1 _).set_ 2 _).alloc _) Try.underlying62 rfl (by kernel_rfl)) rfl ?_
    exact ⟨rfl, hb4.alloc hb4.size _⟩
end Go.Proofs.Ytiighehibiijcaa

/-
  What tlv.digits and tlv.Num return: a number below 2^64 as its bytes, and its field. No conditions beside those in each theorem.
-/
import Derived.Test.YtlkgloakcpfnnaaTlvText
import Derived.Lib.BufferRead
namespace Go.Proofs.Ytlkgloakcpfnnaa
open Go.RowKit

theorem Try.infoU8 : (Try.prog.info? 5).map (fun i => (i.zero, i.size, i.bytes)) = some (some (.int .u8 0), 1, 1) := by kernel_rfl

/-- A number's bytes: of k bytes at most. -/
def digsF : Nat → Nat → List UInt8
  | 0, _ => []
  | k + 1, n => if n = 0 then [] else digsF k (n / 256) ++ [UInt8.ofNat (n % 256)]
def digs (n : Nat) : List UInt8 := digsF 8 n
theorem digsF_zero (k : Nat) : digsF k 0 = [] := by cases k <;> simp [digsF]
theorem digsF_enough : ∀ (k j n : Nat), n < 256 ^ k → k ≤ j → digsF j n = digsF k n := by
  intro k
  induction k with
  | zero => intro j n h _; simp at h; subst h; rw [digsF_zero, digsF_zero]
  | succ k ih =>
    intro j n h hj
    obtain ⟨j, rfl⟩ : ∃ i, j = i + 1 := ⟨j - 1, by omega⟩
    unfold digsF
    by_cases h0 : n = 0
    · simp [h0]
    · rw [if_neg h0, if_neg h0, ih j (n / 256) (by rw [Nat.pow_succ] at h; omega) (by omega)]
theorem digs_step (n : Nat) (h : n < 256 ^ 8) : digs n = if n = 0 then [] else digs (n / 256) ++ [UInt8.ofNat (n % 256)] := by
  have h8 : (256 : Nat) ^ 8 = 256 ^ 7 * 256 := rfl
  have : digsF 8 (n / 256) = digsF 7 (n / 256) := digsF_enough 7 8 (n / 256) (by rw [h8] at h; omega) (by omega)
  unfold digs
  rw [this]
  rfl
theorem digs_nil (n : Nat) (h : n < 256 ^ 8) : digs n = [] ↔ n = 0 := by
  rw [digs_step n h]
  by_cases h0 : n = 0 <;> simp [h0]
theorem digsF_length : ∀ (k n : Nat), (digsF k n).length ≤ k := by
  intro k
  induction k with
  | zero => intro n; simp [digsF]
  | succ k ih =>
    intro n
    unfold digsF
    split
    · simp
    · have := ih (n / 256); simp; omega
theorem digs_length (n : Nat) : (digs n).length ≤ 8 := digsF_length 8 n

/-- 'string(b)' of a row of bytes of the call's own. -/
theorem run_str_own {P : Program} {w : World} {src dst e : TypeId} {base : Nat} {v : Value} {n : Nat} {l : List UInt8} (hs : P.underlying src = some (.slice e)) (he : P.underlying e = some (.int .u8)) (hd : P.underlying dst = some .string)
    (hown : w.ownsRow base e 1 v n (Lib.byteCells l)) : (convert src dst v).run P w = .ok (.string ⟨l.toArray⟩) w := by
  have hl : l.length = n := by have := hown.1; simpa [Lib.byteCells] using this
  rcases hown.2 with ⟨rfl, h0⟩ | ⟨g, cap, cur, rfl, hb, hg, hn, hc, hcs, htk⟩
  · have : l = [] := by cases l with
      | nil => rfl
      | cons a l => simp at hl; omega
    subst this
    exact Lib.run_convert_nil_bytes w src dst e 0 hs he hd
  · subst hl
    exact run_convert_bytes_back w src dst e ⟨g, 0, none⟩ cap l hs he hd (Lib.bytes_of_row hg (by simpa using htk))

theorem digs_hit (n j : Nat) (hn : n < 256 ^ 8) (h : n / 256 ^ j ≠ 0) : digs (n / 256 ^ j) = digs (n / 256 ^ (j + 1)) ++ [UInt8.ofNat (n / 256 ^ j % 256)] := by
  have : n / 256 ^ j ≤ n := Nat.div_le_self _ _
  rw [digs_step _ (by omega), if_neg h, Nat.div_div_eq_div_mul, ← Nat.pow_succ]
theorem digs_miss (n j : Nat) (h : n / 256 ^ j = 0) : digs (n / 256 ^ j) = [] ∧ digs (n / 256 ^ (j + 1)) = [] := by
  have : n / 256 ^ (j + 1) = 0 := by rw [Nat.pow_succ, ← Nat.div_div_eq_div_mul, h]
  rw [h, this]
  exact ⟨digsF_zero 8, digsF_zero 8⟩
set_option maxRecDepth 10000 in
theorem shr_byte (n j : Nat) : ((n : Int) / 2 ^ (8 * j) % 256) = ((n / 256 ^ j % 256 : Nat) : Int) := by
  have e : (2 : Int) ^ (8 * j) = ((256 ^ j : Nat) : Int) := by
    rw [Int.pow_mul]
    norm_cast
  rw [e]
  norm_cast
set_option maxRecDepth 10000 in
theorem hit_cell (n j : Nat) : (n : Int) / 2 ^ (8 * j) % 256 = (((UInt8.ofNat (n / 256 ^ j % 256)).toNat : Nat) : Int) := by
  rw [shr_byte, UInt8.toNat_ofNat']
  omega

/-- A byte more. -/
theorem digits_push {w1 : World} {B : Nat} {v' : Value} {n j : Nat} (hn : n < 256 ^ 8) (h : n / 256 ^ j ≠ 0)
    (hown : w1.ownsRow B 5 1 v' ((digs (n / 256 ^ (j + 1))).length + 1) (Lib.byteCells (digs (n / 256 ^ (j + 1))) ++ [.int .u8 ((n : Int) / 2 ^ (8 * j) % 256)])) :
    w1.ownsRow B 5 1 v' (digs (n / 256 ^ j)).length (Lib.byteCells (digs (n / 256 ^ j))) := by
  rw [hit_cell] at hown
  rw [digs_hit n j hn h]
  simpa only [Lib.byteCells, List.map_append, List.map_cons, List.map_nil, List.length_append, List.length_cons, List.length_nil, Nat.zero_add] using hown

theorem digits_keep {n j : Nat} (hn : n < 256 ^ 8) (hz : (n : Int) / 2 ^ (8 * j) % 256 = 0) (hd : (digs (n / 256 ^ (j + 1))).length = 0) : digs (n / 256 ^ j) = [] ∧ digs (n / 256 ^ (j + 1)) = [] := by
  have h1 : n / 256 ^ (j + 1) = 0 := (digs_nil _ (Nat.lt_of_le_of_lt (Nat.div_le_self _ _) hn)).1 (List.eq_nil_of_length_eq_zero hd)
  rw [shr_byte] at hz
  rw [Nat.pow_succ, ← Nat.div_div_eq_div_mul] at h1
  exact digs_miss n j (by omega)
theorem digits_hot {n j : Nat} (hz : ¬ (n : Int) / 2 ^ (8 * j) % 256 = 0) : n / 256 ^ j ≠ 0 := by
  rw [shr_byte] at hz
  omega
theorem digits_hot2 {n j : Nat} (hd : 0 < (digs (n / 256 ^ (j + 1))).length) : n / 256 ^ j ≠ 0 := by
  intro h
  rw [(digs_miss n j h).2] at hd
  simp at hd

set_option maxRecDepth 100000 in
set_option maxHeartbeats 400000 in
theorem digits_any (n : Nat) (w : World) (hn : n < 256 ^ 8) :
    Calls Try.prog 67 #[.int .u64 n] w fun e w' => e = .returned (str (digs n)) ∧ Below w.heap.size w w' := by
  obtain ⟨i0, hi, hz0, hz1, hz2⟩ := info_parts Try.infoU8
  have Hn := Lib.hid hn
  clear hn
  go_enter Try.func67, Try.ntmps67
  go_wp2
  go_loopw [3, 4] (fun b s wr => ∃ k : Nat, k ≤ 8 ∧ s = .int .i64 (8 * (k : Int) - 8) ∧ wr.ownsRow w.heap.size 5 1 b (digs (n / 256 ^ k)).length (Lib.byteCells (digs (n / 256 ^ k))) ∧ Below w.heap.size w wr)
    (fun _ s _ => (intOf s + 8).toNat)
  case atStart => exact ⟨8, Nat.le_refl _, rfl, by rw [show n / 256 ^ 8 = 0 from Nat.div_eq_of_lt Hn.out]; exact World.ownsRow_nil _ _ _ _, Below.refl _ _⟩
  case round =>
    obtain ⟨k, hk, rfl, hown, hnx⟩ := hrel
    rcases Nat.eq_zero_or_pos k with h0 | h0
    · subst h0
      rw [Nat.pow_zero, Nat.div_one] at hown
      have kc := run_str_own (P := Try.prog) (w := wr) (v := u3) (src := 24) (dst := 9) Try.underlying24 Try.underlying5 Try.underlying9 hown
      go_wp2
      go_ret
      exact ⟨rfl, hnx⟩
    · obtain ⟨j, rfl⟩ : ∃ j, k = j + 1 := ⟨k - 1, by omega⟩
      have Hown := Lib.hid hown
      have hsz := hnx.size
      have hlen := digs_length (n / 256 ^ (j + 1))
      have e8 : (8 * ((j + 1 : Nat) : Int) - 8) = 8 * (j : Int) := by omega
      by_cases hz : (n : Int) / 2 ^ (8 * j) % 256 = 0
      · rcases hown.2 with ⟨rfl, hd⟩ | ⟨g, cap, cur, rfl, hg1, hg2, hg3, hg4, hg5, hg6⟩
        · have Hd := Lib.hid hd
          clear hown hd hlen
          rw [e8]
          clear e8
          go_wp2
          go_roundw
          case rel =>
            have hk := digits_keep Hn.out hz Hd.out
            have ho := Hown.out
            rw [hk.2] at ho
            exact ⟨j, by omega, rfl, by rw [hk.1]; exact ho, hnx⟩
          case measure => simp [intOf]; omega
        · by_cases hpos : 0 < (digs (n / 256 ^ (j + 1))).length
          · clear hown
            rw [e8]
            clear e8
            go_wp2_with (at_builtin; refine wpList_append_own _ rfl _ _ 24 rfl w.heap.size 5 i0 (.int .u8 0) 1 1 Try.underlying24 hi hz0 hz1 hz2 rfl (by decide) _ _ _ rfl (Hown.out.alloc _) ⟨wr.heap.size, 0, none⟩ 1 1 [.int .u8 0] rfl rfl (cell_one_new _ _ _) (by simp [Value.oneCell']) (by unfold maxLen; omega) (by omega) (by simp; omega) ?_; intro v' w1 hown' hgrow _)
            go_roundw
            case rel => exact ⟨j, by omega, rfl, digits_push Hn.out (digits_hot2 hpos) (by rw [hz]; exact hown'), (hnx.alloc hsz _).grown hgrow (by simp; omega) (fun k hk => (Hown.out.lt k hk).1)⟩
            case measure => simp [intOf]; omega
          · have h0 : (digs (n / 256 ^ (j + 1))).length = 0 := by omega
            have H0 := Lib.hid h0
            clear hown h0
            rw [e8]
            clear e8
            go_wp2
            go_roundw
            case rel =>
              have hk := digits_keep Hn.out hz H0.out
              have ho := Hown.out
              rw [hk.2] at ho
              exact ⟨j, by omega, rfl, by rw [hk.1, hk.2]; exact ho, hnx⟩
            case measure => simp [intOf]; omega
      · have Hz := Lib.hid hz
        clear hown
        rw [e8]
        clear e8
        go_wp2_with (at_builtin; refine wpList_append_own _ rfl _ _ 24 rfl w.heap.size 5 i0 (.int .u8 0) 1 1 Try.underlying24 hi hz0 hz1 hz2 rfl (by decide) _ _ _ rfl (Hown.out.alloc _) ⟨wr.heap.size, 0, none⟩ 1 1 [.int .u8 ((n : Int) / 2 ^ (8 * j) % 256)] rfl rfl (cell_one_new _ _ _) (by simp [Value.oneCell']) (by unfold maxLen; omega) (by omega) (by simp; omega) ?_; intro v' w1 hown' hgrow _)
        go_roundw
        case rel => exact ⟨j, by omega, rfl, digits_push Hn.out (digits_hot Hz.out) hown', (hnx.alloc hsz _).grown hgrow (by simp; omega) (fun k hk => (Hown.out.lt k hk).1)⟩
        case measure => simp [intOf]; omega
/-- A number's field. -/
def tNum (c : Int) (n : Nat) : List UInt8 := tText c (digs n)
theorem tNum_length (c : Int) (n : Nat) : (tNum c n).length = 4 + (digs n).length := tText_length _ _
theorem tNum_le (c : Int) (n : Nat) : (tNum c n).length ≤ 12 := by have := digs_length n; rw [tNum_length]; omega

set_option maxHeartbeats 400000 in
theorem num_any (c : Int) (n : Nat) (w : World) (c0 : 0 ≤ c) (c1 : c ≤ 255) (hn : n < 256 ^ 8) :
    Calls Try.prog 45 #[.int .u8 c, .int .u64 n] w fun e w' => e = .returned (str (tNum c n)) ∧ Below w.heap.size w w' := by
  have Hn := Lib.hid hn
  clear hn
  go_enter Try.func45, Try.ntmps45
  go_wp2_with fail
  refine (digits_any n _ Hn.out).mono ?_
  rintro e w1 ⟨rfl, hb1⟩
  go_wp2_with fail
  refine (text_any c (digs n) _ c0 c1 (by have := digs_length n; omega)).mono ?_
  rintro e w2 ⟨rfl, hb2⟩
  go_wp2
  go_ret
  exact ⟨rfl, hb1.trans (hb2.mono hb1.size)⟩
end Go.Proofs.Ytlkgloakcpfnnaa

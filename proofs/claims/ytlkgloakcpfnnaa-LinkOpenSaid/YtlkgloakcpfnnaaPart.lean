/-
  What trace.Part and the reference Part return: is a text of 1 to 32 bytes, none of them a slash? For any text of at most 2^47 bytes.
-/
import Derived.Test.YtlkgloakcpfnnaaPlainA
namespace Go.Proofs.Ytlkgloakcpfnnaa
open Go.RowKit

/-- May a text be a part? -/
def partB (s : List UInt8) : Bool := decide (47 ∉ s ∧ s ≠ [] ∧ s.length ≤ 32)

theorem get_lt (s : ByteArray) (p : Nat) (h : p < s.size) : s.get! p = s[p]'h := get_at s p h

theorem decode_high_47 (s : ByteArray) (pos : Nat) (h : pos < s.size) (ha : 128 ≤ (s[pos]'h).toNat) :
    pos + (Utf8.decode s pos).2 ≤ s.size ∧ ∀ j, pos ≤ j → j < pos + (Utf8.decode s pos).2 → 128 ≤ (s.get! j).toNat := by
  have hn : ¬ (s[pos]'h).toNat < 128 := by omega
  have h0 : 128 ≤ (s.get! pos).toNat := by rw [get_lt s pos h]; exact ha
  simp only [Utf8.decode, get_at s pos h, hn, if_false]
  repeat' split
  all_goals
    refine ⟨by simp_all <;> omega, ?_⟩
    intro j j1 j2
    rcases Nat.lt_or_ge pos j with hj | hj
    · simp only [Bool.and_eq_true, decide_eq_true_eq, beq_iff_eq] at *
      obtain hj : j = pos + 1 ∨ j = pos + 2 ∨ j = pos + 3 := by omega
      rcases hj with rfl | rfl | rfl <;> omega
    · obtain rfl : j = pos := by omega
      exact h0
theorem mem_take_step (l : List UInt8) (k n : Nat) (h : 47 ∉ l.take k) (hn : ∀ j (hj : j < l.length), k ≤ j → j < n → l[j] ≠ 47) : 47 ∉ l.take n := by
  intro hm
  obtain ⟨j, hj, e⟩ := List.mem_iff_getElem.1 hm
  rw [List.length_take] at hj
  rw [List.getElem_take] at e
  rcases Nat.lt_or_ge j k with hk | hk
  · exact h (List.mem_iff_getElem.2 ⟨j, by rw [List.length_take]; omega, by rw [List.getElem_take]; exact e⟩)
  · exact hn j (by omega) hk (by omega) e

theorem part_end (l : List UInt8) (h : ¬ l = []) (hno : 47 ∉ l) : (!l.isEmpty && decide ((l.length : Int) ≤ 32)) = partB l := by
  unfold partB
  cases l with
  | nil => exact absurd rfl h
  | cons x l =>
    rw [Bool.eq_iff_iff]
    simp only [List.isEmpty_cons, Bool.not_false, Bool.true_and, decide_eq_true_eq]
    constructor
    · intro h1; exact ⟨hno, h, by omega⟩
    · intro h1; omega

set_option maxRecDepth 100000 in
set_option maxHeartbeats 400000 in
theorem part_any (l : List UInt8) (b : Bool) (w : World) (hb : partB l = b) (hl : l.length ≤ 140737488351232) :
    Calls Try.prog 69 #[str l] w fun e w' => e = .returned (.bool b) ∧ Below w.heap.size w w' := by
  have Hb := Lib.hid hb
  clear hb
  go_enter Try.func69, Try.ntmps69
  go_wp2
  go_loopw [4] (fun _ wr => ∃ pos : Nat, wr = w.iter ⟨l.toArray⟩ pos ∧ pos ≤ l.length ∧ 47 ∉ l.take pos) (fun _ wr => l.length - wr.iterPos w.heap.size)
  case atStart => exact ⟨0, rfl, Nat.zero_le _, by simp⟩
  case round =>
    obtain ⟨pos, rfl, hpos, hno⟩ := hrel
    have Hno := Lib.hid hno
    clear hno
    by_cases hp : pos < l.length
    · by_cases ha : (l[pos].toNat : Int) < 128
      · have hnx : ∀ ty, (Instr.next (.pointer (some ⟨w.heap.size, 0, none⟩)) true ty).run Try.prog (w.iter ⟨l.toArray⟩ pos) = _ := fun ty => run_next_ascii w ⟨l.toArray⟩ pos ty hp (by have : (l[pos].toNat : Int) < 128 := ha; rw [index_str]; omega)
        by_cases h47 : (l[pos].toNat : Int) = 47
        · go_wp2
          go_ret
          have e : l[pos] = 47 := by
            apply UInt8.toNat_inj.1
            show l[pos].toNat = 47
            omega
          have hf : partB l = false := by
            unfold partB
            rw [decide_eq_false_iff_not]
            exact fun h => h.1 (e ▸ List.getElem_mem hp)
          exact ⟨by rw [← Hb.out, hf]; rfl, (Below.refl _ _).alloc (Nat.le_refl _) _⟩
        · go_wp2
          go_roundw
          case rel => exact ⟨pos + 1, rfl, by omega, mem_take_step l pos (pos + 1) Hno.out (by
            intro j hj h1 h2 e
            obtain rfl : j = pos := by omega
            rw [e] at h47
            exact h47 rfl)⟩
          case measure => simp; omega
      · have ha' : 128 ≤ (((ByteArray.mk l.toArray)[pos]'hp).toNat) := by rw [index_str]; omega
        have hd := decode_high_47 ⟨l.toArray⟩ pos hp ha'
        have hh := decode_high ⟨l.toArray⟩ pos hp ha'
        have hle := decode_le ⟨l.toArray⟩ pos
        have hnx : ∀ ty, (Instr.next (.pointer (some ⟨w.heap.size, 0, none⟩)) true ty).run Try.prog (w.iter ⟨l.toArray⟩ pos) = _ := fun ty => run_next_any w ⟨l.toArray⟩ pos ty hp
        generalize Utf8.decode (⟨l.toArray⟩ : ByteArray) pos = q at hd hh hle hnx
        obtain ⟨c, wd⟩ := q
        obtain ⟨hd1, hd2⟩ := hd
        obtain ⟨hh1, hh2⟩ := hh
        have Hd2 := Lib.hid hd2
        have hd1' : pos + wd ≤ l.length := hd1
        clear hd1 hd2
        have hc : ((c : Int) == 47) = false := by rw [beq_eq_false_iff_ne]; omega
        go_wp2
        go_roundw
        case rel => exact ⟨pos + wd, rfl, hd1', mem_take_step l pos (pos + wd) Hno.out (by
          intro j hj h1 h2 e
          have h3 := Hd2.out j h1 h2
          rw [get_lt ⟨l.toArray⟩ j hj, index_str, e] at h3
          exact absurd h3 (by decide))⟩
        case measure => simp; omega
    · have hnx : ∀ ty, (Instr.next (.pointer (some ⟨w.heap.size, 0, none⟩)) true ty).run Try.prog (w.iter ⟨l.toArray⟩ pos) = _ := fun ty => run_next_end w ⟨l.toArray⟩ pos ty hp
      obtain rfl : pos = l.length := by omega
      go_wp2
      all_goals
        go_ret
        have hno := Hno.out
        refine ⟨?_, (Below.refl _ _).alloc (Nat.le_refl _) _⟩
      · rw [← Hb.out]
        unfold partB
        rw [List.take_length] at hno
        cases l with
        | nil => rfl
        | cons x l => simp_all
      · rw [← Hb.out]
        rw [List.take_length] at hno
        exact congrArg (fun x => Ending.returned (.bool x)) (part_end l (by assumption) hno)
set_option maxHeartbeats 400000 in
theorem refPart_any (l : List UInt8) (b : Bool) (w : World) (hb : partB l = b) (hl : l.length ≤ 140737488351232) :
    Calls Try.prog 48 #[str l] w fun e w' => e = .returned (.bool b) ∧ w = w' := by
  have Hb := Lib.hid hb
  clear hb
  go_enter Try.func48, Try.ntmps48
  go_wp2
  go_loop [3] (fun i => ∃ k : Nat, k ≤ l.length ∧ i = .int .i64 k ∧ 47 ∉ l.take k) (fun i => l.length - (intOf i).toNat)
  case atStart => exact ⟨0, Nat.zero_le _, rfl, by simp⟩
  case round =>
    obtain ⟨k, hk, rfl, hno⟩ := hrel
    have Hno := Lib.hid hno
    clear hno
    by_cases hlt : k < l.length
    · by_cases h47 : (l[k].toNat : Int) = 47
      · go_wp2
        go_ret
        have e : l[k] = 47 := by
          apply UInt8.toNat_inj.1
          show l[k].toNat = 47
          omega
        have hf : partB l = false := by
          unfold partB
          rw [decide_eq_false_iff_not]
          exact fun h => h.1 (e ▸ List.getElem_mem hlt)
        exact ⟨by rw [← Hb.out, hf]; rfl, rfl⟩
      · go_wp2
        go_round
        case rel => exact ⟨k + 1, by omega, by go_num, mem_take_step l k (k + 1) Hno.out (by
          intro j hj h1 h2 e
          obtain rfl : j = k := by omega
          rw [e] at h47
          exact h47 rfl)⟩
        case measure => simp [intOf]; omega
    · obtain rfl : k = l.length := by omega
      have hno := Hno.out
      rw [List.take_length] at hno
      have Hn := Lib.hid hno
      clear hno Hno
      by_cases h1 : 1 ≤ l.length
      · by_cases h32 : l.length ≤ 32
        · have d32 : decide ((l.length : Int) ≤ 32) = true := by rw [decide_eq_true_eq]; omega
          go_wp2
          go_ret
          refine ⟨?_, rfl⟩
          rw [← Hb.out, show partB l = true by
            unfold partB
            rw [decide_eq_true_eq]
            exact ⟨Hn.out, fun h => by rw [h] at h1; exact absurd h1 (by decide), h32⟩]
          rfl
        · have d32 : decide ((l.length : Int) ≤ 32) = false := by rw [decide_eq_false_iff_not]; omega
          go_wp2
          go_ret
          refine ⟨?_, rfl⟩
          rw [← Hb.out, show partB l = false by
            unfold partB
            rw [decide_eq_false_iff_not]
            exact fun h => h32 h.2.2]
          rfl
      · go_wp2
        go_ret
        refine ⟨?_, rfl⟩
        rw [← Hb.out, show partB l = false by
          unfold partB
          rw [decide_eq_false_iff_not]
          exact fun h => h.2.1 (List.eq_nil_of_length_eq_zero (by omega))]
        rfl
end Go.Proofs.Ytlkgloakcpfnnaa

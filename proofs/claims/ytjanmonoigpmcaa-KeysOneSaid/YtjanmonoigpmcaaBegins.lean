/-
  Does a text begin with another one? The law of fields, and the helper begins of the statements. No conditions beside those in each theorem.
-/
import Derived.Test.YtjanmonoigpmcaaTlvBack
namespace Go.Proofs.Ytjanmonoigpmcaa
open Go.RowKit

/-- Does a text begin with another one? -/
def beg (s t : List UInt8) : Bool := s.take t.length == t
theorem beg_iff (s t : List UInt8) : beg s t = true ↔ ∃ r, s = t ++ r := by
  unfold beg
  rw [beq_iff_eq]
  constructor
  · intro h
    exact ⟨s.drop t.length, by conv => lhs; rw [← List.take_append_drop t.length s, h]⟩
  · rintro ⟨r, rfl⟩
    simp
theorem beg_of {s t : List UInt8} {u : Bool} (h : (∃ r, s = t ++ r) ↔ u = true) : beg s t = u := by
  rw [Bool.eq_iff_iff, beg_iff, h]
theorem byt_inj {c d : Int} (c0 : 0 ≤ c) (c1 : c ≤ 255) (d0 : 0 ≤ d) (d1 : d ≤ 255) (h : byt c = byt d) : c = d := by
  rw [← byt_toNat c c0 c1, ← byt_toNat d d0 d1, h]
theorem text_head {c d : Int} {s t r : List UInt8} (c0 : 0 ≤ c) (c1 : c ≤ 255) (d0 : 0 ≤ d) (d1 : d ≤ 255) (h : tText c s = tText d t ++ r) : c = d := by
  unfold tText hd at h
  simp only [List.cons_append, List.cons.injEq] at h
  exact byt_inj c0 c1 d0 d1 h.1
theorem beg_other {c d : Int} {s t : List UInt8} (c0 : 0 ≤ c) (c1 : c ≤ 255) (d0 : 0 ≤ d) (d1 : d ≤ 255) (h : c ≠ d) : beg (tText c s) (tText d t) = false := by
  rw [← Bool.not_eq_true, beg_iff]
  rintro ⟨r, hr⟩
  exact h (text_head c0 c1 d0 d1 hr)
theorem beg_text {c : Int} {s t : List UInt8} (c0 : 0 ≤ c) (c1 : c ≤ 255) (hs : s.length ≤ 16777215) (ht : t.length ≤ 16777215) : beg (tText c s) (tText c t) = (s == t) := by
  refine beg_of ⟨?_, ?_⟩
  · rintro ⟨r, hr⟩
    have h1 := rText_back c 16777215 s [] c0 c1 hs (by omega)
    rw [List.append_nil, hr, rText_back c 16777215 t r c0 c1 ht (by omega)] at h1
    injection h1 with h1 _
    simp [h1]
  · intro h
    obtain rfl : s = t := by simpa using h
    exact ⟨[], by simp⟩
theorem beg_num {c : Int} {n k : Nat} (c0 : 0 ≤ c) (c1 : c ≤ 255) (hn : n < 256 ^ 8) (hk : k < 256 ^ 8) : beg (tNum c n) (tNum c k) = ((n : Int) == (k : Int)) := by
  have h1 := digs_length n
  have h2 := digs_length k
  unfold tNum
  rw [beg_text c0 c1 (by omega) (by omega), Bool.eq_iff_iff, beq_iff_eq, beq_iff_eq]
  constructor
  · intro h
    have := congrArg val h
    rw [val_digs n hn, val_digs k hk] at this
    omega
  · intro h
    obtain rfl : n = k := by omega
    rfl
theorem beg_all {c : Int} {L M : List (List UInt8)} (c0 : 0 ≤ c) (c1 : c ≤ 255) (hL : ∀ b ∈ L, b.length ≤ 16777215) (hM : ∀ b ∈ M, b.length ≤ 16777215) (hl : (catT c L).length ≤ 16777215) (hm : (catT c M).length ≤ 16777215) :
    beg (tAll c L) (tAll c M) = sameL L M := by
  unfold tAll
  rw [beg_text c0 c1 hl hm, Bool.eq_iff_iff, beq_iff_eq, sameL_eq]
  constructor
  · intro h
    have h1 := bodies_back c 16777215 c0 c1 L (fun b hb => by have := hL b hb; omega) hL
    rw [h, bodies_back c 16777215 c0 c1 M (fun b hb => by have := hM b hb; omega) hM] at h1
    injection h1 with h1
    exact h1.symm
  · rintro rfl
    rfl

set_option maxHeartbeats 800000 in
theorem begins01_any (s t : List UInt8) (u : Bool) (w : World) (hu : beg s t = u) :
    Calls Try.prog 22 #[str s, str t] w fun e w' => e = .returned (.bool u) ∧ w = w' := by
  by_cases h : t.length ≤ s.length
  · have hq : (List.take t.length s == t) = u := hu
    clear hu
    go_enter Try.func22, Try.ntmps22
    go_wp2
    go_ret
    exact ⟨rfl, rfl⟩
  · obtain rfl : u = false := by
      rw [← hu, ← Bool.not_eq_true, beg_iff]
      rintro ⟨r, rfl⟩
      exact h (by simp)
    clear hu
    have h' : s.length < t.length := by omega
    go_enter Try.func22, Try.ntmps22
    go_wp2
    go_ret
    exact ⟨rfl, rfl⟩
end Go.Proofs.Ytjanmonoigpmcaa

/-
  What the document's Same returns: are two lists of texts the same? For rows that a call has made itself.
-/
import Derived.Test.YtjanmonoigpmcaaStrs
import Derived.Deep.QuietTactic
import Derived.BigQuiet
namespace Go.Proofs.Ytjanmonoigpmcaa
open Go.RowKit

set_option maxRecDepth 100000 in
set_option maxHeartbeats 800000 in
theorem same_len (p p' : Option Addr) (n n' c c' : Nat) (w : World) (h : n ≠ n') :
    Calls Try.prog 21 #[.slice p n c, .slice p' n' c'] w fun e w' => e = .returned (.bool false) ∧ Below w.heap.size w w' := by
  have hb : ((n : Int) != (n' : Int)) = true := by simpa using fun e => h (by omega)
  go_enter Try.func21, Try.ntmps21
  go_wp2
  go_ret
  exact ⟨rfl, Below.refl _ _⟩
set_option maxRecDepth 100000 in
set_option maxHeartbeats 800000 in
theorem same_none (p p' : Option Addr) (c c' : Nat) (w : World) :
    Calls Try.prog 21 #[.slice p 0 c, .slice p' 0 c'] w fun e w' => e = .returned (.bool true) ∧ Below w.heap.size w w' := by
  go_enter Try.func21, Try.ntmps21
  go_wp2
  refine wp_loop_rounds 1 ?_
  rw [rounds_succ]
  go_wp2
  go_ret
  exact ⟨rfl, Below.refl _ _⟩
theorem take_same {L M : List (List UInt8)} {k : Nat} (h : L.take k = M.take k) (hk : k < L.length) (hk' : k < M.length) (he : L[k] = M[k]) : L.take (k + 1) = M.take (k + 1) := by
  rw [List.take_succ_eq_append_getElem hk, List.take_succ_eq_append_getElem hk', h, he]

set_option maxRecDepth 100000 in
set_option maxHeartbeats 1600000 in
theorem same_rows (g g' : Nat) (L M : List (List UInt8)) (c c' : Nat) (w : World) (hlen : L.length = M.length) (hmax : L.length ≤ maxLen) (hg : g < w.heap.size) (hg' : g' < w.heap.size)
    (hL : ∀ i (h : i < L.length), w.cell? ⟨g, i, none⟩ = some (str L[i])) (hM : ∀ i (h : i < M.length), w.cell? ⟨g', i, none⟩ = some (str M[i])) :
    Calls Try.prog 21 #[.slice (some ⟨g, 0, none⟩) L.length c, .slice (some ⟨g', 0, none⟩) M.length c'] w fun e w' => e = .returned (.bool (sameL L M)) ∧ Below w.heap.size w w' := by
  have HL := Lib.hid hL
  have HM := Lib.hid hM
  clear hL hM
  unfold maxLen at hmax
  rw [← hlen]
  have HE := Lib.hid hlen
  clear hlen
  obtain ⟨u, hu⟩ : ∃ u, sameL L M = u := ⟨_, rfl⟩
  rw [hu]
  have HU := Lib.hid hu
  clear hu
  go_enter Try.func21, Try.ntmps21
  go_wp2
  go_loopw [5] (fun i wr => ∃ k : Nat, k ≤ L.length ∧ i = .int .i64 k ∧ L.take k = M.take k ∧ Below w.heap.size w wr) (fun i _ => L.length - (intOf i).toNat)
  case atStart => exact ⟨0, Nat.zero_le _, rfl, by simp, Below.refl _ _⟩
  case round =>
    obtain ⟨k, hk, rfl, htk, hnx⟩ := hrel
    have Htk := Lib.hid htk
    clear htk
    by_cases hlt : k < L.length
    · have hlt' : k < M.length := by have := HE.out; omega
      have c1 : wr.cell? ⟨g, k, none⟩ = some (str L[k]) := (hnx.cell (p := ⟨g, k, none⟩) hg).trans (HL.out k hlt)
      have c2 : wr.cell? ⟨g', k, none⟩ = some (str M[k]) := (hnx.cell (p := ⟨g', k, none⟩) hg').trans (HM.out k hlt')
      by_cases he : L[k] = M[k]
      · have Hstep := Lib.hid (take_same Htk.out hlt hlt' he)
        rw [← he] at c2
        obtain ⟨A, hA⟩ : ∃ A, L[k] = A := ⟨_, rfl⟩
        rw [hA] at c1 c2
        clear he hA hlt'
        go_wp2
        go_quiet (fail)
        go_wp2
        go_roundw
        case rel => exact ⟨k + 1, by omega, by go_num, Hstep.out, hnx.trans ⟨rfl, rfl, rfl, Nat.le_refl _, fun _ _ => rfl⟩⟩
        case measure => simp [intOf]; omega
      · have hS : sameL L M = false := by
          rcases hu : sameL L M with _ | _
          · rfl
          · have hLM := (sameL_eq L M).1 hu
            subst hLM
            exact absurd rfl he
        obtain rfl : u = false := by rw [← HU.out, hS]
        clear hS
        obtain ⟨A, hA⟩ : ∃ A, L[k] = A := ⟨_, rfl⟩
        obtain ⟨B, hB⟩ : ∃ B, M[k] = B := ⟨_, rfl⟩
        rw [hA] at c1 he
        rw [hB] at c2 he
        have heb : (A == B) = false := by simpa using he
        have hne : (A != B) = true := by simpa using he
        clear he hA hB hlt'
        go_wp2
        go_quiet (fail)
        go_wp2
        go_ret
        exact ⟨rfl, hnx.trans ⟨rfl, rfl, rfl, Nat.le_refl _, fun _ _ => rfl⟩⟩
    · obtain rfl : k = L.length := by omega
      have hLM : L = M := by
        have := Htk.out
        rw [List.take_length] at this
        rw [this, HE.out, List.take_length]
      obtain rfl : u = true := by rw [← HU.out, hLM, sameL_refl]
      go_wp2
      go_ret
      exact ⟨rfl, hnx⟩

theorem same_any (v v' : Value) (L M : List (List UInt8)) (B B' : Nat) (w : World) (hv : OwnS w B v L) (hv' : OwnS w B' v' M) :
    Calls Try.prog 21 #[v, v'] w fun e w' => e = .returned (.bool (sameL L M)) ∧ Below w.heap.size w w' := by
  have hm := hv.fits
  rcases hv.read with ⟨rfl, rfl⟩ | ⟨g, cap, rfl, _, h2, _, _, h5⟩ <;> rcases hv'.read with ⟨rfl, rfl⟩ | ⟨g', cap', rfl, _, k2, _, _, k5⟩
  · exact same_none _ _ _ _ w
  · cases M with
    | nil => exact same_none _ _ _ _ w
    | cons a M => exact same_len _ _ _ _ _ _ w (by simp)
  · cases L with
    | nil => exact same_none _ _ _ _ w
    | cons a L => exact same_len _ _ _ _ _ _ w (by simp)
  · by_cases he : L.length = M.length
    · exact same_rows g g' L M cap cap' w he hm h2 k2 h5 k5
    · have hS : sameL L M = false := by
        rcases hu : sameL L M with _ | _
        · rfl
        · exact absurd (congrArg List.length ((sameL_eq L M).1 hu)) he
      rw [hS]
      exact same_len _ _ _ _ _ _ w he
end Go.Proofs.Ytjanmonoigpmcaa

/-
  What link.parts and link.Check return: are all texts parts; may an end be? For texts of at most 2^47 bytes.
-/
import Derived.Test.YtlkgloakcpfnnaaPart
namespace Go.Proofs.Ytlkgloakcpfnnaa
open Go.RowKit

theorem all_take (L : List (List UInt8)) (k : Nat) (h : k < L.length) : (L.take (k + 1)).all partB = ((L.take k).all partB && partB L[k]) := by
  rw [List.take_succ_eq_append_getElem h, List.all_append]
  simp
theorem all_stop (L : List (List UInt8)) (k : Nat) (h : k < L.length) (hf : partB L[k] = false) : L.all partB = false := by
  rw [List.all_eq_false]
  exact ⟨L[k], List.getElem_mem h, by simp [hf]⟩

set_option maxRecDepth 100000 in
set_option maxHeartbeats 400000 in
theorem parts_any (L : List (List UInt8)) (g : Nat) (b : Bool) (w : World) (hb : L.all partB = b) (hL : L.length ≤ 8) (hs : ∀ i (h : i < L.length), L[i].length ≤ 140737488351232)
    (hc : ∀ i (h : i < L.length), w.cell? ⟨g, i, none⟩ = some (str L[i])) (hg : g < w.heap.size) :
    Calls Try.prog 49 #[.slice (some ⟨g, 0, none⟩) L.length L.length] w fun e w' => e = .returned (.bool b) ∧ Below w.heap.size w w' := by
  have Hb := Lib.hid hb
  have Hs := Lib.hid hs
  have Hc := Lib.hid hc
  clear hb hs hc
  go_enter Try.func49, Try.ntmps49
  go_wp2
  go_step3
  go_wp2
  go_step3
  go_wp2
  go_loopw [3, 8] (fun r i wr => ∃ k : Nat, k ≤ L.length ∧ r = .bool true ∧ i = .int .i64 k ∧ (L.take k).all partB = true ∧ Below w.heap.size w wr) (fun _ i _ => L.length - (intOf i).toNat)
  case atStart => exact ⟨0, Nat.zero_le _, rfl, rfl, by simp, Below.refl _ _⟩
  case round =>
    obtain ⟨k, hk, rfl, rfl, hall, hnx⟩ := hrel
    have Hall := Lib.hid hall
    clear hall
    by_cases hlt : k < L.length
    · have hcell : wr.cell? ⟨g, k, none⟩ = some (str L[k]) := (hnx.cell (by exact hg)).trans (Hc.out k hlt)
      obtain ⟨b1, hb1⟩ : ∃ b1, partB L[k] = b1 := ⟨_, rfl⟩
      have Hb1 := Lib.hid hb1
      clear hb1
      cases b1
      · go_wp2_with (go_at_call 69; refine (part_any L[k] false _ Hb1.out (Hs.out k hlt)).mono ?_; rintro e w1 ⟨rfl, hn1⟩)
        rw [Exit.noGoto_ret]
        go_ret
        exact ⟨by rw [← Hb.out, all_stop L k hlt Hb1.out]; rfl, hnx.trans (hn1.mono hnx.size)⟩
      · go_wp2_with (go_at_call 69; refine (part_any L[k] true _ Hb1.out (Hs.out k hlt)).mono ?_; rintro e w1 ⟨rfl, hn1⟩)
        go_roundw
        case rel => exact ⟨k + 1, by omega, rfl, by go_num, by rw [all_take L k hlt, Hall.out, Hb1.out]; rfl, hnx.trans (hn1.mono hnx.size)⟩
        case measure => simp [intOf]; omega
    · obtain rfl : k = L.length := by omega
      have hall := Hall.out
      rw [List.take_length] at hall
      have hbt := Hb.out
      rw [hall] at hbt
      subst hbt
      go_wp2
      rw [Exit.noGoto_ret]
      go_ret
      exact ⟨rfl, hnx⟩
end Go.Proofs.Ytlkgloakcpfnnaa

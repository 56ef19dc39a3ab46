/-
  What the example of layer 6 (awake) returns: true. No conditions beside those in each theorem.
-/
import Derived.Test.YtiighehibiijcaaLaw06
namespace Go.Proofs.Ytiighehibiijcaa
open Go.RowKit
set_option linter.unusedSimpArgs false
set_option linter.unnecessarySimpa false

theorem KeepIs.ofBlk {w : World} {g gm b : Nat} {v : Value} {cap B : Nat} {d : Dev} {ks : List Bool} {n c : Nat} (hd : IsDev w g gm v cap B d) (hb : Blk w b 4 (ks.map Value.bool).toArray) (hl : ks.length ≤ maxLen) (hn : n = ks.length) :
    KeepIs w g gm v (.slice (some ⟨b, 0, Option.none⟩) n c) ks := by
  subst hn
  refine ⟨hl, _, c, rfl, fun _ => ⟨b, 0, rfl, hb.lt, fun w' v' ht i hi => ?_⟩⟩
  have h := (hd.keep ht hb (by decide) (by decide)).cell (0 + i)
  rw [h]
  simp [hi]
theorem goes_free {d : Dev} (h : d.armed = false) : goesD d = true := by simp [goesD, h]
theorem ok_small {d : Dev} (h1 : d.left = 0) (h2 : 0 ≤ d.steps) (h3 : d.steps ≤ 1000000) (h4 : d.waits.length ≤ 1000000) : OkD d := ⟨by omega, by omega, h2, by omega, by omega⟩
def aw1 : Dev := ⟨4, fun _ => none, [(0, secB 97)], true, false, 0, 1⟩
def aw2 : Dev := ⟨4, fun _ => none, [(0, secB 97), (1, secB 98)], true, false, 0, 2⟩
def aw3 : Dev := crashD [false, true] (-1) (min (max (0 : Int) 0) 64).toNat aw2
theorem aw1_is : writeR (newD 4) 0 (secB 97) = aw1 := rfl
theorem aw2_is : writeR aw1 1 (secB 98) = aw2 := rfl
theorem aw1_e : writeE (newD 4) 0 (secB 97) = 0 := rfl
theorem aw2_e : writeE aw1 1 (secB 98) = 0 := rfl
theorem aw3_e0 : readE aw3 0 = 0 := rfl
theorem aw3_e1 : readE aw3 1 = 0 := rfl
theorem aw1_ok : OkD aw1 := ok_small rfl (by decide) (by decide) (by decide)
theorem aw0_ok : OkD (newD 4) := ok_small rfl (by decide) (by decide) (by decide)
theorem aw2_safe : SafeOk aw2 := fun k s h => by cases h
theorem aw2_n : aw2.n ≠ 0 := by decide
theorem aw3_wl : aw3.waits.length < 4611686018427 := by decide
theorem aw2_wl (n : Nat) (h : n ≤ 1000) : n + aw2.waits.length < 4611686018427 := by have : aw2.waits.length = 2 := rfl; omega
theorem aw3_0 : readS aw3 0 = secB 0 := rfl
theorem aw3_1 : readS aw3 1 = secB 98 := rfl
theorem aw2_wait : WaitOk aw2.n aw2.waits := by
  intro p hp
  simp only [aw2, List.mem_cons, List.not_mem_nil, or_false] at hp
  rcases hp with rfl | rfl
  · exact ⟨rfl, secB_length _, rfl⟩
  · exact ⟨rfl, secB_length _, rfl⟩

set_option maxRecDepth 100000 in
set_option maxHeartbeats 1600000 in
theorem awake06_any (w : World) : Calls Try.prog 15 #[] w fun e w' => e = .returned (.bool true) ∧ Below w.heap.size w w' := by
  go_enter Try.func15, Try.ntmps15
  go_wp2_with fail
  refine (new_any _ 4 (by omega) (by omega)).mono ?_
  rintro e w1 ⟨rfl, hd1, hb1⟩
  have z1 := hb1.size
  obtain ⟨g, hg⟩ : ∃ g, w.heap.size + 1 = g := ⟨_, rfl⟩
  obtain ⟨gm, hgm⟩ : ∃ gm, w.heap.size = gm := ⟨_, rfl⟩
  have T1 := Lib.hid (Touch.refl g gm w1 (.slice none 0 0))
  rw [hg] at hd1 ⊢
  have HD1 := Lib.hid hd1
  rw [hgm] at HD1
  clear hg hd1
  go_wp2_with fail
  refine (sector_any 97 _).mono ?_
  rintro e w2 ⟨rfl, hb2⟩
  have HD2 := Lib.hid (HD1.out.step hb2)
  have T2 := Lib.hid (T1.out.trans (Touch.of_below (v := .slice none 0 0) hb2))
  go_wp2_with fail
  refine (write_any _ g gm _ _ _ _ 0 (secB 97) HD2.out aw0_ok).mono ?_
  rw [aw1_is, aw1_e]
  rintro e w3 ⟨rfl, v3, hd3, t3⟩
  have HD3 := Lib.hid hd3
  have T3 := Lib.hid (T2.out.trans t3)
  clear hd3 t3
  go_wp2_with fail
  refine (sector_any 98 _).mono ?_
  rintro e w4 ⟨rfl, hb4⟩
  have HD4 := Lib.hid (HD3.out.step hb4)
  have T4 := Lib.hid (T3.out.trans (Touch.of_below (v := v3) hb4))
  go_wp2_with fail
  refine (write_any _ g gm _ _ _ _ 1 (secB 98) HD4.out aw1_ok).mono ?_
  rw [aw2_is, aw2_e]
  rintro e w5 ⟨rfl, v5, hd5, t5⟩
  have HD5 := Lib.hid (hd5.step ((Below.refl w5.heap.size w5).alloc (Nat.le_refl _) (.cells #[.bool false, .bool true] 4)))
  have T5 := Lib.hid ((T4.out.trans t5).trans (Touch.of_below (g := g) (gm := gm) (v := v5) ((Below.refl w5.heap.size w5).alloc (Nat.le_refl _) (.cells #[.bool false, .bool true] 4))))
  have K5 := Lib.hid (KeepIs.ofBlk (n := 2) (c := 2) (ks := [false, true]) HD5.out (Blk.new w5 4 #[.bool false, .bool true]) (by decide) rfl)
  clear hd5 t5
  go_wp2_with fail
  refine (crash_any _ g gm _ _ _ _ _ [false, true] (-1) 0 HD5.out K5.out aw2_safe aw2_wait aw2_n (aw2_wl 0 (by decide))).mono ?_
  rintro e w6 ⟨rfl, cap6, hc6, hd6, t6⟩
  have HD6 := Lib.hid (show IsDev w6 g gm (.slice none 0 0) cap6 _ aw3 from hd6)
  have T6 := Lib.hid (T5.out.trans t6)
  clear hd6 t6
  go_wp2_with fail
  refine (read_any _ g gm _ _ _ _ 0 HD6.out rfl aw3_wl).mono ?_
  rw [aw3_0, aw3_e0]
  rintro e w7 ⟨rfl, hb7⟩
  have HD7 := Lib.hid (HD6.out.step hb7)
  have T7 := Lib.hid (T6.out.trans (Touch.of_below (g := g) (gm := gm) (v := .slice none 0 0) hb7))
  go_wp2_with fail
  refine (read_any _ g gm _ _ _ _ 1 HD7.out rfl aw3_wl).mono ?_
  rw [aw3_1, aw3_e1]
  rintro e w8 ⟨rfl, hb8⟩
  have T8 := Lib.hid (T7.out.trans (Touch.of_below (g := g) (gm := gm) (v := .slice none 0 0) hb8))
  go_wp2_with fail
  refine (sector_any 0 _).mono ?_
  rintro e w9 ⟨rfl, hb9⟩
  have T9 := Lib.hid (T8.out.trans (Touch.of_below (g := g) (gm := gm) (v := .slice none 0 0) hb9))
  go_wp2_with fail
  refine (sector_any 98 _).mono ?_
  rintro e w10 ⟨rfl, hb10⟩
  have T10 := Lib.hid (T9.out.trans (Touch.of_below (g := g) (gm := gm) (v := .slice none 0 0) hb10))
  go_wp2_with fail
  go_ret
  exact ⟨rfl, hb1.trans (by rw [hgm]; exact HD1.out.below T10.out (Nat.le_refl _) (by rw [← hgm]; exact z1))⟩
end Go.Proofs.Ytiighehibiijcaa

/-
  The walk of CheckTwo: it returns true for every two bodies and byte. No conditions beside those in each theorem.
-/
import Derived.Test.YtlkgloakcpfnnaaCheckAll
import Derived.Test.YtlkgloakcpfnnaaCheckSums
namespace Go.Proofs.Ytlkgloakcpfnnaa
open Go.RowKit

theorem tRec_inj {a b : List UInt8} (ha : a.length ≤ 1048576) (hb : b.length ≤ 1048576) (h : tRec a = tRec b) : a = b := by
  have h1 := take_back a [] ha
  have h2 := take_back b [] hb
  rw [h, h2] at h1
  injection h1 with h3
  exact h3.symm
theorem all_back (a rest : List UInt8) (ha : a.length ≤ 1048576) : allR (tRec a ++ rest) = (a :: (allR rest).1, (tRec a).length + (allR rest).2) := by
  rw [allR_step (take_back a rest ha), List.drop_left]
theorem all_two (a b : List UInt8) (ha : a.length ≤ 1048576) (hb : b.length ≤ 1048576) : allR (tRec a ++ tRec b) = ([a, b], (tRec a).length + (tRec b).length) := by
  have h := all_back b [] hb
  rw [List.append_nil, show allR [] = ([], 0) from rfl] at h
  rw [all_back a _ ha, h]
  simp
theorem take_other (c : UInt8) (s : List UInt8) (hc : c ≠ 82) : takeR (c :: s) = ([], 0, 10) := by
  have : rText 82 1048576 (c :: s, false) = ([], c :: s, true) := by
    unfold rText
    split
    · rename_i h
      injection h with h1 h2
      injection h1 with h3 h4
      subst h3 h4
      rw [if_neg]
      rintro ⟨h5, _⟩
      apply hc
      exact UInt8.toNat_inj.1 (by show c.toNat = 82; omega)
    · rename_i h
      injection h with h1 h2
      subst h1
      rfl
  unfold takeR
  rw [this]

set_option maxRecDepth 100000 in
set_option maxHeartbeats 1600000 in
theorem checkTwo_walk (a b : List UInt8) (c : Int) (c0 : 0 ≤ c) (c1 : c ≤ 255) (w : World) :
    Calls Try.prog 12 #[str a, str b, .int .u8 c] w fun e w' => e = .returned (.bool true) ∧ Below w.heap.size w w' := by
  obtain ⟨A, hA⟩ : ∃ A, A = a.take 80 := ⟨_, rfl⟩
  obtain ⟨B, hB⟩ : ∃ B, B = b.take 80 := ⟨_, rfl⟩
  have hAl : A.length ≤ 80 := by rw [hA, List.length_take]; omega
  have hBl : B.length ≤ 80 := by rw [hB, List.length_take]; omega
  have HA := Lib.hid hA
  have HB := Lib.hid hB
  clear hA hB
  have hla := tRec_length A
  have hlb := tRec_length B
  have hinj := tRec_inj (a := A) (b := B) (by omega) (by omega)
  have h2 := all_two A B (by omega) (by omega)
  obtain ⟨X, hX⟩ : ∃ X, tRec A = X := ⟨_, rfl⟩
  obtain ⟨Y, hY⟩ : ∃ Y, tRec B = Y := ⟨_, rfl⟩
  rw [hX] at hla hinj h2
  rw [hY] at hlb hinj h2
  have hl1 := hla.2
  have hl2 := hlb.2
  have heq : ∃ u : Bool, (A == B) = u ∧ (X == Y) = u := by
    by_cases h : A = B
    · refine ⟨true, by simpa using h, ?_⟩
      rw [← hX, ← hY, h]
      simp
    · refine ⟨false, by simpa using h, ?_⟩
      simpa using fun e => h (hinj e)
  obtain ⟨u, hu1, hu2⟩ := heq
  obtain ⟨⟨t, n, er⟩, ht⟩ : ∃ q, takeR (byt c :: X) = q := ⟨_, rfl⟩
  have her : c = 82 ∨ er = 10 := by
    by_cases h82 : c = 82
    · exact .inl h82
    · refine .inr ?_
      rw [take_other (byt c) X (by
        intro e
        have := byt_toNat c c0 c1
        rw [e] at this
        exact h82 this.symm)] at ht
      simp only [Prod.mk.injEq] at ht
      exact ht.2.2.symm
  have HX := Lib.hid hX
  have HY := Lib.hid hY
  have HT := Lib.hid ht
  have H2 := Lib.hid h2
  have Hu1 := Lib.hid hu1
  have Hu2 := Lib.hid hu2
  clear hX hY ht h2 hinj hla hlb hu1 hu2
  go_enter Try.func12, Try.ntmps12
  go_wp2_with fail
  refine (awake05_any _).mono ?_
  rintro e w1 ⟨rfl, hb1⟩
  have z1 := hb1.size
  go_wp2_with fail
  refine (short05_any a 80 _).mono ?_
  rw [← HA.out]
  rintro e w2 ⟨rfl, rfl⟩
  go_wp2_with fail
  refine (short05_any b 80 _).mono ?_
  rw [← HB.out]
  rintro e w2 ⟨rfl, rfl⟩
  go_wp2_with fail
  refine (put_any A _ (by omega)).mono ?_
  rw [HX.out]
  rintro e w3 ⟨rfl, hb3⟩
  have hb3' := bel_step hb1 hb3
  go_wp2_with fail
  refine (put_any B _ (by omega)).mono ?_
  rw [HY.out]
  rintro e w4 ⟨rfl, hb4⟩
  have hb4' := bel_step hb3' hb4
  go_wp2_with fail
  refine (all_any (X ++ Y) _ (by rw [List.length_append]; omega)).mono ?_
  rw [H2.out]
  rintro e w5 ⟨v, rfl, hown, hb5⟩
  have hb5' := bel_step hb4' hb5
  have z5 := hb5'.size
  clear hb1 hb3 hb4 hb5 hb3' hb4'
  rcases hown.read with ⟨_, hn⟩ | ⟨g, cap, rfl, hg1, hg2, hg3, hg4, hcell⟩
  · cases hn
  · have cA := hcell 0 (by show 0 < 2; decide)
    have cB := hcell 1 (by show 1 < 2; decide)
    simp only [List.getElem_cons_zero, List.getElem_cons_succ] at cA cB
    simp only [List.length_cons, List.length_nil] at hg3
    clear hown hcell
    have kc := run_str_one (P := Try.prog) w5 24 9 5 5 c c0 c1 Try.underlying24 Try.underlying5 Try.underlying9
    go_wp2_with fail
    refine (take_any (byt c :: X) t n er _ HT.out (by rw [List.length_cons]; omega)).mono ?_
    rintro e w6 ⟨rfl, hb6⟩
    have hbx : Below w5.heap.size w5 w6 := bel_step ((Below.refl w5.heap.size w5).alloc (Nat.le_refl _) _) hb6
    have hb6' := bel_step hb5' hbx
    have cA6 := (hbx.cell (p := ⟨g, 0, none⟩) hg2).trans cA
    have cB6 := (hbx.cell (p := ⟨g, 1, none⟩) hg2).trans cB
    have hu1 := Hu1.out
    have hu2 := Hu2.out
    clear kc hb6 hbx cA cB
    rcases her with rfl | rfl <;> cases u
    · go_wp2
      go_ret
      exact ⟨rfl, hb6'⟩
    · go_wp2
      go_ret
      exact ⟨rfl, hb6'⟩
    · by_cases h82 : c = 82
      · subst h82
        go_wp2
        go_ret
        exact ⟨rfl, hb6'⟩
      · go_wp2
        go_ret
        exact ⟨rfl, hb6'⟩
    · by_cases h82 : c = 82
      · subst h82
        go_wp2
        go_ret
        exact ⟨rfl, hb6'⟩
      · go_wp2
        go_ret
        exact ⟨rfl, hb6'⟩
end Go.Proofs.Ytlkgloakcpfnnaa

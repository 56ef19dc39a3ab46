/-
  What link.Read returns, and the document's: the same end, or none. For bytes within the reach.
-/
import Derived.Test.YtlkgloakcpfnnaaLinkF
namespace Go.Proofs.Ytlkgloakcpfnnaa
open Go.RowKit

/-- An end, read off bytes. -/
def readE (s : List UInt8) : En × Int :=
  let q1 := rInt 115 4 (s, false)
  let q2 := rText 111 32 q1.2
  let q3 := rText 113 32 q2.2
  let q4 := rText 112 32 q3.2
  if rEnd q4.2 = 0 ∧ checkE (q1.1, q2.1, q3.1, q4.1) = true then ((q1.1, q2.1, q3.1, q4.1), 0) else (noEn, 10)
theorem rEnd_two (r : Rd) : rEnd r = 0 ∨ rEnd r = 10 := by unfold rEnd; split <;> simp
theorem blk_apart {w : World} {g g' : Nat} {t t' : TypeId} {cs cs' : Array Value} (h : Blk w g t cs) (h' : Blk w g' t' cs') (ht : t ≠ t') : g ≠ g' := by
  rintro rfl
  unfold Blk at h h'
  rw [h] at h'
  injection h' with h'
  injection h' with _ h4 _
  exact ht h4

set_option maxRecDepth 100000 in
set_option maxHeartbeats 3200000 in
theorem linkRead_any (s : List UInt8) (x : Int) (a b c : List UInt8) (er : Int) (w : World) (hr : readE s = ((x, a, b, c), er)) (hs : s.length ≤ 140737488351232) :
    Calls Try.prog 40 #[str s] w fun e w' => e = .returned (.tuple #[.agg #[.int .i64 x, str a, str b, str c], .int .i64 er]) ∧ Below w.heap.size w w' := by
  obtain ⟨⟨n, s1, b1⟩, h1⟩ : ∃ q, rInt 115 4 (s, false) = q := ⟨_, rfl⟩
  obtain ⟨⟨o, s2, b2⟩, h2⟩ : ∃ q, rText 111 32 (s1, b1) = q := ⟨_, rfl⟩
  obtain ⟨⟨q, s3, b3⟩, h3⟩ : ∃ q, rText 113 32 (s2, b2) = q := ⟨_, rfl⟩
  obtain ⟨⟨p, s4, b4⟩, h4⟩ : ∃ q, rText 112 32 (s3, b3) = q := ⟨_, rfl⟩
  have hrr : readE s = if rEnd (s4, b4) = 0 ∧ checkE (n, o, q, p) = true then ((n, o, q, p), 0) else (noEn, 10) := by
    unfold readE
    simp only [h1, h2, h3, h4]
  rw [hrr] at hr
  clear hrr
  have l1 : s1.length ≤ s.length := rInt_left_le h1
  have l2 : s2.length ≤ s1.length := rText_left_le h2
  have l3 : s3.length ≤ s2.length := rText_left_le h3
  have fo : Fits o := by unfold Fits; have := rText_le h2 (by decide); omega
  have fq : Fits q := by unfold Fits; have := rText_le h3 (by decide); omega
  have fp : Fits p := by unfold Fits; have := rText_le h4 (by decide); omega
  have H1 := Lib.hid h1
  have H2 := Lib.hid h2
  have H3 := Lib.hid h3
  have H4 := Lib.hid h4
  clear h1 h2 h3 h4
  obtain ⟨v, hv⟩ : ∃ v, checkE (n, o, q, p) = v := ⟨_, rfl⟩
  obtain ⟨f, hf⟩ : ∃ f, rEnd (s4, b4) = f := ⟨_, rfl⟩
  have hff := rEnd_two (s4, b4)
  rw [hf] at hff
  rw [hv, hf] at hr
  have HV := Lib.hid hv
  have HE := Lib.hid hf
  have HR := Lib.hid hr
  clear hv hf hr
  go_enter Try.func40, Try.ntmps40
  go_wp2_with fail

  refine (read_any s _).mono ?_
  rintro e w1 ⟨rfl, rfl⟩
  have R1 := Lib.hid (read_isRd s (w.alloc (.cells #[.int .i64 0, str [], str [], str []] 35)))
  have G1 := Lib.hid ((Blk.new w 35 #[.int .i64 0, str [], str [], str []]).alloc (.cells #[str s, .bool false] 92))
  have hb1 : Below w.heap.size w ((w.alloc (.cells #[.int .i64 0, str [], str [], str []] 35)).alloc (.cells #[str s, .bool false] 92)) := ((Below.refl _ w).alloc (Nat.le_refl _) _).alloc (by simp) _
  generalize (w.alloc (.cells #[.int .i64 0, str [], str [], str []] 35)).alloc (.cells #[str s, .bool false] 92) = w1 at *
  simp only [World.size_alloc] at *
  go_wp2_with fail
  refine (readInt_any s false 115 4 _ _ R1.out (by decide) (by decide) hs (by decide) n s1 b1 H1.out).mono ?_
  rintro e w2 ⟨rfl, hr2, hu2⟩
  have R2 := Lib.hid hr2
  have G2 := Lib.hid (Blk.grown G1.out hu2 (by simp))
  have hb2 := hb1.trans (upd_below hu2 hb1.size (by omega))
  clear hr2 hu2 R1 G1 hb1
  go_wp2_with fail
  have R3 := Lib.hid (Blk.alloc R2.out (.cells #[.int .i64 n, str [], str [], str []] 35))
  have G3 := Lib.hid (G2.out.alloc (.cells #[.int .i64 n, str [], str [], str []] 35))
  have E3 := Lib.hid (Blk.new w2 35 #[.int .i64 n, str [], str [], str []])
  have hb3 := hb2.alloc hb2.size (.cells #[.int .i64 n, str [], str [], str []] 35)
  have hlt : w.heap.size + 1 < w2.heap.size := Blk.lt R2.out
  clear R2 G2 hb2
  generalize w2.alloc (.cells #[.int .i64 n, str [], str [], str []] 35) = w3 at *
  generalize w2.heap.size = gE at *

  refine (readText_any s1 b1 111 32 _ _ R3.out (by decide) (by decide) (by omega) (by decide) o s2 b2 H2.out).mono ?_
  rintro e u3 ⟨rfl, hr, hu⟩
  have R3' := Lib.hid hr
  have G3' := Lib.hid (Blk.grown G3.out hu (by simp))
  have E3' := Lib.hid (Blk.grown E3.out hu (by simpa using blk_apart E3.out R3.out (by decide)))
  have hb3' := hb3.trans (upd_below hu hb3.size (by omega))
  obtain ⟨d0, d1, d2, d3, f0, f1, f2, f3⟩ := cells4 E3'.out
  clear hr hu R3 G3 E3 hb3
  go_wp2_with fail
  have R4 := Lib.hid (Blk.far R3'.out (p := ⟨gE, 1, none⟩) (blk_apart R3'.out E3'.out (by decide)) (str o))
  have G4 := Lib.hid (Blk.far G3'.out (p := ⟨gE, 1, none⟩) (by simp; omega) (str o))
  have E4 := Lib.hid (show Blk (u3.setCell ⟨gE, 1, none⟩ (str o)) gE 35 #[.int .i64 n, str o, str [], str []] from E3'.out.set_ 1 (str o))
  have hb4 := hb3'.setCell (p := ⟨gE, 1, none⟩) (by simp; omega) (str o)
  clear d0 d1 d2 d3 f0 f1 f2 f3 R3' G3' E3' hb3'
  generalize u3.setCell ⟨gE, 1, none⟩ (str o) = w4 at *

  refine (readText_any s2 b2 113 32 _ _ R4.out (by decide) (by decide) (by omega) (by decide) q s3 b3 H3.out).mono ?_
  rintro e u4 ⟨rfl, hr, hu⟩
  have R4' := Lib.hid hr
  have G4' := Lib.hid (Blk.grown G4.out hu (by simp))
  have E4' := Lib.hid (Blk.grown E4.out hu (by simpa using blk_apart E4.out R4.out (by decide)))
  have hb4' := hb4.trans (upd_below hu hb4.size (by omega))
  obtain ⟨d0, d1, d2, d3, f0, f1, f2, f3⟩ := cells4 E4'.out
  clear hr hu R4 G4 E4 hb4
  go_wp2_with fail
  have R5 := Lib.hid (Blk.far R4'.out (p := ⟨gE, 2, none⟩) (blk_apart R4'.out E4'.out (by decide)) (str q))
  have G5 := Lib.hid (Blk.far G4'.out (p := ⟨gE, 2, none⟩) (by simp; omega) (str q))
  have E5 := Lib.hid (show Blk (u4.setCell ⟨gE, 2, none⟩ (str q)) gE 35 #[.int .i64 n, str o, str q, str []] from E4'.out.set_ 2 (str q))
  have hb5 := hb4'.setCell (p := ⟨gE, 2, none⟩) (by simp; omega) (str q)
  clear d0 d1 d2 d3 f0 f1 f2 f3 R4' G4' E4' hb4'
  generalize u4.setCell ⟨gE, 2, none⟩ (str q) = w5 at *

  refine (readText_any s3 b3 112 32 _ _ R5.out (by decide) (by decide) (by omega) (by decide) p s4 b4 H4.out).mono ?_
  rintro e u5 ⟨rfl, hr, hu⟩
  have R5' := Lib.hid hr
  have G5' := Lib.hid (Blk.grown G5.out hu (by simp))
  have E5' := Lib.hid (Blk.grown E5.out hu (by simpa using blk_apart E5.out R5.out (by decide)))
  have hb5' := hb5.trans (upd_below hu hb5.size (by omega))
  obtain ⟨d0, d1, d2, d3, f0, f1, f2, f3⟩ := cells4 E5'.out
  clear hr hu R5 G5 E5 hb5
  go_wp2_with fail
  have R6 := Lib.hid (Blk.far R5'.out (p := ⟨gE, 3, none⟩) (blk_apart R5'.out E5'.out (by decide)) (str p))
  have G6 := Lib.hid (Blk.far G5'.out (p := ⟨gE, 3, none⟩) (by simp; omega) (str p))
  have E6 := Lib.hid (show Blk (u5.setCell ⟨gE, 3, none⟩ (str p)) gE 35 #[.int .i64 n, str o, str q, str p] from E5'.out.set_ 3 (str p))
  have hb6 := hb5'.setCell (p := ⟨gE, 3, none⟩) (by simp; omega) (str p)
  clear d0 d1 d2 d3 f0 f1 f2 f3 R5' G5' E5' hb5'
  generalize u5.setCell ⟨gE, 3, none⟩ (str p) = w6 at *

  obtain ⟨d0, d1, d2, d3, f0, f1, f2, f3⟩ := cells4 E6.out
  refine (end_any s4 b4 _ _ R6.out).mono ?_
  rw [HE.out]
  rintro e wq ⟨rfl, rfl⟩
  have hr := HR.out
  clear HE H1 H2 H3 H4 HR
  rcases hff with rfl | rfl
  · go_wp2_with fail
    refine (check_any n o q p v _ HV.out fo fq fp).mono ?_
    rintro e w7 ⟨rfl, hb⟩
    have G7 := Lib.hid (G6.out.step hb)
    have E7 := Lib.hid (E6.out.step hb)
    have hb7 := bel_step hb6 hb
    clear d0 d1 d2 d3 f0 f1 f2 f3 hb G6 E6 R6 hb6
    cases v
    · rw [if_neg (by simp)] at hr
      simp only [noEn, Prod.mk.injEq] at hr
      obtain ⟨⟨rfl, rfl, rfl, rfl⟩, rfl⟩ := hr
      obtain ⟨e0, e1, e2, e3, g0, g1, g2, g3⟩ := cells4 G7.out
      go_wp2
      refine bodyPost_ret (results_cellrow_tmp rfl _ _ w.heap.size 35 #[.int .i64 0, str [], str [], str []] _ rfl ?_ Try.underlying35 rfl Try.sizeEnd) rfl ⟨rfl, ?_⟩
      · exact (((G7.out.set_ 0 _).set_ 1 _).set_ 2 _).set_ 3 _
      · exact (((hb7.setCell (by simp) _).setCell (by simp) _).setCell (by simp) _).setCell (by simp) _
    · rw [if_pos (by simp)] at hr
      simp only [Prod.mk.injEq] at hr
      obtain ⟨⟨rfl, rfl, rfl, rfl⟩, rfl⟩ := hr
      obtain ⟨e0, e1, e2, e3, g0, g1, g2, g3⟩ := cells4 G7.out
      obtain ⟨d0, d1, d2, d3, -⟩ := cells4 E7.out
      go_wp2
      refine bodyPost_ret (results_cellrow_tmp rfl _ _ w.heap.size 35 #[.int .i64 n, str o, str q, str p] _ rfl ?_ Try.underlying35 rfl Try.sizeEnd) rfl ⟨rfl, ?_⟩
      · exact (((G7.out.set_ 0 _).set_ 1 _).set_ 2 _).set_ 3 _
      · exact (((hb7.setCell (by simp) _).setCell (by simp) _).setCell (by simp) _).setCell (by simp) _
  · rw [if_neg (by simp)] at hr
    simp only [noEn, Prod.mk.injEq] at hr
    obtain ⟨⟨rfl, rfl, rfl, rfl⟩, rfl⟩ := hr
    obtain ⟨e0, e1, e2, e3, g0, g1, g2, g3⟩ := cells4 G6.out
    go_wp2
    refine bodyPost_ret (results_cellrow_tmp rfl _ _ w.heap.size 35 #[.int .i64 0, str [], str [], str []] _ rfl ?_ Try.underlying35 rfl Try.sizeEnd) rfl ⟨rfl, ?_⟩
    · exact (((G6.out.set_ 0 _).set_ 1 _).set_ 2 _).set_ 3 _
    · exact (((hb6.setCell (by simp) _).setCell (by simp) _).setCell (by simp) _).setCell (by simp) _

set_option maxRecDepth 100000 in
set_option maxHeartbeats 3200000 in
theorem refLinkRead_any (s : List UInt8) (x : Int) (a b c : List UInt8) (er : Int) (w : World) (hr : readE s = ((x, a, b, c), er)) (hs : s.length ≤ 140737488351232) :
    Calls Try.prog 41 #[str s] w fun e w' => e = .returned (.tuple #[.agg #[.int .i64 x, str a, str b, str c], .int .i64 er]) ∧ Below w.heap.size w w' := by
  obtain ⟨⟨n, s1, b1⟩, h1⟩ : ∃ q, rInt 115 4 (s, false) = q := ⟨_, rfl⟩
  obtain ⟨⟨o, s2, b2⟩, h2⟩ : ∃ q, rText 111 32 (s1, b1) = q := ⟨_, rfl⟩
  obtain ⟨⟨q, s3, b3⟩, h3⟩ : ∃ q, rText 113 32 (s2, b2) = q := ⟨_, rfl⟩
  obtain ⟨⟨p, s4, b4⟩, h4⟩ : ∃ q, rText 112 32 (s3, b3) = q := ⟨_, rfl⟩
  have hrr : readE s = if rEnd (s4, b4) = 0 ∧ checkE (n, o, q, p) = true then ((n, o, q, p), 0) else (noEn, 10) := by
    unfold readE
    simp only [h1, h2, h3, h4]
  rw [hrr] at hr
  clear hrr
  have l1 : s1.length ≤ s.length := rInt_left_le h1
  have l2 : s2.length ≤ s1.length := rText_left_le h2
  have l3 : s3.length ≤ s2.length := rText_left_le h3
  have fo : Fits o := by unfold Fits; have := rText_le h2 (by decide); omega
  have fq : Fits q := by unfold Fits; have := rText_le h3 (by decide); omega
  have fp : Fits p := by unfold Fits; have := rText_le h4 (by decide); omega
  have H1 := Lib.hid h1
  have H2 := Lib.hid h2
  have H3 := Lib.hid h3
  have H4 := Lib.hid h4
  clear h1 h2 h3 h4
  obtain ⟨v, hv⟩ : ∃ v, checkE (n, o, q, p) = v := ⟨_, rfl⟩
  obtain ⟨f, hf⟩ : ∃ f, rEnd (s4, b4) = f := ⟨_, rfl⟩
  have hff := rEnd_two (s4, b4)
  rw [hf] at hff
  rw [hv, hf] at hr
  have HV := Lib.hid hv
  have HE := Lib.hid hf
  have HR := Lib.hid hr
  clear hv hf hr
  go_enter Try.func41, Try.ntmps41
  go_wp2_with fail

  have R1 := Lib.hid (show IsRR ((w.alloc (.cells #[.int .i64 0, str [], str [], str []] 35)).alloc (.cells #[str s, .bool false] 86)) (w.heap.size + 1) (s, false) from Blk.new_at (w := w.alloc (.cells #[.int .i64 0, str [], str [], str []] 35)) (by simp) _ _)
  have G1 := Lib.hid ((Blk.new w 35 #[.int .i64 0, str [], str [], str []]).alloc (.cells #[str s, .bool false] 86))
  have hb1 : Below w.heap.size w ((w.alloc (.cells #[.int .i64 0, str [], str [], str []] 35)).alloc (.cells #[str s, .bool false] 86)) := ((Below.refl _ w).alloc (Nat.le_refl _) _).alloc (by simp) _
  generalize (w.alloc (.cells #[.int .i64 0, str [], str [], str []] 35)).alloc (.cells #[str s, .bool false] 86) = w1 at *
  refine (refReadInt_any s false 115 4 _ _ R1.out (by decide) (by decide) hs (by decide) n s1 b1 H1.out).mono ?_
  rintro e w2 ⟨rfl, hr2, hu2⟩
  have R2 := Lib.hid hr2
  have G2 := Lib.hid (Blk.grown G1.out hu2 (by simp))
  have hb2 := hb1.trans (upd_below hu2 hb1.size (by omega))
  clear hr2 hu2 R1 G1 hb1
  go_wp2_with fail
  have R3 := Lib.hid (Blk.alloc R2.out (.cells #[.int .i64 n, str [], str [], str []] 35))
  have G3 := Lib.hid (G2.out.alloc (.cells #[.int .i64 n, str [], str [], str []] 35))
  have E3 := Lib.hid (Blk.new w2 35 #[.int .i64 n, str [], str [], str []])
  have hb3 := hb2.alloc hb2.size (.cells #[.int .i64 n, str [], str [], str []] 35)
  have hlt : w.heap.size + 1 < w2.heap.size := Blk.lt R2.out
  clear R2 G2 hb2
  generalize w2.alloc (.cells #[.int .i64 n, str [], str [], str []] 35) = w3 at *
  generalize w2.heap.size = gE at *

  refine (refReadText_any s1 b1 111 32 _ _ R3.out (by decide) (by decide) (by omega) (by decide) o s2 b2 H2.out).mono ?_
  rintro e u3 ⟨rfl, hr, hu⟩
  have R3' := Lib.hid hr
  have G3' := Lib.hid (Blk.grown G3.out hu (by simp))
  have E3' := Lib.hid (Blk.grown E3.out hu (by simpa using blk_apart E3.out R3.out (by decide)))
  have hb3' := hb3.trans (upd_below hu hb3.size (by omega))
  obtain ⟨d0, d1, d2, d3, f0, f1, f2, f3⟩ := cells4 E3'.out
  clear hr hu R3 G3 E3 hb3
  go_wp2_with fail
  have R4 := Lib.hid (Blk.far R3'.out (p := ⟨gE, 1, none⟩) (blk_apart R3'.out E3'.out (by decide)) (str o))
  have G4 := Lib.hid (Blk.far G3'.out (p := ⟨gE, 1, none⟩) (by simp; omega) (str o))
  have E4 := Lib.hid (show Blk (u3.setCell ⟨gE, 1, none⟩ (str o)) gE 35 #[.int .i64 n, str o, str [], str []] from E3'.out.set_ 1 (str o))
  have hb4 := hb3'.setCell (p := ⟨gE, 1, none⟩) (by simp; omega) (str o)
  clear d0 d1 d2 d3 f0 f1 f2 f3 R3' G3' E3' hb3'
  generalize u3.setCell ⟨gE, 1, none⟩ (str o) = w4 at *

  refine (refReadText_any s2 b2 113 32 _ _ R4.out (by decide) (by decide) (by omega) (by decide) q s3 b3 H3.out).mono ?_
  rintro e u4 ⟨rfl, hr, hu⟩
  have R4' := Lib.hid hr
  have G4' := Lib.hid (Blk.grown G4.out hu (by simp))
  have E4' := Lib.hid (Blk.grown E4.out hu (by simpa using blk_apart E4.out R4.out (by decide)))
  have hb4' := hb4.trans (upd_below hu hb4.size (by omega))
  obtain ⟨d0, d1, d2, d3, f0, f1, f2, f3⟩ := cells4 E4'.out
  clear hr hu R4 G4 E4 hb4
  go_wp2_with fail
  have R5 := Lib.hid (Blk.far R4'.out (p := ⟨gE, 2, none⟩) (blk_apart R4'.out E4'.out (by decide)) (str q))
  have G5 := Lib.hid (Blk.far G4'.out (p := ⟨gE, 2, none⟩) (by simp; omega) (str q))
  have E5 := Lib.hid (show Blk (u4.setCell ⟨gE, 2, none⟩ (str q)) gE 35 #[.int .i64 n, str o, str q, str []] from E4'.out.set_ 2 (str q))
  have hb5 := hb4'.setCell (p := ⟨gE, 2, none⟩) (by simp; omega) (str q)
  clear d0 d1 d2 d3 f0 f1 f2 f3 R4' G4' E4' hb4'
  generalize u4.setCell ⟨gE, 2, none⟩ (str q) = w5 at *

  refine (refReadText_any s3 b3 112 32 _ _ R5.out (by decide) (by decide) (by omega) (by decide) p s4 b4 H4.out).mono ?_
  rintro e u5 ⟨rfl, hr, hu⟩
  have R5' := Lib.hid hr
  have G5' := Lib.hid (Blk.grown G5.out hu (by simp))
  have E5' := Lib.hid (Blk.grown E5.out hu (by simpa using blk_apart E5.out R5.out (by decide)))
  have hb5' := hb5.trans (upd_below hu hb5.size (by omega))
  obtain ⟨d0, d1, d2, d3, f0, f1, f2, f3⟩ := cells4 E5'.out
  clear hr hu R5 G5 E5 hb5
  go_wp2_with fail
  have R6 := Lib.hid (Blk.far R5'.out (p := ⟨gE, 3, none⟩) (blk_apart R5'.out E5'.out (by decide)) (str p))
  have G6 := Lib.hid (Blk.far G5'.out (p := ⟨gE, 3, none⟩) (by simp; omega) (str p))
  have E6 := Lib.hid (show Blk (u5.setCell ⟨gE, 3, none⟩ (str p)) gE 35 #[.int .i64 n, str o, str q, str p] from E5'.out.set_ 3 (str p))
  have hb6 := hb5'.setCell (p := ⟨gE, 3, none⟩) (by simp; omega) (str p)
  clear d0 d1 d2 d3 f0 f1 f2 f3 R5' G5' E5' hb5'
  generalize u5.setCell ⟨gE, 3, none⟩ (str p) = w6 at *

  obtain ⟨d0, d1, d2, d3, f0, f1, f2, f3⟩ := cells4 E6.out
  refine (refCheck_any n o q p v _ HV.out fo fq fp).mono ?_
  rintro e w7 ⟨rfl, hb⟩
  have G7 := Lib.hid (G6.out.step hb)
  have E7 := Lib.hid (E6.out.step hb)
  have R7 := Lib.hid (Blk.step R6.out hb)
  have hb7 := bel_step hb6 hb
  clear d0 d1 d2 d3 f0 f1 f2 f3 hb G6 E6 R6 hb6
  go_wp2_with fail
  refine (refEnd_any s4 b4 _ _ R7.out).mono ?_
  rw [HE.out]
  rintro e wq ⟨rfl, rfl⟩
  have hr := HR.out
  clear HE H1 H2 H3 H4 HR
  obtain ⟨e0, e1, e2, e3, g0, g1, g2, g3⟩ := cells4 G7.out
  obtain ⟨d0, d1, d2, d3, -⟩ := cells4 E7.out
  rcases hff with rfl | rfl
  · cases v
    · rw [if_neg (by simp)] at hr
      simp only [noEn, Prod.mk.injEq] at hr
      obtain ⟨⟨rfl, rfl, rfl, rfl⟩, rfl⟩ := hr
      go_wp2
      refine bodyPost_ret (results_cellrow_tmp rfl _ _ w.heap.size 35 #[.int .i64 0, str [], str [], str []] _ rfl ?_ Try.underlying35 rfl Try.sizeEnd) rfl ⟨rfl, ?_⟩
      · exact (((G7.out.set_ 0 _).set_ 1 _).set_ 2 _).set_ 3 _
      · exact (((hb7.setCell (by simp) _).setCell (by simp) _).setCell (by simp) _).setCell (by simp) _
    · rw [if_pos (by simp)] at hr
      simp only [Prod.mk.injEq] at hr
      obtain ⟨⟨rfl, rfl, rfl, rfl⟩, rfl⟩ := hr
      go_wp2
      refine bodyPost_ret (results_cellrow_tmp rfl _ _ w.heap.size 35 #[.int .i64 n, str o, str q, str p] _ rfl ?_ Try.underlying35 rfl Try.sizeEnd) rfl ⟨rfl, ?_⟩
      · exact (((G7.out.set_ 0 _).set_ 1 _).set_ 2 _).set_ 3 _
      · exact (((hb7.setCell (by simp) _).setCell (by simp) _).setCell (by simp) _).setCell (by simp) _
  · rw [if_neg (by simp)] at hr
    simp only [noEn, Prod.mk.injEq] at hr
    obtain ⟨⟨rfl, rfl, rfl, rfl⟩, rfl⟩ := hr
    go_wp2
    refine bodyPost_ret (results_cellrow_tmp rfl _ _ w.heap.size 35 #[.int .i64 0, str [], str [], str []] _ rfl ?_ Try.underlying35 rfl Try.sizeEnd) rfl ⟨rfl, ?_⟩
    · exact (((G7.out.set_ 0 _).set_ 1 _).set_ 2 _).set_ 3 _
    · exact (((hb7.setCell (by simp) _).setCell (by simp) _).setCell (by simp) _).setCell (by simp) _

end Go.Proofs.Ytlkgloakcpfnnaa

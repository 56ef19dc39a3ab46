/-
  What (*tlv.Reader).All returns, and how it leaves the reader. For readers that are not nil, of texts within the reach.
-/
import Derived.Test.YtjanmonoigpmcaaAllPlain
import Derived.Test.YtjanmonoigpmcaaUntil
import Derived.Deep.LoopGhost
namespace Go.Proofs.Ytjanmonoigpmcaa
open Go.RowKit

theorem OwnS.ne {w : World} {B g : Nat} {v : Value} {L : List (List UInt8)} {t : TypeId} {cs : Array Value} (h : OwnS w B v L) (hb : Blk w g t cs) (ht : t ≠ 9) : v.ownBlock ≠ some g := by
  rcases h.2 with ⟨h1, _⟩ | ⟨k, cap, cur, h1, h2, h3, _⟩
  · subst h1; simp [Value.ownBlock]
  · subst h1
    intro he
    have : k = g := by simpa [Value.ownBlock] using he
    subst this
    unfold Blk at hb
    rw [hb] at h3
    injection h3 with h3
    injection h3 with _ h4 _
    exact ht h4
theorem Blk.ne {w : World} {g g' : Nat} {t t' : TypeId} {cs cs' : Array Value} (h : Blk w g t cs) (h' : Blk w g' t' cs') (ht : t ≠ t') : g ≠ g' := by
  rintro rfl
  unfold Blk at h h'
  rw [h] at h'
  injection h' with h'
  injection h' with _ h4 _
  exact ht h4
theorem cell1 {w : World} {g : Nat} {t : TypeId} {x : Value} (h : Blk w g t #[x]) : w.cell? ⟨g, 0, none⟩ = some x ∧ w.frozen? ⟨g, 0, none⟩ = false := ⟨Blk.cell h 0, Blk.frozen h 0⟩

/-- What the closure of All leaves behind. -/
def All1Post (B gO gI gL gM g : Nat) (c most : Int) (L : List (List UInt8)) (r : Rd) (w w' : World) : Prop :=
  ∃ v, OwnS w' B v L ∧ Blk w' gO 25 #[v] ∧ Blk w' gI 40 #[.pointer (some ⟨g, 0, none⟩)] ∧ Blk w' gL 5 #[.int .u8 c] ∧ Blk w' gM 3 #[.int .i64 most] ∧ IsRd w' g r ∧ Below B w w'

set_option maxRecDepth 100000 in
set_option maxHeartbeats 4000000 in
theorem all1_any (c most : Int) (s t s' : List UInt8) (b b' : Bool) (v : Value) (L : List (List UInt8)) (B gO gI gL gM g : Nat) (w : World) (c0 : 0 ≤ c) (c1 : c ≤ 255) (hs : s.length ≤ 140737488351232) (hm : most ≤ 9223372036854775807)
    (hr : rText c most (s, b) = (t, s', b')) (hB : B ≤ gO ∧ B ≤ g) (hO : Blk w gO 25 #[v]) (hI : Blk w gI 40 #[.pointer (some ⟨g, 0, none⟩)]) (hL : Blk w gL 5 #[.int .u8 c]) (hM : Blk w gM 3 #[.int .i64 most])
    (hR : IsRd w g (s, b)) (hown : OwnS w B v L) (hLn : L.length ≤ 16777216) :
    Calls Try.prog 60 #[.pointer (some ⟨gO, 0, none⟩), .pointer (some ⟨gI, 0, none⟩), .pointer (some ⟨gL, 0, none⟩), .pointer (some ⟨gM, 0, none⟩)] w fun e w' => e = .returned (.bool !b') ∧ All1Post B gO gI gL gM g c most (L ++ [t]) (s', b') w w' := by
  obtain ⟨i0, hi, hz0, hz1, hz2⟩ := info_parts Try.infoStr
  obtain ⟨cO, fO⟩ := cell1 hO
  obtain ⟨cI, fI⟩ := cell1 hI
  obtain ⟨cL, fL⟩ := cell1 hL
  obtain ⟨cM, fM⟩ := cell1 hM
  have HO := Lib.hid hO
  have HI := Lib.hid hI
  have HL := Lib.hid hL
  have HM := Lib.hid hM
  have HR := Lib.hid hR
  have HW := Lib.hid hown
  have Hr := Lib.hid hr
  clear hO hI hL hM hR hown hr
  go_enter Try.func60, Try.ntmps60
  go_wp2
  refine until_begin 7 (fun w' => w'.cell? ⟨gO, 0, none⟩ = some v ∧ w'.cell? ⟨gI, 0, none⟩ = some (.pointer (some ⟨g, 0, none⟩)) ∧ w'.cell? ⟨gL, 0, none⟩ = some (.int .u8 c) ∧ w'.cell? ⟨gM, 0, none⟩ = some (.int .i64 most)) (by kernel_rfl) ⟨cO, cI, cL, cM⟩ (fun hS => ?_)
  refine until_take 0 (u := v) rfl (by kernel_rfl) (by kernel_rfl) (by kernel_rfl) (by kernel_rfl) (fun _ _ _ h => h) (by rfl) (fun wS hv => ?_) hS ?_
  · obtain ⟨k1, k2, k3, k4⟩ := hv
    go_simp
  refine until_take 1 (u := .pointer (some ⟨g, 0, none⟩)) rfl (by kernel_rfl) (by kernel_rfl) (by kernel_rfl) (by kernel_rfl) (fun _ _ _ h => h) (by rfl) (fun wS hv => ?_) hS ?_
  · obtain ⟨k1, k2, k3, k4⟩ := hv
    go_simp
  refine until_take 2 (u := .int .u8 c) rfl (by kernel_rfl) (by kernel_rfl) (by kernel_rfl) (by kernel_rfl) (fun _ _ _ h => h) (by rfl) (fun wS hv => ?_) hS ?_
  · obtain ⟨k1, k2, k3, k4⟩ := hv
    go_simp
  refine until_take 3 (u := .int .i64 most) rfl (by kernel_rfl) (by kernel_rfl) (by kernel_rfl) (by kernel_rfl) (fun _ _ _ h => h) (by rfl) (fun wS hv => ?_) hS ?_
  · obtain ⟨k1, k2, k3, k4⟩ := hv
    go_simp
  refine until_one 4 (by kernel_rfl) rfl (fun K hK => ?_)
  go_simp
  have hO1 : g ≠ gO := Blk.ne HR.out HO.out (by decide)
  have hI1 : g ≠ gI := Blk.ne HR.out HI.out (by decide)
  have hL1 : g ≠ gL := Blk.ne HR.out HL.out (by decide)
  have hM1 : g ≠ gM := Blk.ne HR.out HM.out (by decide)
  refine (readText_any s b c most g _ (Blk.drew HR.out) c0 c1 hs hm t s' b' Hr.out).mono ?_
  rintro e w1 ⟨rfl, hr1, hu1⟩
  have HO1 := Lib.hid (Blk.grown (Blk.drew HO.out) hu1 (by simpa using hO1.symm))
  have HI1 := Lib.hid (Blk.grown (Blk.drew HI.out) hu1 (by simpa using hI1.symm))
  have HL1 := Lib.hid (Blk.grown (Blk.drew HL.out) hu1 (by simpa using hL1.symm))
  have HM1 := Lib.hid (Blk.grown (Blk.drew HM.out) hu1 (by simpa using hM1.symm))
  have HW1 := Lib.hid ((OwnS.drew HW.out).grown hu1 (.inr (OwnS.ne HW.out HR.out (by decide))))
  have HR1 := Lib.hid hr1
  have hb1 := upd_below (B := B) hu1 (by have := Blk.lt HR.out; simp; omega) hB.2
  clear hr1 hS cO cI cL cM fO fI fL fM
  refine hK.out _ _ ⟨(cell1 HO1.out).1, (cell1 HI1.out).1, (cell1 HL1.out).1, (cell1 HM1.out).1⟩ (fun hS => ?_)
  clear hK K
  refine until_one 5 (by kernel_rfl) rfl (fun K hK => ?_)
  go_simp
  have HO2 := Lib.hid (HO1.out.alloc (.cells #[str t] 9))
  have HI2 := Lib.hid (HI1.out.alloc (.cells #[str t] 9))
  have HL2 := Lib.hid (HL1.out.alloc (.cells #[str t] 9))
  have HM2 := Lib.hid (HM1.out.alloc (.cells #[str t] 9))
  have HR2 := Lib.hid (Blk.alloc HR1.out (.cells #[str t] 9))
  have HW2 := Lib.hid (HW1.out.alloc (.cells #[str t] 9))
  have hb2 := hb1.alloc (by have := hb1.size; have := Blk.lt HR.out; simp at *; omega) (.cells #[str t] 9)
  refine hK.out _ _ ⟨(cell1 HO2.out).1, (cell1 HI2.out).1, (cell1 HL2.out).1, (cell1 HM2.out).1⟩ (fun hS => ?_)
  clear hK K
  refine until_one 6 (by kernel_rfl) rfl (fun K hK => ?_)
  refine step_append_lies _ rfl (.tmp 5) (.tmp 10) 25 rfl B 9 i0 (.string ByteArray.empty) 1 16 Try.underlying25 hi hz0 hz1 hz2 rfl (by decide) v L.length (L.map str) rfl HW2.out ⟨w1.heap.size, 0, none⟩ 1 1 [str t] rfl rfl (cell_one_new _ _ _) (by simp [Value.oneCell']) (by decide) (by unfold maxLen; omega) (by omega) (by have := hb2.size; have := Blk.lt HR.out; simp at *; omega) _ rfl ?_
  intro gv cap w2 hown hgrow hat hlt
  have HO3 := Lib.hid (HO2.out.grown hgrow (OwnS.ne HW2.out HO2.out (by decide)).symm)
  have HI3 := Lib.hid (HI2.out.grown hgrow (OwnS.ne HW2.out HI2.out (by decide)).symm)
  have HL3 := Lib.hid (HL2.out.grown hgrow (OwnS.ne HW2.out HL2.out (by decide)).symm)
  have HM3 := Lib.hid (HM2.out.grown hgrow (OwnS.ne HW2.out HM2.out (by decide)).symm)
  have HR3 := Lib.hid (Blk.grown HR2.out hgrow (OwnS.ne HW2.out HR2.out (by decide)).symm)
  have HW3 := Lib.hid (OwnS.push hown)
  have hb3 := hb2.grown hgrow (by have := hb2.size; have := Blk.lt HR.out; simp at *; omega) (fun k hk => (HW2.out.lt k hk).1)
  clear hown hgrow hat hlt
  refine hK.out _ _ ⟨(cell1 HO3.out).1, (cell1 HI3.out).1, (cell1 HL3.out).1, (cell1 HM3.out).1⟩ (fun hS => ?_)
  clear hK K
  refine until_last (by kernel_rfl) rfl (by kernel_rfl) (fun K hK => ?_)
  obtain ⟨cO, fO⟩ := cell1 HO3.out
  go_simp
  refine hK.out _ _ ?_
  clear hK K
  have HO4 := Lib.hid (HO3.out.set_ 0 (.slice (some ⟨gv, 0, none⟩) (L.length + 1) cap))
  have HI4 := Lib.hid (HI3.out.far (p := ⟨gO, 0, none⟩) (Blk.ne HI3.out HO3.out (by decide)) (.slice (some ⟨gv, 0, none⟩) (L.length + 1) cap))
  have HL4 := Lib.hid (HL3.out.far (p := ⟨gO, 0, none⟩) (Blk.ne HL3.out HO3.out (by decide)) (.slice (some ⟨gv, 0, none⟩) (L.length + 1) cap))
  have HM4 := Lib.hid (HM3.out.far (p := ⟨gO, 0, none⟩) (Blk.ne HM3.out HO3.out (by decide)) (.slice (some ⟨gv, 0, none⟩) (L.length + 1) cap))
  have HR4 := Lib.hid (Blk.far HR3.out (p := ⟨gO, 0, none⟩) (Blk.ne HR3.out HO3.out (by decide)) (.slice (some ⟨gv, 0, none⟩) (L.length + 1) cap))
  have HW4 := Lib.hid (HW3.out.grown (upd_set w2 gO 0 (.slice (some ⟨gv, 0, none⟩) (L.length + 1) cap)) (.inr (OwnS.ne HW3.out HO3.out (by decide))))
  have hb4 := hb3.setCell (p := ⟨gO, 0, none⟩) hB.1 (.slice (some ⟨gv, 0, none⟩) (L.length + 1) cap)
  clear cO fO hb1 hb2 hb3 hS
  generalize w2.setCell ⟨gO, 0, none⟩ (.slice (some ⟨gv, 0, none⟩) (L.length + 1) cap) = w4 at *
  obtain ⟨cI, fI⟩ := cell1 HI4.out
  go_wp2_with fail
  refine (good_any s' b' g _ HR4.out).mono ?_
  rintro e w5 ⟨rfl, rfl⟩
  go_wp2
  go_ret
  exact ⟨rfl, _, HW4.out, HO4.out, HI4.out, HL4.out, HM4.out, HR4.out, (Below.refl B w).drew.trans hb4⟩

theorem upd_then_below {a b c : World} {B : Nat} {row : Option Nat} (h : a.grownBy b row) (k : Below B b c) (hB : a.heap.size ≤ B) : a.grownBy c row :=
  ⟨k.os.trans h.os, k.tape.trans h.tape, k.output.trans h.output, Nat.le_trans h.size k.size, fun i hi hne => (k.block i (by omega)).trans (h.block i hi hne)⟩
theorem rText_none {c most : Int} {r : Rd} {t s' : List UInt8} (h : rText c most r = (t, s', true)) : t = [] := by
  unfold rText at h
  split at h
  · split at h
    · injection h with _ h2; injection h2 with _ h3; cases h3
    · injection h with h1 _; exact h1.symm
  · injection h with h1 _; exact h1.symm
/-- At the head of All's loop: so many bytes are left. -/
def AllHead (B gO gI gL gM gi : Nat) (c most : Int) (t : List UInt8) (W : World) (n : Nat) (wr : World) : Prop :=
  ∃ (s2 : List UInt8) (L2 : List (List UInt8)) (v2 : Value), n = s2.length ∧ bodies c most t = (bodies c most s2).map (L2 ++ ·) ∧ L2.length + s2.length ≤ t.length ∧ OwnS wr B v2 L2 ∧ Blk wr gO 25 #[v2] ∧
    Blk wr gI 40 #[.pointer (some ⟨gi, 0, none⟩)] ∧ Blk wr gL 5 #[.int .u8 c] ∧ Blk wr gM 3 #[.int .i64 most] ∧ IsRd wr gi (s2, false) ∧ Below B W wr
theorem OwnS.len {w : World} {B : Nat} {v : Value} {L : List (List UInt8)} (h : OwnS w B v L) : ∃ p c, v = .slice p L.length c := by
  rcases h.read with ⟨rfl, rfl⟩ | ⟨g, cap, rfl, _⟩
  · exact ⟨_, _, rfl⟩
  · exact ⟨_, _, rfl⟩

set_option maxRecDepth 100000 in
set_option maxHeartbeats 4000000 in
theorem readAll_any (s : List UInt8) (b : Bool) (c many most : Int) (g : Nat) (w : World) (h : IsRd w g (s, b)) (c0 : 0 ≤ c) (c1 : c ≤ 255) (hs : s.length ≤ 140737488351232) (hm : most ≤ 9223372036854775807)
    (L : List (List UInt8)) (s' : List UInt8) (b' : Bool) (hr : rAll c many most (s, b) = (L, s', b')) :
    Calls Try.prog 33 #[.pointer (some ⟨g, 0, none⟩), .int .u8 c, .int .i64 many, .int .i64 most] w fun e w' => ∃ v, e = .returned v ∧ OwnS w' w.heap.size v L ∧ IsRd w' g (s', b') ∧ w.grownBy w' (some g) := by
  obtain ⟨⟨t, s1, b1⟩, ht⟩ : ∃ q, rText c 16777215 (s, b) = q := ⟨_, rfl⟩
  have htl := rText_le ht (by decide)
  have Ht := Lib.hid ht
  have H := Lib.hid h
  rw [rAll, ht] at hr
  have Hr := Lib.hid hr
  have hg := Blk.lt h
  clear ht hr h
  go_enter Try.func33, Try.ntmps33
  go_wp2_with fail
  have H0 := Lib.hid (Blk.alloc (Blk.alloc H.out (.cells #[.int .u8 c] 5)) (.cells #[.int .i64 most] 3))
  have HL0 := Lib.hid ((Blk.new w 5 #[.int .u8 c]).alloc (.cells #[.int .i64 most] 3))
  have HM0 := Lib.hid (Blk.new_at (w := w.alloc (.cells #[.int .u8 c] 5)) (n := w.heap.size + 1) (by simp) 3 #[.int .i64 most])
  have hb0 : Below w.heap.size w ((w.alloc (.cells #[.int .u8 c] 5)).alloc (.cells #[.int .i64 most] 3)) := ((Below.refl _ w).alloc (Nat.le_refl _) _).alloc (by simp) _
  generalize (w.alloc (.cells #[.int .u8 c] 5)).alloc (.cells #[.int .i64 most] 3) = w0 at *
  have hg0 := upd_of_below hb0 (some g)
  obtain ⟨kL, -⟩ := cell1 HL0.out
  have hgL : g ≠ w.heap.size := by omega
  have hgM : g ≠ w.heap.size + 1 := by omega
  go_step3
  go_wp2_with fail
  refine (readText_any s b c 16777215 g _ H0.out c0 c1 hs (by decide) t s1 b1 Ht.out).mono ?_
  rintro e w1 ⟨rfl, hr1, hu1⟩
  have HR1 := Lib.hid hr1
  have HL1 := Lib.hid (Blk.grown HL0.out hu1 (by simpa using hgL.symm))
  have HM1 := Lib.hid (Blk.grown HM0.out hu1 (by simpa using hgM.symm))
  have hg1 := upd_trans hg0 hu1
  clear hr1 hu1 kL
  go_wp2_with fail
  refine (read_any t _).mono ?_
  rintro e w2 ⟨rfl, rfl⟩
  go_wp2_with fail
  go_step3
  go_wp2_with fail
  have HR2 := Lib.hid (Blk.alloc (Blk.alloc (Blk.alloc HR1.out (.cells #[str t, .bool false] 51)) (.cells #[.pointer (some ⟨w1.heap.size, 0, none⟩)] 40)) (.cells #[.slice none 0 0] 25))
  have HL2 := Lib.hid (((HL1.out.alloc (.cells #[str t, .bool false] 51)).alloc (.cells #[.pointer (some ⟨w1.heap.size, 0, none⟩)] 40)).alloc (.cells #[.slice none 0 0] 25))
  have HM2 := Lib.hid (((HM1.out.alloc (.cells #[str t, .bool false] 51)).alloc (.cells #[.pointer (some ⟨w1.heap.size, 0, none⟩)] 40)).alloc (.cells #[.slice none 0 0] 25))
  have Hi2 := Lib.hid (Blk.alloc (Blk.alloc (read_isRd t w1) (.cells #[.pointer (some ⟨w1.heap.size, 0, none⟩)] 40)) (.cells #[.slice none 0 0] 25))
  have HI2 := Lib.hid ((Blk.new_at (w := w1.alloc (.cells #[str t, .bool false] 51)) (n := w1.heap.size + 1) (by simp) 40 #[.pointer (some ⟨w1.heap.size, 0, none⟩)]).alloc (.cells #[.slice none 0 0] 25))
  have HO2 := Lib.hid (Blk.new_at (w := (w1.alloc (.cells #[str t, .bool false] 51)).alloc (.cells #[.pointer (some ⟨w1.heap.size, 0, none⟩)] 40)) (n := w1.heap.size + 1 + 1) (by simp) 25 #[.slice none 0 0])
  have hu3 : w.grownBy (((w1.alloc (.cells #[str t, .bool false] 51)).alloc (.cells #[.pointer (some ⟨w1.heap.size, 0, none⟩)] 40)).alloc (.cells #[.slice none 0 0] 25)) (some g) := upd_alloc (upd_alloc (upd_alloc hg1 _) _) _
  have hz1 : w.heap.size + 2 ≤ w1.heap.size := by have := Blk.lt HM1.out; omega
  have hg1' := Blk.lt HR1.out
  generalize ((w1.alloc (.cells #[str t, .bool false] 51)).alloc (.cells #[.pointer (some ⟨w1.heap.size, 0, none⟩)] 40)).alloc (.cells #[.slice none 0 0] 25) = W at *
  clear hg1 hg0 hb0
  generalize hB : w1.heap.size = B at *
  clear hB
  go_loopg [] t.length (fun n wr => AllHead B (B + 1 + 1) (B + 1) w.heap.size (w.heap.size + 1) B c most t W n wr)
  case atStart => exact ⟨t, [], _, rfl, by simp, by simp, OwnS.none _ _, HO2.out, HI2.out, HL2.out, HM2.out, Hi2.out, Below.refl _ _⟩
  case round =>
    obtain ⟨s2, L2, v2, rfl, hbd, hlen, hown, hO, hI, hL, hM, hRi, hbel⟩ := hrel
    have HBD := Lib.hid hbd
    have HW := Lib.hid hown
    have HO := Lib.hid hO
    have HI := Lib.hid hI
    have HL := Lib.hid hL
    have HM := Lib.hid hM
    have HRi := Lib.hid hRi
    have HRg := Lib.hid (Blk.below HR2.out hbel hg1')
    have hu4 := upd_then_below hu3 hbel (by omega)
    clear hbd hown hO hI hL hM hRi HR2 HL2 HM2 Hi2 HI2 HO2 hu3
    obtain ⟨kI, -⟩ := cell1 HI.out
    by_cases h0 : s2 = []
    · subst h0
      have HB := Lib.hid (show bodies c most t = some L2 by rw [HBD.out, bodies_nil]; simp)
      obtain ⟨p2, cp2, rfl⟩ := OwnS.len HW.out
      obtain ⟨kO, -⟩ := cell1 HO.out
      by_cases hmany : many < (L2.length : Int)
      · go_wp2_with fail
        refine (left_ok [] B _ HRi.out).mono ?_
        rintro e w4 ⟨rfl, rfl⟩
        go_wp2_with fail
        refine (fails_any s1 b1 g _ HRg.out).mono ?_
        rintro e w4 ⟨rfl, hr4, hu5⟩
        go_wp2_with fail
        refine (good_any s1 true g _ hr4).mono ?_
        rintro e w5 ⟨rfl, rfl⟩
        have hr := Hr.out
        rw [HB.out] at hr
        simp only [] at hr
        rw [if_pos hmany] at hr
        simp only [Prod.mk.injEq] at hr
        obtain ⟨rfl, rfl, rfl⟩ := hr
        have Hr4 := Lib.hid hr4
        clear hr4
        go_wp2
        rw [Exit.noGoto_ret]
        go_ret
        exact ⟨_, rfl, OwnS.none _ _, Hr4.out, upd_trans hu4 hu5⟩
      · have hr := Hr.out
        rw [HB.out] at hr
        simp only [] at hr
        rw [if_neg hmany] at hr
        simp only [Prod.mk.injEq] at hr
        obtain ⟨rfl, rfl, rfl⟩ := hr
        cases b1
        · go_wp2_with fail
          refine (left_ok [] B _ HRi.out).mono ?_
          rintro e w4 ⟨rfl, rfl⟩
          go_wp2_with fail
          refine (good_any s1 false g _ HRg.out).mono ?_
          rintro e w5 ⟨rfl, rfl⟩
          go_wp2
          rw [Exit.noGoto_ret]
          go_ret
          exact ⟨_, rfl, OwnS.weak HW.out (by omega), HRg.out, hu4⟩
        · have htn := rText_none Ht.out
          have hL0 : L2 = [] := List.eq_nil_of_length_eq_zero (by rw [htn] at hlen; simp only [List.length_nil] at hlen; omega)
          subst hL0
          clear htn
          go_wp2_with fail
          refine (left_ok [] B _ HRi.out).mono ?_
          rintro e w4 ⟨rfl, rfl⟩
          go_wp2_with fail
          refine (good_any s1 true g _ HRg.out).mono ?_
          rintro e w5 ⟨rfl, rfl⟩
          go_wp2
          rw [Exit.noGoto_ret]
          go_ret
          exact ⟨_, rfl, OwnS.none _ _, HRg.out, hu4⟩
    · have hpos : 0 < s2.length := by
        cases s2 with
        | nil => exact absurd rfl h0
        | cons a s2 => simp
      obtain ⟨⟨t3, s3, b3⟩, ht3⟩ : ∃ q, rText c most (s2, false) = q := ⟨_, rfl⟩
      have Ht3 := Lib.hid ht3
      have H0 := Lib.hid h0
      clear ht3 h0
      go_wp2_with fail
      refine (left_ok s2 B _ HRi.out).mono ?_
      rintro e w4 ⟨rfl, rfl⟩
      go_wp2_with fail
      refine (all1_any c most s2 t3 s3 false b3 v2 L2 B (B + 1 + 1) (B + 1) w.heap.size (w.heap.size + 1) B _ c0 c1 (by omega) hm Ht3.out (by omega) HO.out HI.out HL.out HM.out HRi.out HW.out (by omega)).mono ?_
      rintro e w4 ⟨rfl, v4, hW4, hO4, hI4, hL4, hM4, hR4, hb4⟩
      have hb5 := hbel.trans hb4
      have HRg4 := Lib.hid (Blk.below HRg.out hb4 hg1')
      have hu5 := upd_then_below hu4 hb4 (by omega)
      have HW4 := Lib.hid hW4
      have HO4 := Lib.hid hO4
      have HI4 := Lib.hid hI4
      have HL4 := Lib.hid hL4
      have HM4 := Lib.hid hM4
      have HR4 := Lib.hid hR4
      clear hW4 hO4 hI4 hL4 hM4 hR4 hb4 hbel hu4 kI
      cases b3
      · have hsh := rText_shorter Ht3.out
        have HB := Lib.hid (show bodies c most t = (bodies c most s3).map ((L2 ++ [t3]) ++ ·) by
          rw [HBD.out, bodies_step H0.out Ht3.out, Option.map_map]
          congr 1
          funext x
          simp)
        go_wp2
        go_roundg s3.length
        case rel => exact ⟨s3, L2 ++ [t3], v4, rfl, HB.out, by rw [List.length_append]; simp; omega, HW4.out, HO4.out, HI4.out, HL4.out, HM4.out, HR4.out, hb5⟩
        case measure => omega
      · have HB := Lib.hid (show bodies c most t = Option.none by rw [HBD.out, bodies_bad H0.out Ht3.out]; rfl)
        have hr := Hr.out
        rw [HB.out] at hr
        simp only [Prod.mk.injEq] at hr
        obtain ⟨rfl, rfl, rfl⟩ := hr
        obtain ⟨p4, cp4, rfl⟩ := OwnS.len HW4.out
        obtain ⟨kO, -⟩ := cell1 HO4.out
        have hlen4 := HW4.out.fits
        unfold maxLen at hlen4
        generalize (L2 ++ [t3]).length = len4 at *
        by_cases hmany : many < (len4 : Int)
        · go_wp2_with fail
          refine (fails_any s1 b1 g _ HRg4.out).mono ?_
          rintro e w5 ⟨rfl, hr5, hu6⟩
          have hO5 := HO4.out.grown hu6 (by simp; omega)
          obtain ⟨kO5, -⟩ := cell1 hO5
          have HR5 := Lib.hid hr5
          clear hr5 hO5 kO
          go_wp2_with fail
          refine (fails_any s1 true g _ HR5.out).mono ?_
          rintro e w6 ⟨rfl, hr6, hu7⟩
          have HR6 := Lib.hid hr6
          clear hr6 kO5
          go_wp2_with fail
          refine (good_any s1 true g _ HR6.out).mono ?_
          rintro e w7 ⟨rfl, rfl⟩
          go_wp2
          rw [Exit.noGoto_ret]
          go_ret
          exact ⟨_, rfl, OwnS.none _ _, HR6.out, upd_trans (upd_trans hu5 hu6) hu7⟩
        · go_wp2_with fail
          refine (fails_any s1 b1 g _ HRg4.out).mono ?_
          rintro e w5 ⟨rfl, hr5, hu6⟩
          have hO5 := HO4.out.grown hu6 (by simp; omega)
          obtain ⟨kO5, -⟩ := cell1 hO5
          have HR5 := Lib.hid hr5
          clear hr5 hO5 kO
          go_wp2_with fail
          refine (good_any s1 true g _ HR5.out).mono ?_
          rintro e w7 ⟨rfl, rfl⟩
          go_wp2
          rw [Exit.noGoto_ret]
          go_ret
          exact ⟨_, rfl, OwnS.none _ _, HR5.out, upd_trans hu5 hu6⟩
end Go.Proofs.Ytjanmonoigpmcaa

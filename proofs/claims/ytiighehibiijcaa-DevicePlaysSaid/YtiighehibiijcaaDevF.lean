/-
  What the closures of Flush do, and step with them. No conditions beside those in each theorem.
-/
import Derived.Test.YtiighehibiijcaaDevE
namespace Go.Proofs.Ytiighehibiijcaa
open Go.RowKit

def keepAll (d : Dev) (l : List (Int × List UInt8)) : Dev := l.foldl (fun d p => keepD d p.1 p.2) d
theorem keepD_waits (d : Dev) (k : Int) (s : List UInt8) : (keepD d k s).waits = d.waits := rfl
theorem keepAll_waits : ∀ (l : List (Int × List UInt8)) (d : Dev), (keepAll d l).waits = d.waits := by
  intro l
  induction l with
  | nil => intro d; rfl
  | cons p l ih => intro d; exact ih (keepD d p.1 p.2)
theorem keepAll_take {l : List (Int × List UInt8)} {k : Nat} (d : Dev) (h : k < l.length) : keepAll d (l.take (k + 1)) = keepD (keepAll d (l.take k)) l[k].1 l[k].2 := by
  unfold keepAll
  rw [List.take_add_one, List.getElem?_eq_getElem h, List.foldl_append]
  rfl
/-- What waits may be kept. -/
def WaitsOk (l : List (Int × List UInt8)) : Prop := ∀ p ∈ l, (Lit.int .i64 p.1).wf = true ∧ p.2.length ≤ 64
def flushD (d : Dev) : Dev := { keepAll d d.waits with waits := [] }

set_option maxRecDepth 100000 in
set_option maxHeartbeats 2000000 in
theorem flush1_any (w : World) (g gm : Nat) (v : Value) (cap B : Nat) (d : Dev) (bd : Nat) (hd : IsDev w g gm v cap B d) (h1 : Blk w bd 24 #[.pointer (some ⟨g, 0, none⟩)]) (hw : WaitsOk d.waits) (hn : cap + d.waits.length < 4611686018427) :
    Calls Try.prog 51 #[.pointer (some ⟨bd, 0, none⟩)] w fun e w' => e = .returned (.tuple #[]) ∧ IsDev w' g gm (.slice none 0 0) (cap + d.waits.length) B (flushD d) ∧ Touch g gm w v w' (.slice none 0 0) := by
  obtain ⟨l, hl⟩ : ∃ l, d.waits = l := ⟨_, rfl⟩
  have hd0 := hd
  unfold flushD
  rw [hl] at hw hn ⊢
  have HD := Lib.hid hd
  have HB := Lib.hid h1
  have HL := Lib.hid hl
  have HW := Lib.hid hw
  obtain ⟨c0, c1, c2, c3, c4, c5, c6⟩ := dev_cells hd
  have b0 := h1.cell 0
  obtain ⟨p, c, hv⟩ := hd.2.2.1.form
  rw [hl] at hv
  subst hv
  clear hd h1 hl hw hd0
  go_enter Try.func51, Try.ntmps51
  go_wp2_with fail
  go_loopw [8] (fun i wr => ∃ k : Nat, k ≤ l.length ∧ i = .int .i64 k ∧ IsDev wr g gm (.slice p l.length c) (cap + k) B (keepAll d (l.take k)) ∧ Touch g gm w (.slice p l.length c) wr (.slice p l.length c)) (fun i _ => l.length - (intOf i).toNat)
  case atStart => exact ⟨0, Nat.zero_le _, rfl, HD.out, Touch.refl _ _ _ _⟩
  case round =>
    obtain ⟨k, hk, rfl, hd, ht⟩ := hrel
    have hB := HD.out.keep ht HB.out (by decide) (by decide)
    have b1 : wr.cell? ⟨bd, 0, none⟩ = some (.pointer (some ⟨g, 0, none⟩)) := hB.cell 0
    have hwt : (keepAll d (l.take k)).waits = l := by rw [keepAll_waits, HL.out]
    by_cases hlt : k < l.length
    · have hkd := keepAll_take d hlt
      obtain ⟨hk1, hk2⟩ := HW.out l[k] (List.getElem_mem hlt)
      rcases hd.2.2.1.read with ⟨-, h2⟩ | ⟨gv, c', heq, -, hgv, -, -, hcell⟩
      · rw [hwt] at h2
        rw [h2] at hlt
        simp at hlt
      · rw [hwt] at hcell
        obtain ⟨e1, e2⟩ := hcell k hlt
        injection heq with hp hp1 hp2
        clear hp1 hp2
        subst hp
        rw [Nat.mul_comm] at e1 e2
        obtain ⟨⟨x, t⟩, hx⟩ : ∃ q, l[k] = q := ⟨_, rfl⟩
        rw [hx] at e1 e2 hkd hk1 hk2
        simp only [] at e1 e2 hkd hk1 hk2
        have HK := Lib.hid hkd
        have HD2 := Lib.hid hd
        have HT := Lib.hid ht
        clear hcell hx hkd hd ht
        have lt1 : bd < wr.heap.size := hB.lt
        go_wp2_with fail
        have hd2 := HD2.out.step ((Below.refl wr.heap.size wr).alloc (Nat.le_refl _) (.cells #[.int .i64 x, str t] 91))
        have t2 := HT.out.trans (Touch.of_below (g := g) (gm := gm) (v := .slice (some ⟨gv, 0, none⟩) l.length c) ((Below.refl wr.heap.size wr).alloc (Nat.le_refl _) (.cells #[.int .i64 x, str t] 91)))
        refine (keep_any _ g gm _ (cap + k) B _ x t hd2 hk1 (by unfold maxLen; omega) (by unfold maxLen; omega)).mono ?_
        rintro e w2 ⟨rfl, hd3, t3⟩
        have t4 := t2.trans t3
        rw [← HK.out] at hd3
        have HD3 := Lib.hid hd3
        have HT4 := Lib.hid t4
        clear hd2 t2 t3 t4 hd3 HT HD2 e1 e2 hB b1 b0 c0 c1 c2 c3 c4 c5 c6
        go_wp2
        go_roundw
        case rel => exact ⟨k + 1, by omega, by go_num, HD3.out, HT4.out⟩
        case measure => simp [intOf]; omega
    · have hkl : k = l.length := by omega
      subst hkl
      rw [List.take_length] at hd
      obtain ⟨-, -, e3, -⟩ := dev_cells hd
      have q2 := hd.1.frozen 2
      have HD2 := Lib.hid hd
      have HT := Lib.hid ht
      clear hd ht
      go_wp2
      go_end0
      refine ⟨rfl, IsDev.setWaits ⟨HD2.out.1, HD2.out.2.1, OwnW.none _ _, HD2.out.2.2.2.1, HD2.out.2.2.2.2⟩, (HT.out.trans (Touch.of_grown (upd_set _ g 2 _) (.inl rfl))).to_nil⟩
end Go.Proofs.Ytiighehibiijcaa

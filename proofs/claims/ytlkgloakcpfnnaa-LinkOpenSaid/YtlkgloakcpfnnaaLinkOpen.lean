/-
  The walk of LinkOpen: it returns true for any calls. No conditions beside those in each theorem.
-/
import Derived.Test.YtlkgloakcpfnnaaOpenPlain
import Derived.Test.YtlkgloakcpfnnaaOpenRows
import Derived.Test.YtlkgloakcpfnnaaMasks
import Derived.Test.YtlkgloakcpfnnaaUntil
import Derived.Deep.RegionHeld3
import Derived.Deep.QuietTactic
import Derived.BigQuiet
import Derived.Deep.LoopGhost
import Derived.Deep.CutBlock
import Derived.Deep.DeepCutAuto
namespace Go.Proofs.Ytlkgloakcpfnnaa
open Go.RowKit
set_option linter.unusedSimpArgs false
set_option linter.unnecessarySimpa false
set_option linter.unusedVariables false

def namesC : Array Value := #[str (lname 0 0), str (lname 0 1), str (lname 0 2), str (lname 1 0), str (lname 1 1), str (lname 1 2)]
def oversC : Array Value := #[str (lover 0 0), str (lover 0 1), str (lover 1 0), str (lover 1 1)]
def endsC (E : Nat → Nat → En) : Array Value := #[.int .i64 (E 0 0).1, str (E 0 0).2.1, str (E 0 0).2.2.1, str (E 0 0).2.2.2, .int .i64 (E 0 1).1, str (E 0 1).2.1, str (E 0 1).2.2.1, str (E 0 1).2.2.2, .int .i64 (E 0 2).1, str (E 0 2).2.1, str (E 0 2).2.2.1, str (E 0 2).2.2.2, .int .i64 (E 1 0).1, str (E 1 0).2.1, str (E 1 0).2.2.1, str (E 1 0).2.2.2, .int .i64 (E 1 1).1, str (E 1 1).2.1, str (E 1 1).2.2.1, str (E 1 1).2.2.2, .int .i64 (E 1 2).1, str (E 1 2).2.1, str (E 1 2).2.2.1, str (E 1 2).2.2.2]
def thereC (T : Nat → Nat → Bool) : Array Value := #[.bool (T 0 0), .bool (T 0 1), .bool (T 0 2), .bool (T 1 0), .bool (T 1 1), .bool (T 1 2)]
theorem two_cases {c : Nat} (h : c < 2) : c = 0 ∨ c = 1 := by omega
theorem three_cases {c : Nat} (h : c < 3) : c = 0 ∨ c = 1 ∨ c = 2 := by omega
theorem namesC_get {c o : Nat} (hc : c < 2) (ho : o < 3) : namesC[c * 3 + o]? = some (str (lname c o)) := by
  rcases two_cases hc with rfl | rfl <;> rcases three_cases ho with rfl | rfl | rfl <;> rfl
theorem oversC_get {c o : Nat} (hc : c < 2) (ho : o < 2) : oversC[c * 2 + o]? = some (str (lover c o)) := by
  rcases two_cases hc with rfl | rfl <;> rcases two_cases ho with rfl | rfl <;> rfl
theorem thereC_get {T : Nat → Nat → Bool} {c o : Nat} (hc : c < 2) (ho : o < 3) : (thereC T)[c * 3 + o]? = some (.bool (T c o)) := by
  rcases two_cases hc with rfl | rfl <;> rcases three_cases ho with rfl | rfl | rfl <;> rfl
theorem thereC_set {T : Nat → Nat → Bool} {c o : Nat} (hc : c < 2) (ho : o < 3) : (thereC T).setIfInBounds (c * 3 + o) (.bool true) = thereC (upd2 T c o true) := by
  rcases two_cases hc with rfl | rfl <;> rcases three_cases ho with rfl | rfl | rfl <;> rfl
theorem endsC_get {E : Nat → Nat → En} {c o : Nat} (hc : c < 2) (ho : o < 3) : (endsC E)[c * 12 + o * 4]? = some (.int .i64 (E c o).1) ∧ (endsC E)[c * 12 + o * 4 + 1]? = some (str (E c o).2.1) ∧ (endsC E)[c * 12 + o * 4 + 2]? = some (str (E c o).2.2.1) ∧ (endsC E)[c * 12 + o * 4 + 3]? = some (str (E c o).2.2.2) := by
  rcases two_cases hc with rfl | rfl <;> rcases three_cases ho with rfl | rfl | rfl <;> exact ⟨rfl, rfl, rfl, rfl⟩
theorem endsC_set {E : Nat → Nat → En} {c o : Nat} (hc : c < 2) (ho : o < 3) (x : En) : ((((endsC E).setIfInBounds (c * 12 + o * 4) (.int .i64 x.1)).setIfInBounds (c * 12 + o * 4 + 1) (str x.2.1)).setIfInBounds (c * 12 + o * 4 + 2) (str x.2.2.1)).setIfInBounds (c * 12 + o * 4 + 3) (str x.2.2.2) = endsC (upd2 E c o x) := by
  rcases two_cases hc with rfl | rfl <;> rcases three_cases ho with rfl | rfl | rfl <;> rfl
/-- The two chains as memory holds them. -/
structure LO (W w' : World) (g gO gE gT : Nat) (E : Nat → Nat → En) (T O : Nat → Nat → Bool) : Prop where
  names : Blk w' g 47 namesC
  overs : Blk w' gO 48 oversC
  ends : Blk w' gE 50 (endsC E)
  there : Blk w' gT 52 (thereC T)
  inv : InvE E T O
  below : Below W.heap.size W w'
  base : W.heap.size ≤ g ∧ W.heap.size ≤ gO ∧ W.heap.size ≤ gE ∧ W.heap.size ≤ gT
theorem LO.step {W w w' : World} {g gO gE gT : Nat} {E : Nat → Nat → En} {T O : Nat → Nat → Bool} (h : LO W w g gO gE gT E T O) (hb : Below w.heap.size w w') : LO W w' g gO gE gT E T O :=
  ⟨h.names.step hb, h.overs.step hb, h.ends.step hb, h.there.step hb, h.inv, bel_step h.below hb, h.base⟩
theorem LO.drew {W w : World} {g gO gE gT : Nat} {E : Nat → Nat → En} {T O : Nat → Nat → Bool} (h : LO W w g gO gE gT E T O) : LO W w.drew g gO gE gT E T O := ⟨h.names, h.overs, h.ends, h.there, h.inv, h.below.drew, h.base⟩
theorem part_fits {s : List UInt8} (h : partB s = true) : Fits s := by
  unfold partB at h
  have := of_decide_eq_true h
  unfold Fits
  omega
theorem LO.fits {W w : World} {g gO gE gT : Nat} {E : Nat → Nat → En} {T O : Nat → Nat → Bool} (h : LO W w g gO gE gT E T O) {c o : Nat} (hc : c < 2) (ho : o < 3) : Fits (E c o).2.1 ∧ Fits (E c o).2.2.1 ∧ Fits (E c o).2.2.2 := by
  obtain ⟨h1, h2⟩ := h.inv c o hc ho
  rcases hT : T c o with _ | _
  · rw [h2 hT]
    exact ⟨Fits.nil, Fits.nil, Fits.nil⟩
  · have hk := (h1 hT).1
    obtain ⟨p1, p2⟩ := check_parts hk
    refine ⟨part_fits p1, part_fits p2, ?_⟩
    unfold checkE at hk
    split at hk
    · simp only [Bool.and_eq_true, decide_eq_true_eq] at hk
      rw [hk.2]
      exact Fits.nil
    · split at hk
      · simp only [Bool.and_eq_true] at hk
        exact part_fits hk.2
      · cases hk
theorem blk_ne {w : World} {g x : Nat} {t u : TypeId} {cs ds : Array Value} (h : Blk w g t cs) (k : Blk w x u ds) (hne : t ≠ u) : g ≠ x := by
  rintro rfl
  unfold Blk at h k
  rw [h] at k
  injection k with k
  injection k with _ k2 _
  exact hne k2
def enC (x : En) : Array Value := #[.int .i64 x.1, str x.2.1, str x.2.2.1, str x.2.2.2]
theorem LO.far {W w : World} {g gO gE gT : Nat} {E : Nat → Nat → En} {T O : Nat → Nat → Bool} (h : LO W w g gO gE gT E T O) {x : Nat} {cs : Array Value} (hx : Blk w x 35 cs) (hb : W.heap.size ≤ x) (i : Nat) (u : Value) : LO W (w.setCell ⟨x, i, none⟩ u) g gO gE gT E T O :=
  ⟨h.names.far (blk_ne h.names hx (by decide)) u, h.overs.far (blk_ne h.overs hx (by decide)) u, h.ends.far (blk_ne h.ends hx (by decide)) u, h.there.far (blk_ne h.there hx (by decide)) u, h.inv, h.below.setCell hb u, h.base⟩
/-- A whole end stored. -/
def setE (w : World) (x : Nat) (y : En) : World := (((w.setCell ⟨x, 0, none⟩ (.int .i64 y.1)).setCell ⟨x, 1, none⟩ (str y.2.1)).setCell ⟨x, 2, none⟩ (str y.2.2.1)).setCell ⟨x, 3, none⟩ (str y.2.2.2)
theorem Blk.storeE {w : World} {x : Nat} {t : TypeId} (z : En) (y : En) (hx : Blk w x t (enC z)) : Blk (setE w x y) x t (enC y) := (((hx.set_ 0 (.int .i64 y.1)).set_ 1 (str y.2.1)).set_ 2 (str y.2.2.1)).set_ 3 (str y.2.2.2)
theorem Blk.storeO {w : World} {x i : Nat} {t : TypeId} {cs : Array Value} (hi : Blk w i t cs) (hne : i ≠ x) (y : En) : Blk (setE w x y) i t cs :=
  (((hi.far (p := ⟨x, 0, none⟩) hne (.int .i64 y.1)).far (p := ⟨x, 1, none⟩) hne (str y.2.1)).far (p := ⟨x, 2, none⟩) hne (str y.2.2.1)).far (p := ⟨x, 3, none⟩) hne (str y.2.2.2)
theorem LO.store {W w : World} {g gO gE gT : Nat} {E : Nat → Nat → En} {T O : Nat → Nat → Bool} (h : LO W w g gO gE gT E T O) {x : Nat} {z : En} (hx : Blk w x 35 (enC z)) (hb : W.heap.size ≤ x) (y : En) : LO W (setE w x y) g gO gE gT E T O :=
  ((((h.far hx hb 0 (.int .i64 y.1)).far (hx.set_ 0 _) hb 1 (str y.2.1)).far ((hx.set_ 0 _).set_ 1 _) hb 2 (str y.2.2.1)).far (((hx.set_ 0 _).set_ 1 _).set_ 2 _) hb 3 (str y.2.2.2))
def setEnds (w : World) (x i : Nat) (y : En) : World := (((w.setCell ⟨x, i, none⟩ (.int .i64 y.1)).setCell ⟨x, i + 1, none⟩ (str y.2.1)).setCell ⟨x, i + 2, none⟩ (str y.2.2.1)).setCell ⟨x, i + 3, none⟩ (str y.2.2.2)
theorem Blk.storeEnds {w : World} {x i : Nat} {t : TypeId} {cs : Array Value} (hi : Blk w i t cs) (hne : i ≠ x) (k : Nat) (y : En) : Blk (setEnds w x k y) i t cs :=
  (((hi.far (p := ⟨x, k, none⟩) hne (.int .i64 y.1)).far (p := ⟨x, k + 1, none⟩) hne (str y.2.1)).far (p := ⟨x, k + 2, none⟩) hne (str y.2.2.1)).far (p := ⟨x, k + 3, none⟩) hne (str y.2.2.2)
theorem LO.put {W w : World} {g gO gE gT : Nat} {E : Nat → Nat → En} {T O : Nat → Nat → Bool} (h : LO W w g gO gE gT E T O) {c o : Nat} {z : En} {q : Bool} (hc : c < 2) (ho : o < 3) (hq : InvE (upd2 E c o z) (upd2 T c o true) (upd2 O c o q)) :
    LO W ((setEnds w gE (c * 12 + o * 4) z).setCell ⟨gT, c * 3 + o, none⟩ (.bool true)) g gO gE gT (upd2 E c o z) (upd2 T c o true) (upd2 O c o q) := by
  have hE : Blk (setEnds w gE (c * 12 + o * 4) z) gE 50 (endsC (upd2 E c o z)) := by
    rw [← endsC_set hc ho z]
    exact (((h.ends.set_ _ _).set_ _ _).set_ _ _).set_ _ _
  have hT : Blk ((setEnds w gE (c * 12 + o * 4) z).setCell ⟨gT, c * 3 + o, none⟩ (.bool true)) gT 52 (thereC (upd2 T c o true)) := by
    rw [← thereC_set hc ho]
    exact (h.there.storeEnds (blk_ne h.there h.ends (by decide)) _ z).set_ _ _
  refine ⟨(h.names.storeEnds (blk_ne h.names h.ends (by decide)) _ z).far (blk_ne h.names h.there (by decide)) _, (h.overs.storeEnds (blk_ne h.overs h.ends (by decide)) _ z).far (blk_ne h.overs h.there (by decide)) _, hE.far (blk_ne h.ends h.there (by decide)) _, hT, hq, ?_, h.base⟩
  exact ((((h.below.setCell h.base.2.2.1 _).setCell h.base.2.2.1 _).setCell h.base.2.2.1 _).setCell h.base.2.2.1 _).setCell h.base.2.2.2 _
theorem rem3 (x : Int) (h : (Lit.int .i64 x).wf = true) : ∃ t : Nat, t < 3 ∧ IntKind.i64.wrap (x.tmod 3 + 3) = x.tmod 3 + 3 ∧ (x.tmod 3 + 3).tmod 3 = t := by
  have h1 := Int.tmod_lt_of_pos x (show (0 : Int) < 3 by omega)
  have h2 := Int.lt_tmod_of_pos x (show (0 : Int) < 3 by omega)
  have h3 : (x.tmod 3 + 3).tmod 3 = (x.tmod 3 + 3) % 3 := Int.tmod_eq_emod_of_nonneg (by omega)
  exact ⟨((x.tmod 3 + 3) % 3).toNat, by omega, IntWalk.i64_in _ (by omega), by rw [h3]; omega⟩

/-- The frame of LinkOpen: what its variables hold; us: all else. -/
def Fr (v0 v3 v4 v5 v6 v7 v8 v9 v10 v11 v12 v13 v14 v15 v16 v17 v18 v19 v20 v21 : Value) (us : Nat → Value) : Act := ⟨#[v0, us 1, us 2, v3, v4, v5, v6, v7, v8, v9, v10, v11, v12, v13, v14, v15, v16, v17, v18, v19, v20, v21, us 22, us 23, us 24, us 25, us 26, us 27, us 28, us 29, us 30, us 31, us 32, us 33, us 34, us 35, us 36, us 37, us 38, us 39, us 40, us 41, us 42, us 43, us 44, us 45, us 46, us 47, us 48, us 49, us 50, us 51, us 52, us 53, us 54, us 55, us 56, us 57, us 58, us 59, us 60, us 61, us 62, us 63, us 64, us 65, us 66, us 67, us 68, us 69, us 70, us 71, us 72, us 73, us 74, us 75, us 76, us 77, us 78, us 79, us 80, us 81, us 82, us 83, us 84, us 85, us 86, us 87, us 88, us 89, us 90, us 91, us 92, us 93, us 94, us 95, us 96, us 97, us 98, us 99, us 100, us 101, us 102, us 103, us 104, us 105, us 106, us 107, us 108, us 109, us 110, us 111, us 112, us 113, us 114, us 115, us 116, us 117, us 118, us 119, us 120, us 121, us 122, us 123, us 124, us 125, us 126, us 127, us 128, us 129, us 130, us 131, us 132, us 133, us 134, us 135, us 136, us 137, us 138, us 139, us 140, us 141, us 142, us 143, us 144, us 145, us 146, us 147, us 148, us 149, us 150, us 151, us 152, us 153, us 154, us 155, us 156, us 157, us 158, us 159, us 160, us 161, us 162, us 163, us 164, us 165, us 166, us 167, us 168, us 169, us 170, us 171, us 172, us 173, us 174, us 175, us 176, us 177, us 178, us 179, us 180, us 181, us 182, us 183, us 184, us 185, us 186, us 187, us 188, us 189, us 190, us 191, us 192, us 193, us 194, us 195, us 196, us 197, us 198, us 199, us 200, us 201, us 202, us 203, us 204, us 205, us 206, us 207, us 208, us 209, us 210, us 211, us 212, us 213, us 214, us 215, us 216, us 217, us 218, us 219, us 220, us 221, us 222, us 223, us 224, us 225, us 226, us 227, us 228, us 229, us 230, us 231, us 232, us 233, us 234, us 235, us 236, us 237, us 238, us 239, us 240, us 241, us 242, us 243, us 244, us 245, us 246, us 247, us 248, us 249, us 250, us 251, us 252, us 253, us 254, us 255, us 256, us 257, us 258, us 259, us 260, us 261, us 262, us 263, us 264, us 265, us 266, us 267, us 268, us 269, us 270, us 271, us 272, us 273, us 274, us 275, us 276, us 277, us 278, us 279, us 280, us 281, us 282, us 283, us 284, us 285, us 286, us 287, us 288, us 289, us 290, us 291, us 292, us 293, us 294, us 295, us 296, us 297, us 298, us 299, us 300, us 301, us 302, us 303, us 304, us 305, us 306, us 307, us 308, us 309, us 310, us 311, us 312, us 313, us 314, us 315, us 316, us 317, us 318, us 319, us 320, us 321, us 322, us 323, us 324, us 325, us 326, us 327, us 328, us 329, us 330, us 331, us 332, us 333, us 334, us 335, us 336, us 337, us 338, us 339, us 340, us 341, us 342, us 343, us 344, us 345, us 346, us 347, us 348, us 349, us 350, us 351, us 352, us 353, us 354, us 355, us 356, us 357, us 358, us 359, us 360, us 361, us 362, us 363, us 364, us 365, us 366, us 367, us 368, us 369], []⟩
def nthV : List Value → Nat → Value
  | a :: _, 0 => a
  | _ :: l, i + 1 => nthV l i
  | [], _ => undef
theorem meet_us {T : (Nat → Value) → Act} {l : List Value} (h : (⟨l.toArray, []⟩ : Act) = T (nthV l)) : ∃ us, (⟨l.toArray, []⟩ : Act) = T us := ⟨nthV l, h⟩
theorem meet_at {J : Act → World → Prop} {a : Act} {w : World} {R : Act → World → Prop} (hJ : ∀ a w, R a w → J a w) (h : R a w) : Met J a w := hJ a w h

set_option maxRecDepth 100000 in
set_option maxHeartbeats 8000000 in
theorem linkOpen_walk (v : Value) (w : World) (n : Nat) (F : Nat → Nat → Int) (hL : ReadI5 w v n F) :
    Calls Try.prog 6 #[v] w fun e w' => e = .returned (.bool true) ∧ Below w.heap.size w w' := by
  obtain ⟨p, c, rfl, hmax, hcell⟩ := hL
  go_enter Try.func6, Try.ntmps6
  go_wp2_with fail
  refine (awake15_any _).mono ?_
  rintro e w0 ⟨rfl, hb0⟩
  go_upto_block 0 with fail
  have lo0 : LO w ((((w0.alloc (.cells namesC 47)).alloc (.cells oversC 48)).alloc (.cells (endsC fun _ _ => noEn) 50)).alloc (.cells (thereC fun _ _ => false) 52)) w0.heap.size (w0.heap.size + 1) (w0.heap.size + 1 + 1) (w0.heap.size + 1 + 1 + 1) (fun _ _ => noEn) (fun _ _ => false) (fun _ _ => false) :=
    ⟨(((Blk.new w0 _ _).alloc _).alloc _).alloc _, ((Blk.new_at (by simp) _ _).alloc _).alloc _, (Blk.new_at (by simp) _ _).alloc _, Blk.new_at (by simp) _ _, InvE.start, bel_step hb0 (((((Below.refl _ _).alloc (Nat.le_refl _) _).alloc (by simp) _).alloc (by simp; omega) _).alloc (by simp; omega) _), by have := hb0.size; omega⟩
  obtain ⟨g, hg⟩ : ∃ g, w0.heap.size = g := ⟨_, rfl⟩
  rw [hg] at lo0 ⊢
  obtain ⟨gO, hgO⟩ : ∃ gO, g + 1 = gO := ⟨_, rfl⟩
  rw [hgO] at lo0 ⊢
  obtain ⟨gE, hgE⟩ : ∃ gE, gO + 1 = gE := ⟨_, rfl⟩
  rw [hgE] at lo0 ⊢
  obtain ⟨gT, hgT⟩ : ∃ gT, gE + 1 = gT := ⟨_, rfl⟩
  rw [hgT] at lo0 ⊢
  change Code.wp _ _ _ _ ((((w0.alloc (.cells namesC 47)).alloc (.cells oversC 48)).alloc (.cells (endsC fun _ _ => noEn) 50)).alloc (.cells (thereC fun _ _ => false) 52))
  generalize (((w0.alloc (.cells namesC 47)).alloc (.cells oversC 48)).alloc (.cells (endsC fun _ _ => noEn) 50)).alloc (.cells (thereC fun _ _ => false) 52) = w1 at lo0 ⊢
  have LO0 := Lib.hid lo0
  clear lo0 hg hb0 hgO hgE hgT
  refine wp_cut (fun a' w' => ∃ E T O, LO w w' g gO gE gT E T O ∧ ∃ us, a' = Fr (.slice p n c) (.bool true) (.pointer (some ⟨g, 0, none⟩)) (.pointer (some ⟨gO, 0, none⟩)) (.pointer (some ⟨gE, 0, none⟩)) (.pointer (some ⟨gT, 0, none⟩)) (us 8) (us 9) (us 10) (us 11) (us 12) (us 13) (us 14) (us 15) (us 16) (us 17) (us 18) (us 19) (us 20) (us 21) us) ?_ ?_
  rotate_left
  · intro J1 K1 hJ1 hK1
    go_wp2_with fail
    refine wp_loop_ghost_k (fun k a' w' => ∃ (j : Nat) (E : Nat → Nat → En) (T O : Nat → Nat → Bool), j + k = n ∧ j ≤ 30 ∧ LO w w' g gO gE gT E T O ∧ ∃ us, a' = Fr (.slice p n c) (.bool true) (.pointer (some ⟨g, 0, none⟩)) (.pointer (some ⟨gO, 0, none⟩)) (.pointer (some ⟨gE, 0, none⟩)) (.pointer (some ⟨gT, 0, none⟩)) (.int .i64 j) (us 9) (us 10) (us 11) (us 12) (us 13) (us 14) (us 15) (us 16) (us 17) (us 18) (us 19) (us 20) (us 21) us) n ?_ ?_
    · exact ⟨0, _, _, _, by omega, by omega, LO0.out, meet_us (by kernel_rfl)⟩
    · intro gk a0 wr hinv
      obtain ⟨j, E, T, O, hj, hj30, lo, us, rfl⟩ := hinv
      intro J2 K2 hJ2 hK2
      unfold Fr
      have HLO := Lib.hid lo
      clear lo LO0
      by_cases h1 : j < n
      · have h1i : (j : Int) < (n : Int) := by omega
        by_cases h2 : j < 30
        · have h2i : (j : Int) < 30 := by omega
          obtain ⟨b, of, rfl, hbw, hcl⟩ := hcell (by omega)
          have hB := HLO.out.below
          obtain ⟨s0, hs0⟩ : ∃ s, F j 0 = s := ⟨_, rfl⟩
          obtain ⟨s1, hs1⟩ : ∃ s, F j 1 = s := ⟨_, rfl⟩
          obtain ⟨s2, hs2⟩ : ∃ s, F j 2 = s := ⟨_, rfl⟩
          obtain ⟨s3, hs3⟩ : ∃ s, F j 3 = s := ⟨_, rfl⟩
          obtain ⟨s4, hs4⟩ : ∃ s, F j 4 = s := ⟨_, rfl⟩
          have k0 := (hB.cell (p := ⟨b, of + j * 5, none⟩) hbw).trans (hcl j h1 0 (by omega)).1
          have k1 := (hB.cell (p := ⟨b, of + j * 5 + 1, none⟩) hbw).trans (hcl j h1 1 (by omega)).1
          have k2 := (hB.cell (p := ⟨b, of + j * 5 + 2, none⟩) hbw).trans (hcl j h1 2 (by omega)).1
          have k3 := (hB.cell (p := ⟨b, of + j * 5 + 3, none⟩) hbw).trans (hcl j h1 3 (by omega)).1
          have k4 := (hB.cell (p := ⟨b, of + j * 5 + 4, none⟩) hbw).trans (hcl j h1 4 (by omega)).1
          have wf1 := (hcl j h1 1 (by omega)).2
          have wf2 := (hcl j h1 2 (by omega)).2
          have wf3 := (hcl j h1 3 (by omega)).2
          rw [hs0] at k0
          rw [hs1] at k1 wf1
          rw [hs2] at k2 wf2
          rw [hs3] at k3 wf3
          rw [hs4] at k4
          obtain ⟨o, ho, q21, q22⟩ := rem3 s2 wf2
          obtain ⟨t, ht, q31, q32⟩ := rem3 s3 wf3
          obtain ⟨cc, hcc⟩ : ∃ cc : Nat, s0 % 2 = cc := ⟨(s0 % 2).toNat, by omega⟩
          have q0 := i64_and1 s0
          rw [hcc] at q0
          have hc2 : cc < 2 := by omega
          obtain ⟨d, hd⟩ : ∃ d, 1 - cc = d := ⟨_, rfl⟩
          have hd2 : d < 2 := by omega
          have qd : IntKind.i64.wrap (1 - (cc : Int)) = (d : Int) := by rw [IntWalk.i64_in _ (by omega)]; omega
          obtain ⟨⟨x0, xa, xb, xp⟩, hX⟩ : ∃ x, E cc o = x := ⟨_, rfl⟩
          obtain ⟨⟨y0, ya, yb, yp⟩, hY⟩ : ∃ x, E d t = x := ⟨_, rfl⟩
          obtain ⟨e0, e1, e2, e3⟩ := endsC_get (E := E) hc2 ho
          obtain ⟨f0, f1, f2, f3⟩ := endsC_get (E := E) hd2 ht
          rw [hX] at e0 e1 e2 e3
          rw [hY] at f0 f1 f2 f3
          replace e0 := (HLO.out.ends.cell _).trans e0
          replace e1 := (HLO.out.ends.cell _).trans e1
          replace e2 := (HLO.out.ends.cell _).trans e2
          replace e3 := (HLO.out.ends.cell _).trans e3
          replace f0 := (HLO.out.ends.cell _).trans f0
          replace f1 := (HLO.out.ends.cell _).trans f1
          replace f2 := (HLO.out.ends.cell _).trans f2
          replace f3 := (HLO.out.ends.cell _).trans f3
          have i1 : (cc : Int) < 2 := by omega
          have i2 : (o : Int) < 3 := by omega
          have i3 : (t : Int) < 3 := by omega
          have i4 : (d : Int) < 2 := by omega
          have HX := Lib.hid hX
          have HY := Lib.hid hY
          have HD := Lib.hid hd
          clear hs0 hs1 hs2 hs3 hs4 hcl hcell hcc hd hX hY hB
          have lE := HLO.out.ends.lt
          go_upto_region 17 with fail
          have hb4 : Below wr.heap.size wr ((((wr.alloc (.cells #[.int .i64 s0, .int .i64 s1, .int .i64 s2, .int .i64 s3, .int .i64 s4] 54)).alloc (.cells (enC (x0, xa, xb, xp)) 35)).alloc (.cells (enC (y0, ya, yb, yp)) 35)).alloc (.cells (enC noEn) 35)) :=
            ((((Below.refl _ _).alloc (Nat.le_refl _) _).alloc (by simp) _).alloc (by simp; omega) _).alloc (by simp; omega) _
          have SB := Lib.hid ((((Blk.new wr 54 #[.int .i64 s0, .int .i64 s1, .int .i64 s2, .int .i64 s3, .int .i64 s4]).alloc (.cells (enC (x0, xa, xb, xp)) 35)).alloc (.cells (enC (y0, ya, yb, yp)) 35)).alloc (.cells (enC noEn) 35))
          have AB := Lib.hid (((Blk.new_at (w := wr.alloc (.cells #[.int .i64 s0, .int .i64 s1, .int .i64 s2, .int .i64 s3, .int .i64 s4] 54)) (n := wr.heap.size + 1) (by simp) 35 (enC (x0, xa, xb, xp))).alloc (.cells (enC (y0, ya, yb, yp)) 35)).alloc (.cells (enC noEn) 35))
          have YB := Lib.hid ((Blk.new_at (w := (wr.alloc (.cells #[.int .i64 s0, .int .i64 s1, .int .i64 s2, .int .i64 s3, .int .i64 s4] 54)).alloc (.cells (enC (x0, xa, xb, xp)) 35)) (n := wr.heap.size + 1 + 1) (by simp) 35 (enC (y0, ya, yb, yp))).alloc (.cells (enC noEn) 35))
          have XB := Lib.hid (Blk.new_at (w := ((wr.alloc (.cells #[.int .i64 s0, .int .i64 s1, .int .i64 s2, .int .i64 s3, .int .i64 s4] 54)).alloc (.cells (enC (x0, xa, xb, xp)) 35)).alloc (.cells (enC (y0, ya, yb, yp)) 35)) (n := wr.heap.size + 1 + 1 + 1) (by simp) 35 (enC noEn))
          have LO2 := Lib.hid (HLO.out.step hb4)
          have zW : w.heap.size ≤ wr.heap.size := HLO.out.below.size
          change Code.wp _ _ _ _ ((((wr.alloc (.cells #[.int .i64 s0, .int .i64 s1, .int .i64 s2, .int .i64 s3, .int .i64 s4] 54)).alloc (.cells (enC (x0, xa, xb, xp)) 35)).alloc (.cells (enC (y0, ya, yb, yp)) 35)).alloc (.cells (enC noEn) 35))
          clear hb4
          generalize (((wr.alloc (.cells #[.int .i64 s0, .int .i64 s1, .int .i64 s2, .int .i64 s3, .int .i64 s4] 54)).alloc (.cells (enC (x0, xa, xb, xp)) 35)).alloc (.cells (enC (y0, ya, yb, yp)) 35)).alloc (.cells (enC noEn) 35) = w2 at SB AB YB XB LO2 ⊢
          clear k0 k1 k2 k3 k4 e0 e1 e2 e3 f0 f1 f2 f3 lE wf2 wf3 q21 q22 q31 q32 HLO
          obtain ⟨gS, hgS⟩ : ∃ gS, wr.heap.size = gS := ⟨_, rfl⟩
          rw [hgS] at SB AB YB XB zW ⊢
          obtain ⟨gA, hgA⟩ : ∃ gA, gS + 1 = gA := ⟨_, rfl⟩
          rw [hgA] at AB YB XB ⊢
          obtain ⟨gY, hgY⟩ : ∃ gY, gA + 1 = gY := ⟨_, rfl⟩
          rw [hgY] at YB XB ⊢
          obtain ⟨gX, hgX⟩ : ∃ gX, gY + 1 = gX := ⟨_, rfl⟩
          rw [hgX] at XB ⊢
          have zX : w.heap.size ≤ gX := by omega
          have zXA : gA ≠ gX := by omega
          have zXY : gY ≠ gX := by omega
          clear hgS hgA hgY hgX zW
          have c1 := SB.out.cell 1
          have hkm : -6 < s1.tmod 6 ∧ s1.tmod 6 < 6 := ⟨Int.lt_tmod_of_pos s1 (by omega), Int.tmod_lt_of_pos s1 (by omega)⟩
          obtain ⟨km, hkm2⟩ : ∃ km, s1.tmod 6 = km := ⟨_, rfl⟩
          rw [hkm2] at hkm
          go_upto_if 73 with fail
          refine wp_cut (fun a' w' => ∃ kk : Nat, kk < 6 ∧ w' = w2 ∧ ∃ us, a' = Fr (.slice (some ⟨b, of, none⟩) n c) (.bool true) (.pointer (some ⟨g, 0, none⟩)) (.pointer (some ⟨gO, 0, none⟩)) (.pointer (some ⟨gE, 0, none⟩)) (.pointer (some ⟨gT, 0, none⟩)) (.int .i64 j) (.pointer (some ⟨gS, 0, none⟩)) (.int .i64 cc) (.int .i64 o) (.int .i64 t) (.pointer (some ⟨gA, 0, none⟩)) (.pointer (some ⟨gY, 0, none⟩)) (.pointer (some ⟨gX, 0, none⟩)) (.int .i64 12) (.int .i64 kk) (us 18) (us 19) (us 20) (us 21) us) ?_ ?_
          rotate_left
          · intro J3 K3 hJ3 hK3
            by_cases h0 : km < 0
            · have q1 : IntKind.i64.wrap (-km) = -km := IntWalk.i64_in _ (by omega)
              obtain ⟨kk, hkk⟩ : ∃ kk : Nat, -km = (kk : Int) := ⟨(-km).toNat, by omega⟩
              have hk6 : kk < 6 := by omega
              rw [hkk] at q1
              go_wp2_with fail
              refine meet_at hJ3 ⟨kk, hk6, rfl, meet_us (by kernel_rfl)⟩
            · obtain ⟨kk, hkk⟩ : ∃ kk : Nat, km = (kk : Int) := ⟨km.toNat, by omega⟩
              have hk6 : kk < 6 := by omega
              subst hkk
              go_wp2_with fail
              refine meet_at hJ3 ⟨kk, hk6, rfl, meet_us (by kernel_rfl)⟩
          · rintro a3 w3 ⟨kk, hkk, rfl, us3, rfl⟩
            unfold Fr
            clear hkm hkm2 c1
            go_upto_block 2 with fail
            refine wp_cut (fun a' w' => ∃ (er : Int) (x : En), LO w w' g gO gE gT E T O ∧ Blk w' gX 35 (enC x) ∧ (er = 0 → ∃ q, InvE (upd2 E cc o x) (upd2 T cc o true) (upd2 O cc o q)) ∧ ∃ us, a' = Fr (.slice (some ⟨b, of, none⟩) n c) (.bool true) (.pointer (some ⟨g, 0, none⟩)) (.pointer (some ⟨gO, 0, none⟩)) (.pointer (some ⟨gE, 0, none⟩)) (.pointer (some ⟨gT, 0, none⟩)) (.int .i64 j) (.pointer (some ⟨gS, 0, none⟩)) (.int .i64 cc) (.int .i64 o) (.int .i64 t) (.pointer (some ⟨gA, 0, none⟩)) (.pointer (some ⟨gY, 0, none⟩)) (.pointer (some ⟨gX, 0, none⟩)) (.int .i64 er) (us 17) (us 18) (us 19) (us 20) (us 21) us) ?_ ?_
            rotate_left
            · intro J4 K4 hJ4 hK4
              have t1 := (LO2.out.there.cell _).trans (thereC_get (T := T) hc2 ho)
              have t2 := (LO2.out.there.cell _).trans (thereC_get (T := T) hd2 ht)
              obtain ⟨u1, hu1⟩ : ∃ u, T cc o = u := ⟨_, rfl⟩
              obtain ⟨u2, hu2⟩ : ∃ u, T d t = u := ⟨_, rfl⟩
              rw [hu1] at t1
              rw [hu2] at t2
              have HU1 := Lib.hid hu1
              have HU2 := Lib.hid hu2
              obtain ⟨b4, hb4⟩ : ∃ b : Nat, s4 % 2 = b := ⟨(s4 % 2).toNat, by omega⟩
              have q4 := i64_and1 s4
              rw [hb4] at q4
              have hb42 : b4 < 2 := by omega
              obtain ⟨b5, hb5⟩ : ∃ b : Nat, s4 / 2 % 2 = b := ⟨(s4 / 2 % 2).toNat, by omega⟩
              have q5 := i64_and1 (s4 / 2)
              rw [hb5] at q5
              have hb52 : b5 < 2 := by omega
              have i5 : (b4 : Int) < 2 := by omega
              have i6 : (b5 : Int) < 2 := by omega
              obtain ⟨A, hA⟩ : ∃ A, lover cc b4 = A := ⟨_, rfl⟩
              obtain ⟨B, hB⟩ : ∃ A, lover d b5 = A := ⟨_, rfl⟩
              obtain ⟨M, hM⟩ : ∃ A, lname cc o = A := ⟨_, rfl⟩
              obtain ⟨N, hN⟩ : ∃ A, lname d t = A := ⟨_, rfl⟩
              have oA := oversC_get hc2 hb42
              have oB := oversC_get hd2 hb52
              have nM := namesC_get hc2 ho
              have nN := namesC_get hd2 ht
              rw [hA] at oA
              rw [hB] at oB
              rw [hM] at nM
              rw [hN] at nN
              have HOA := Lib.hid oA
              have HOB := Lib.hid oB
              have HNM := Lib.hid nM
              have HNN := Lib.hid nN
              have fA : Fits A := by rw [← hA]; exact part_fits (lover_part hc2 hb42)
              have fB : Fits B := by rw [← hB]; exact part_fits (lover_part hd2 hb52)
              have fM : Fits M := by rw [← hM]; exact part_fits (lname_part hc2 ho)
              have fN : Fits N := by rw [← hN]; exact part_fits (lname_part hd2 ht)
              obtain ⟨fa, fb, fp⟩ := LO2.out.fits hc2 ho
              rw [HX.out] at fa fb fp
              obtain ⟨ga, gb, gp⟩ := LO2.out.fits hd2 ht
              rw [HY.out] at ga gb gp
              have HA := Lib.hid hA
              have HB := Lib.hid hB
              have HM := Lib.hid hM
              have HN := Lib.hid hN
              have hk6 : kk = 0 ∨ kk = 1 ∨ kk = 2 ∨ kk = 3 ∨ kk = 4 ∨ kk = 5 := by omega
              clear hu1 hu2 hkk hb4 hb5 hA hB hM hN oA oB nM nN
              rcases hk6 with rfl | rfl | rfl | rfl | rfl | rfl
              · cases u1
                · go_wp2_with fail
                  obtain ⟨⟨⟨n0, na, nb, nc⟩, er⟩, hr⟩ : ∃ r, initR A B = r := ⟨_, rfl⟩
                  have HR := Lib.hid hr
                  clear hr
                  refine until_begin 22 (fun w' => w'.cell? ⟨gO, cc * 2 + b4, none⟩ = some (str A) ∧ w'.cell? ⟨gO, d * 2 + b5, none⟩ = some (str B) ∧ w'.cell? ⟨gS, 4, none⟩ = some (.int .i64 s4)) (by kernel_rfl) ⟨(LO2.out.overs.cell _).trans HOA.out, (LO2.out.overs.cell _).trans HOB.out, SB.out.cell 4⟩ (fun hS => ?_)
                  refine until_take 0 (some 88) (u := ?_) rfl rfl (by kernel_rfl) (by kernel_rfl) (by kernel_rfl) (by kernel_rfl) (fun _ _ _ h => h) (by rfl) (fun wS hv => ?_) hS ?_
                  rotate_left
                  · clear hv
                    go_simp
                    all_goals with_reducible rfl
                  try simp only [Act.put, List.setIfInBounds_toArray, List.set]
                  refine until_take 1 (some 89) (u := ?_) rfl rfl (by kernel_rfl) (by kernel_rfl) (by kernel_rfl) (by kernel_rfl) (fun _ _ _ h => h) (by rfl) (fun wS hv => ?_) hS ?_
                  rotate_left
                  · clear hv
                    go_simp
                    all_goals with_reducible rfl
                  try simp only [Act.put, List.setIfInBounds_toArray, List.set]
                  refine until_take 2 (some 90) (u := ?_) rfl rfl (by kernel_rfl) (by kernel_rfl) (by kernel_rfl) (by kernel_rfl) (fun _ _ _ h => h) (by rfl) (fun wS hv => ?_) hS ?_
                  rotate_left
                  · obtain ⟨k1, k2, k3⟩ := hv
                    go_simp
                    all_goals with_reducible rfl
                  try simp only [Act.put, List.setIfInBounds_toArray, List.set]
                  refine until_take 3 (some 91) (u := .int .i64 b4) rfl rfl (by kernel_rfl) (by kernel_rfl) (by kernel_rfl) (by kernel_rfl) (fun _ _ _ h => h) (by rfl) (fun wS hv => ?_) hS ?_
                  · clear hv
                    go_simp
                  try simp only [Act.put, List.setIfInBounds_toArray, List.set]
                  refine until_take 4 (some 92) (u := ?_) rfl rfl (by kernel_rfl) (by kernel_rfl) (by kernel_rfl) (by kernel_rfl) (fun _ _ _ h => h) (by rfl) (fun wS hv => ?_) hS ?_
                  rotate_left
                  · clear hv
                    go_simp
                    all_goals with_reducible rfl
                  try simp only [Act.put, List.setIfInBounds_toArray, List.set]
                  refine until_take 5 (some 93) (u := ?_) rfl rfl (by kernel_rfl) (by kernel_rfl) (by kernel_rfl) (by kernel_rfl) (fun _ _ _ h => h) (by rfl) (fun wS hv => ?_) hS ?_
                  rotate_left
                  · clear hv
                    go_simp
                    all_goals with_reducible rfl
                  try simp only [Act.put, List.setIfInBounds_toArray, List.set]
                  refine until_take 6 (some 94) (u := ?_) rfl rfl (by kernel_rfl) (by kernel_rfl) (by kernel_rfl) (by kernel_rfl) (fun _ _ _ h => h) (by rfl) (fun wS hv => ?_) hS ?_
                  rotate_left
                  · obtain ⟨k1, k2, k3⟩ := hv
                    go_simp
                    all_goals with_reducible rfl
                  try simp only [Act.put, List.setIfInBounds_toArray, List.set]
                  refine until_take 7 (some 95) (u := ?_) rfl rfl (by kernel_rfl) (by kernel_rfl) (by kernel_rfl) (by kernel_rfl) (fun _ _ _ h => h) (by rfl) (fun wS hv => ?_) hS ?_
                  rotate_left
                  · clear hv
                    go_simp
                    all_goals with_reducible rfl
                  try simp only [Act.put, List.setIfInBounds_toArray, List.set]
                  refine until_take 8 (some 96) (u := ?_) rfl rfl (by kernel_rfl) (by kernel_rfl) (by kernel_rfl) (by kernel_rfl) (fun _ _ _ h => h) (by rfl) (fun wS hv => ?_) hS ?_
                  rotate_left
                  · clear hv
                    go_simp
                    all_goals with_reducible rfl
                  try simp only [Act.put, List.setIfInBounds_toArray, List.set]
                  refine until_take 9 (some 97) (u := ?_) rfl rfl (by kernel_rfl) (by kernel_rfl) (by kernel_rfl) (by kernel_rfl) (fun _ _ _ h => h) (by rfl) (fun wS hv => ?_) hS ?_
                  rotate_left
                  · clear hv
                    go_simp
                    all_goals with_reducible rfl
                  try simp only [Act.put, List.setIfInBounds_toArray, List.set]
                  refine until_take 10 (some 98) (u := ?_) rfl rfl (by kernel_rfl) (by kernel_rfl) (by kernel_rfl) (by kernel_rfl) (fun _ _ _ h => h) (by rfl) (fun wS hv => ?_) hS ?_
                  rotate_left
                  · obtain ⟨k1, k2, k3⟩ := hv
                    go_simp
                    all_goals with_reducible rfl
                  try simp only [Act.put, List.setIfInBounds_toArray, List.set]
                  refine until_take 11 (some 99) (u := .int .i64 (s4 / 2)) rfl rfl (by kernel_rfl) (by kernel_rfl) (by kernel_rfl) (by kernel_rfl) (fun _ _ _ h => h) (by rfl) (fun wS hv => ?_) hS ?_
                  · clear hv
                    go_simp
                  try simp only [Act.put, List.setIfInBounds_toArray, List.set]
                  refine until_take 12 (some 100) (u := .int .i64 b5) rfl rfl (by kernel_rfl) (by kernel_rfl) (by kernel_rfl) (by kernel_rfl) (fun _ _ _ h => h) (by rfl) (fun wS hv => ?_) hS ?_
                  · clear hv
                    go_simp
                  try simp only [Act.put, List.setIfInBounds_toArray, List.set]
                  refine until_take 13 (some 101) (u := ?_) rfl rfl (by kernel_rfl) (by kernel_rfl) (by kernel_rfl) (by kernel_rfl) (fun _ _ _ h => h) (by rfl) (fun wS hv => ?_) hS ?_
                  rotate_left
                  · clear hv
                    go_simp
                    all_goals with_reducible rfl
                  try simp only [Act.put, List.setIfInBounds_toArray, List.set]
                  refine until_take 14 (some 102) (u := ?_) rfl rfl (by kernel_rfl) (by kernel_rfl) (by kernel_rfl) (by kernel_rfl) (fun _ _ _ h => h) (by rfl) (fun wS hv => ?_) hS ?_
                  rotate_left
                  · clear hv
                    go_simp
                    all_goals with_reducible rfl
                  try simp only [Act.put, List.setIfInBounds_toArray, List.set]
                  refine until_take 15 (some 103) (u := ?_) rfl rfl (by kernel_rfl) (by kernel_rfl) (by kernel_rfl) (by kernel_rfl) (fun _ _ _ h => h) (by rfl) (fun wS hv => ?_) hS ?_
                  rotate_left
                  · obtain ⟨k1, k2, k3⟩ := hv
                    go_simp
                    all_goals with_reducible rfl
                  try simp only [Act.put, List.setIfInBounds_toArray, List.set]
                  refine until_one 16 (by kernel_rfl) rfl (fun K hK => ?_)
                  go_simp
                  refine (init_any A B n0 na nb nc er _ HR.out fA fB).mono ?_
                  rintro e5 w5 ⟨rfl, hb5⟩
                  have LO5 := Lib.hid (LO2.out.drew.step hb5)
                  have XB5 := Lib.hid (XB.out.drew.step hb5)
                  have SB5 := Lib.hid (SB.out.drew.step hb5)
                  refine hK.out _ _ ⟨(LO5.out.overs.cell _).trans HOA.out, (LO5.out.overs.cell _).trans HOB.out, SB5.out.cell 4⟩ (fun hS => ?_)
                  clear hK K
                  try simp only [Act.put, List.setIfInBounds_toArray, List.set]
                  refine until_take 17 (some 87) (u := ?_) rfl rfl (by kernel_rfl) (by kernel_rfl) (by kernel_rfl) (by kernel_rfl) (fun _ _ _ h => h) (by rfl) (fun wS hv => ?_) hS ?_
                  rotate_left
                  · clear hv
                    go_simp
                    all_goals with_reducible rfl
                  try simp only [Act.put, List.setIfInBounds_toArray, List.set]
                  refine until_take 18 (some 105) (u := ?_) rfl rfl (by kernel_rfl) (by kernel_rfl) (by kernel_rfl) (by kernel_rfl) (fun _ _ _ h => h) (by rfl) (fun wS hv => ?_) hS ?_
                  rotate_left
                  · clear hv
                    go_simp
                    all_goals with_reducible rfl
                  try simp only [Act.put, List.setIfInBounds_toArray, List.set]
                  refine until_take 19 (some 106) (u := ?_) rfl rfl (by kernel_rfl) (by kernel_rfl) (by kernel_rfl) (by kernel_rfl) (fun _ _ _ h => h) (by rfl) (fun wS hv => ?_) hS ?_
                  rotate_left
                  · clear hv
                    go_simp
                    all_goals with_reducible rfl
                  try simp only [Act.put, List.setIfInBounds_toArray, List.set]
                  refine until_one 20 (by kernel_rfl) rfl (fun K hK => ?_)
                  have z0 := XB5.out.frozen 0
                  have z1 := XB5.out.frozen 1
                  have z2 := XB5.out.frozen 2
                  have z3 := XB5.out.frozen 3
                  have y0 : w5.cell? ⟨gX, 0, none⟩ = some (.int .i64 0) := XB5.out.cell 0
                  have y1 : w5.cell? ⟨gX, 1, none⟩ = some (str []) := XB5.out.cell 1
                  have y2 : w5.cell? ⟨gX, 2, none⟩ = some (str []) := XB5.out.cell 2
                  have y3 : w5.cell? ⟨gX, 3, none⟩ = some (str []) := XB5.out.cell 3
                  go_simp
                  have LO6 := Lib.hid (LO5.out.store XB5.out zX (n0, na, nb, nc))
                  have XB6 := Lib.hid (XB5.out.storeE (noEn) (n0, na, nb, nc))
                  have SB6 := Lib.hid (SB5.out.storeO (blk_ne SB5.out XB5.out (by decide)) (n0, na, nb, nc))
                  refine hK.out _ _ ⟨(LO6.out.overs.cell _).trans HOA.out, (LO6.out.overs.cell _).trans HOB.out, SB6.out.cell 4⟩ (fun hS => ?_)
                  clear hK K
                  try simp only [Act.put, List.setIfInBounds_toArray, List.set]
                  refine until_take 21 (some 16) (u := ?_) rfl rfl (by kernel_rfl) (by kernel_rfl) (by kernel_rfl) (by kernel_rfl) (fun _ _ _ h => h) (by rfl) (fun wS hv => ?_) hS ?_
                  rotate_left
                  · clear hv
                    go_simp
                    all_goals with_reducible rfl
                  try simp only [Act.put, List.setIfInBounds_toArray, List.set]
                  refine until_done (by kernel_rfl) ?_
                  go_wp2_with fail
                  refine meet_at hJ4 ⟨er, (n0, na, nb, nc), LO6.out, XB6.out, (fun e => ⟨false, LO2.out.inv.init hc2 ho hb42 hb52 HU1.out (by rw [HD.out, HA.out, HB.out, HR.out, e])⟩), meet_us (by kernel_rfl)⟩
                · go_wp2_with fail
                  refine meet_at hJ4 ⟨12, noEn, LO2.out, XB.out, (fun e => by cases e), meet_us (by kernel_rfl)⟩
              · cases u1
                · cases u2
                  · go_wp2_with fail
                    refine meet_at hJ4 ⟨12, noEn, LO2.out, XB.out, (fun e => by cases e), meet_us (by kernel_rfl)⟩
                  · go_wp2_with fail
                    obtain ⟨⟨⟨n0, na, nb, nc⟩, er⟩, hr⟩ : ∃ r, tryR A N (y0, ya, yb, yp) = r := ⟨_, rfl⟩
                    have HR := Lib.hid hr
                    clear hr
                    refine until_begin 20 (fun w' => w'.cell? ⟨gO, cc * 2 + b4, none⟩ = some (str A) ∧ w'.cell? ⟨g, d * 3 + t, none⟩ = some (str N) ∧ w'.cell? ⟨gS, 4, none⟩ = some (.int .i64 s4) ∧ w'.cell? ⟨gY, 0, none⟩ = some (.int .i64 y0) ∧ w'.cell? ⟨gY, 1, none⟩ = some (str ya) ∧ w'.cell? ⟨gY, 2, none⟩ = some (str yb) ∧ w'.cell? ⟨gY, 3, none⟩ = some (str yp)) (by kernel_rfl) ⟨(LO2.out.overs.cell _).trans HOA.out, (LO2.out.names.cell _).trans HNN.out, SB.out.cell 4, YB.out.cell 0, YB.out.cell 1, YB.out.cell 2, YB.out.cell 3⟩ (fun hS => ?_)
                    refine until_take 0 (some 127) (u := ?_) rfl rfl (by kernel_rfl) (by kernel_rfl) (by kernel_rfl) (by kernel_rfl) (fun _ _ _ h => h) (by rfl) (fun wS hv => ?_) hS ?_
                    rotate_left
                    · clear hv
                      go_simp
                      all_goals with_reducible rfl
                    try simp only [Act.put, List.setIfInBounds_toArray, List.set]
                    refine until_take 1 (some 128) (u := ?_) rfl rfl (by kernel_rfl) (by kernel_rfl) (by kernel_rfl) (by kernel_rfl) (fun _ _ _ h => h) (by rfl) (fun wS hv => ?_) hS ?_
                    rotate_left
                    · clear hv
                      go_simp
                      all_goals with_reducible rfl
                    try simp only [Act.put, List.setIfInBounds_toArray, List.set]
                    refine until_take 2 (some 129) (u := ?_) rfl rfl (by kernel_rfl) (by kernel_rfl) (by kernel_rfl) (by kernel_rfl) (fun _ _ _ h => h) (by rfl) (fun wS hv => ?_) hS ?_
                    rotate_left
                    · obtain ⟨k1, k2, k3, k4, k5, k6, k7⟩ := hv
                      go_simp
                      all_goals with_reducible rfl
                    try simp only [Act.put, List.setIfInBounds_toArray, List.set]
                    refine until_take 3 (some 130) (u := .int .i64 b4) rfl rfl (by kernel_rfl) (by kernel_rfl) (by kernel_rfl) (by kernel_rfl) (fun _ _ _ h => h) (by rfl) (fun wS hv => ?_) hS ?_
                    · clear hv
                      go_simp
                    try simp only [Act.put, List.setIfInBounds_toArray, List.set]
                    refine until_take 4 (some 131) (u := ?_) rfl rfl (by kernel_rfl) (by kernel_rfl) (by kernel_rfl) (by kernel_rfl) (fun _ _ _ h => h) (by rfl) (fun wS hv => ?_) hS ?_
                    rotate_left
                    · clear hv
                      go_simp
                      all_goals with_reducible rfl
                    try simp only [Act.put, List.setIfInBounds_toArray, List.set]
                    refine until_take 5 (some 132) (u := ?_) rfl rfl (by kernel_rfl) (by kernel_rfl) (by kernel_rfl) (by kernel_rfl) (fun _ _ _ h => h) (by rfl) (fun wS hv => ?_) hS ?_
                    rotate_left
                    · clear hv
                      go_simp
                      all_goals with_reducible rfl
                    try simp only [Act.put, List.setIfInBounds_toArray, List.set]
                    refine until_take 6 (some 133) (u := ?_) rfl rfl (by kernel_rfl) (by kernel_rfl) (by kernel_rfl) (by kernel_rfl) (fun _ _ _ h => h) (by rfl) (fun wS hv => ?_) hS ?_
                    rotate_left
                    · obtain ⟨k1, k2, k3, k4, k5, k6, k7⟩ := hv
                      go_simp
                      all_goals with_reducible rfl
                    try simp only [Act.put, List.setIfInBounds_toArray, List.set]
                    refine until_take 7 (some 134) (u := ?_) rfl rfl (by kernel_rfl) (by kernel_rfl) (by kernel_rfl) (by kernel_rfl) (fun _ _ _ h => h) (by rfl) (fun wS hv => ?_) hS ?_
                    rotate_left
                    · clear hv
                      go_simp
                      all_goals with_reducible rfl
                    try simp only [Act.put, List.setIfInBounds_toArray, List.set]
                    refine until_take 8 (some 135) (u := ?_) rfl rfl (by kernel_rfl) (by kernel_rfl) (by kernel_rfl) (by kernel_rfl) (fun _ _ _ h => h) (by rfl) (fun wS hv => ?_) hS ?_
                    rotate_left
                    · clear hv
                      go_simp
                      all_goals with_reducible rfl
                    try simp only [Act.put, List.setIfInBounds_toArray, List.set]
                    refine until_take 9 (some 136) (u := ?_) rfl rfl (by kernel_rfl) (by kernel_rfl) (by kernel_rfl) (by kernel_rfl) (fun _ _ _ h => h) (by rfl) (fun wS hv => ?_) hS ?_
                    rotate_left
                    · clear hv
                      go_simp
                      all_goals with_reducible rfl
                    try simp only [Act.put, List.setIfInBounds_toArray, List.set]
                    refine until_take 10 (some 137) (u := ?_) rfl rfl (by kernel_rfl) (by kernel_rfl) (by kernel_rfl) (by kernel_rfl) (fun _ _ _ h => h) (by rfl) (fun wS hv => ?_) hS ?_
                    rotate_left
                    · clear hv
                      go_simp
                      all_goals with_reducible rfl
                    try simp only [Act.put, List.setIfInBounds_toArray, List.set]
                    refine until_take 11 (some 138) (u := ?_) rfl rfl (by kernel_rfl) (by kernel_rfl) (by kernel_rfl) (by kernel_rfl) (fun _ _ _ h => h) (by rfl) (fun wS hv => ?_) hS ?_
                    rotate_left
                    · clear hv
                      go_simp
                      all_goals with_reducible rfl
                    try simp only [Act.put, List.setIfInBounds_toArray, List.set]
                    refine until_take 12 (some 139) (u := ?_) rfl rfl (by kernel_rfl) (by kernel_rfl) (by kernel_rfl) (by kernel_rfl) (fun _ _ _ h => h) (by rfl) (fun wS hv => ?_) hS ?_
                    rotate_left
                    · obtain ⟨k1, k2, k3, k4, k5, k6, k7⟩ := hv
                      go_simp
                      all_goals with_reducible rfl
                    try simp only [Act.put, List.setIfInBounds_toArray, List.set]
                    refine until_take 13 (some 140) (u := ?_) rfl rfl (by kernel_rfl) (by kernel_rfl) (by kernel_rfl) (by kernel_rfl) (fun _ _ _ h => h) (by rfl) (fun wS hv => ?_) hS ?_
                    rotate_left
                    · obtain ⟨k1, k2, k3, k4, k5, k6, k7⟩ := hv
                      go_simp
                      all_goals with_reducible rfl
                    try simp only [Act.put, List.setIfInBounds_toArray, List.set]
                    refine until_one 14 (by kernel_rfl) rfl (fun K hK => ?_)
                    go_simp
                    refine (try_any A N y0 ya yb yp n0 na nb nc er _ HR.out fA fN ga gb gp).mono ?_
                    rintro e5 w5 ⟨rfl, hb5⟩
                    have LO5 := Lib.hid (LO2.out.drew.step hb5)
                    have XB5 := Lib.hid (XB.out.drew.step hb5)
                    have SB5 := Lib.hid (SB.out.drew.step hb5)
                    have YB5 := Lib.hid (YB.out.drew.step hb5)
                    refine hK.out _ _ ⟨(LO5.out.overs.cell _).trans HOA.out, (LO5.out.names.cell _).trans HNN.out, SB5.out.cell 4, YB5.out.cell 0, YB5.out.cell 1, YB5.out.cell 2, YB5.out.cell 3⟩ (fun hS => ?_)
                    clear hK K
                    try simp only [Act.put, List.setIfInBounds_toArray, List.set]
                    refine until_take 15 (some 126) (u := ?_) rfl rfl (by kernel_rfl) (by kernel_rfl) (by kernel_rfl) (by kernel_rfl) (fun _ _ _ h => h) (by rfl) (fun wS hv => ?_) hS ?_
                    rotate_left
                    · clear hv
                      go_simp
                      all_goals with_reducible rfl
                    try simp only [Act.put, List.setIfInBounds_toArray, List.set]
                    refine until_take 16 (some 142) (u := ?_) rfl rfl (by kernel_rfl) (by kernel_rfl) (by kernel_rfl) (by kernel_rfl) (fun _ _ _ h => h) (by rfl) (fun wS hv => ?_) hS ?_
                    rotate_left
                    · clear hv
                      go_simp
                      all_goals with_reducible rfl
                    try simp only [Act.put, List.setIfInBounds_toArray, List.set]
                    refine until_take 17 (some 143) (u := ?_) rfl rfl (by kernel_rfl) (by kernel_rfl) (by kernel_rfl) (by kernel_rfl) (fun _ _ _ h => h) (by rfl) (fun wS hv => ?_) hS ?_
                    rotate_left
                    · clear hv
                      go_simp
                      all_goals with_reducible rfl
                    try simp only [Act.put, List.setIfInBounds_toArray, List.set]
                    refine until_one 18 (by kernel_rfl) rfl (fun K hK => ?_)
                    have z0 := XB5.out.frozen 0
                    have z1 := XB5.out.frozen 1
                    have z2 := XB5.out.frozen 2
                    have z3 := XB5.out.frozen 3
                    have y0 : w5.cell? ⟨gX, 0, none⟩ = some (.int .i64 0) := XB5.out.cell 0
                    have y1 : w5.cell? ⟨gX, 1, none⟩ = some (str []) := XB5.out.cell 1
                    have y2 : w5.cell? ⟨gX, 2, none⟩ = some (str []) := XB5.out.cell 2
                    have y3 : w5.cell? ⟨gX, 3, none⟩ = some (str []) := XB5.out.cell 3
                    go_simp
                    have LO6 := Lib.hid (LO5.out.store XB5.out zX (n0, na, nb, nc))
                    have XB6 := Lib.hid (XB5.out.storeE (noEn) (n0, na, nb, nc))
                    have SB6 := Lib.hid (SB5.out.storeO (blk_ne SB5.out XB5.out (by decide)) (n0, na, nb, nc))
                    have YB6 := Lib.hid (YB5.out.storeO zXY (n0, na, nb, nc))
                    refine hK.out _ _ ⟨(LO6.out.overs.cell _).trans HOA.out, (LO6.out.names.cell _).trans HNN.out, SB6.out.cell 4, YB6.out.cell 0, YB6.out.cell 1, YB6.out.cell 2, YB6.out.cell 3⟩ (fun hS => ?_)
                    clear hK K
                    try simp only [Act.put, List.setIfInBounds_toArray, List.set]
                    refine until_take 19 (some 16) (u := ?_) rfl rfl (by kernel_rfl) (by kernel_rfl) (by kernel_rfl) (by kernel_rfl) (fun _ _ _ h => h) (by rfl) (fun wS hv => ?_) hS ?_
                    rotate_left
                    · clear hv
                      go_simp
                      all_goals with_reducible rfl
                    try simp only [Act.put, List.setIfInBounds_toArray, List.set]
                    refine until_done (by kernel_rfl) ?_
                    go_wp2_with fail
                    refine meet_at hJ4 ⟨er, (n0, na, nb, nc), LO6.out, XB6.out, (fun e => ⟨true, LO2.out.inv.answer hc2 ho ht HU1.out (by rw [HD.out]; exact HU2.out) (by rw [HD.out, HA.out, HN.out, HY.out, HR.out, e])⟩), meet_us (by kernel_rfl)⟩
                · go_wp2_with fail
                  refine meet_at hJ4 ⟨12, noEn, LO2.out, XB.out, (fun e => by cases e), meet_us (by kernel_rfl)⟩
              · cases u1
                · go_wp2_with fail
                  refine meet_at hJ4 ⟨12, noEn, LO2.out, XB.out, (fun e => by cases e), meet_us (by kernel_rfl)⟩
                · cases u2
                  · go_wp2_with fail
                    refine meet_at hJ4 ⟨12, noEn, LO2.out, XB.out, (fun e => by cases e), meet_us (by kernel_rfl)⟩
                  · go_wp2_with fail
                    obtain ⟨⟨⟨n0, na, nb, nc⟩, er⟩, hr⟩ : ∃ r, ackR (x0, xa, xb, xp) M N (y0, ya, yb, yp) = r := ⟨_, rfl⟩
                    have HR := Lib.hid hr
                    clear hr
                    refine until_begin 19 (fun w' => w'.cell? ⟨g, cc * 3 + o, none⟩ = some (str M) ∧ w'.cell? ⟨g, d * 3 + t, none⟩ = some (str N) ∧ w'.cell? ⟨gA, 0, none⟩ = some (.int .i64 x0) ∧ w'.cell? ⟨gA, 1, none⟩ = some (str xa) ∧ w'.cell? ⟨gA, 2, none⟩ = some (str xb) ∧ w'.cell? ⟨gA, 3, none⟩ = some (str xp) ∧ w'.cell? ⟨gY, 0, none⟩ = some (.int .i64 y0) ∧ w'.cell? ⟨gY, 1, none⟩ = some (str ya) ∧ w'.cell? ⟨gY, 2, none⟩ = some (str yb) ∧ w'.cell? ⟨gY, 3, none⟩ = some (str yp)) (by kernel_rfl) ⟨(LO2.out.names.cell _).trans HNM.out, (LO2.out.names.cell _).trans HNN.out, AB.out.cell 0, AB.out.cell 1, AB.out.cell 2, AB.out.cell 3, YB.out.cell 0, YB.out.cell 1, YB.out.cell 2, YB.out.cell 3⟩ (fun hS => ?_)
                    refine until_take 0 (some 163) (u := ?_) rfl rfl (by kernel_rfl) (by kernel_rfl) (by kernel_rfl) (by kernel_rfl) (fun _ _ _ h => h) (by rfl) (fun wS hv => ?_) hS ?_
                    rotate_left
                    · obtain ⟨k1, k2, k3, k4, k5, k6, k7, k8, k9, k10⟩ := hv
                      go_simp
                      all_goals with_reducible rfl
                    try simp only [Act.put, List.setIfInBounds_toArray, List.set]
                    refine until_take 1 (some 164) (u := ?_) rfl rfl (by kernel_rfl) (by kernel_rfl) (by kernel_rfl) (by kernel_rfl) (fun _ _ _ h => h) (by rfl) (fun wS hv => ?_) hS ?_
                    rotate_left
                    · clear hv
                      go_simp
                      all_goals with_reducible rfl
                    try simp only [Act.put, List.setIfInBounds_toArray, List.set]
                    refine until_take 2 (some 165) (u := ?_) rfl rfl (by kernel_rfl) (by kernel_rfl) (by kernel_rfl) (by kernel_rfl) (fun _ _ _ h => h) (by rfl) (fun wS hv => ?_) hS ?_
                    rotate_left
                    · clear hv
                      go_simp
                      all_goals with_reducible rfl
                    try simp only [Act.put, List.setIfInBounds_toArray, List.set]
                    refine until_take 3 (some 166) (u := ?_) rfl rfl (by kernel_rfl) (by kernel_rfl) (by kernel_rfl) (by kernel_rfl) (fun _ _ _ h => h) (by rfl) (fun wS hv => ?_) hS ?_
                    rotate_left
                    · clear hv
                      go_simp
                      all_goals with_reducible rfl
                    try simp only [Act.put, List.setIfInBounds_toArray, List.set]
                    refine until_take 4 (some 167) (u := ?_) rfl rfl (by kernel_rfl) (by kernel_rfl) (by kernel_rfl) (by kernel_rfl) (fun _ _ _ h => h) (by rfl) (fun wS hv => ?_) hS ?_
                    rotate_left
                    · clear hv
                      go_simp
                      all_goals with_reducible rfl
                    try simp only [Act.put, List.setIfInBounds_toArray, List.set]
                    refine until_take 5 (some 168) (u := ?_) rfl rfl (by kernel_rfl) (by kernel_rfl) (by kernel_rfl) (by kernel_rfl) (fun _ _ _ h => h) (by rfl) (fun wS hv => ?_) hS ?_
                    rotate_left
                    · obtain ⟨k1, k2, k3, k4, k5, k6, k7, k8, k9, k10⟩ := hv
                      go_simp
                      all_goals with_reducible rfl
                    try simp only [Act.put, List.setIfInBounds_toArray, List.set]
                    refine until_take 6 (some 169) (u := ?_) rfl rfl (by kernel_rfl) (by kernel_rfl) (by kernel_rfl) (by kernel_rfl) (fun _ _ _ h => h) (by rfl) (fun wS hv => ?_) hS ?_
                    rotate_left
                    · clear hv
                      go_simp
                      all_goals with_reducible rfl
                    try simp only [Act.put, List.setIfInBounds_toArray, List.set]
                    refine until_take 7 (some 170) (u := ?_) rfl rfl (by kernel_rfl) (by kernel_rfl) (by kernel_rfl) (by kernel_rfl) (fun _ _ _ h => h) (by rfl) (fun wS hv => ?_) hS ?_
                    rotate_left
                    · clear hv
                      go_simp
                      all_goals with_reducible rfl
                    try simp only [Act.put, List.setIfInBounds_toArray, List.set]
                    refine until_take 8 (some 171) (u := ?_) rfl rfl (by kernel_rfl) (by kernel_rfl) (by kernel_rfl) (by kernel_rfl) (fun _ _ _ h => h) (by rfl) (fun wS hv => ?_) hS ?_
                    rotate_left
                    · clear hv
                      go_simp
                      all_goals with_reducible rfl
                    try simp only [Act.put, List.setIfInBounds_toArray, List.set]
                    refine until_take 9 (some 172) (u := ?_) rfl rfl (by kernel_rfl) (by kernel_rfl) (by kernel_rfl) (by kernel_rfl) (fun _ _ _ h => h) (by rfl) (fun wS hv => ?_) hS ?_
                    rotate_left
                    · clear hv
                      go_simp
                      all_goals with_reducible rfl
                    try simp only [Act.put, List.setIfInBounds_toArray, List.set]
                    refine until_take 10 (some 173) (u := ?_) rfl rfl (by kernel_rfl) (by kernel_rfl) (by kernel_rfl) (by kernel_rfl) (fun _ _ _ h => h) (by rfl) (fun wS hv => ?_) hS ?_
                    rotate_left
                    · clear hv
                      go_simp
                      all_goals with_reducible rfl
                    try simp only [Act.put, List.setIfInBounds_toArray, List.set]
                    refine until_take 11 (some 174) (u := ?_) rfl rfl (by kernel_rfl) (by kernel_rfl) (by kernel_rfl) (by kernel_rfl) (fun _ _ _ h => h) (by rfl) (fun wS hv => ?_) hS ?_
                    rotate_left
                    · obtain ⟨k1, k2, k3, k4, k5, k6, k7, k8, k9, k10⟩ := hv
                      go_simp
                      all_goals with_reducible rfl
                    try simp only [Act.put, List.setIfInBounds_toArray, List.set]
                    refine until_take 12 (some 175) (u := ?_) rfl rfl (by kernel_rfl) (by kernel_rfl) (by kernel_rfl) (by kernel_rfl) (fun _ _ _ h => h) (by rfl) (fun wS hv => ?_) hS ?_
                    rotate_left
                    · obtain ⟨k1, k2, k3, k4, k5, k6, k7, k8, k9, k10⟩ := hv
                      go_simp
                      all_goals with_reducible rfl
                    try simp only [Act.put, List.setIfInBounds_toArray, List.set]
                    refine until_one 13 (by kernel_rfl) rfl (fun K hK => ?_)
                    go_simp
                    refine (ack_any x0 xa xb xp M N y0 ya yb yp n0 na nb nc er _ HR.out fa fb fp fM fN ga gb gp).mono ?_
                    rintro e5 w5 ⟨rfl, hb5⟩
                    have LO5 := Lib.hid (LO2.out.drew.step hb5)
                    have XB5 := Lib.hid (XB.out.drew.step hb5)
                    have AB5 := Lib.hid (AB.out.drew.step hb5)
                    have YB5 := Lib.hid (YB.out.drew.step hb5)
                    refine hK.out _ _ ⟨(LO5.out.names.cell _).trans HNM.out, (LO5.out.names.cell _).trans HNN.out, AB5.out.cell 0, AB5.out.cell 1, AB5.out.cell 2, AB5.out.cell 3, YB5.out.cell 0, YB5.out.cell 1, YB5.out.cell 2, YB5.out.cell 3⟩ (fun hS => ?_)
                    clear hK K
                    try simp only [Act.put, List.setIfInBounds_toArray, List.set]
                    refine until_take 14 (some 162) (u := ?_) rfl rfl (by kernel_rfl) (by kernel_rfl) (by kernel_rfl) (by kernel_rfl) (fun _ _ _ h => h) (by rfl) (fun wS hv => ?_) hS ?_
                    rotate_left
                    · clear hv
                      go_simp
                      all_goals with_reducible rfl
                    try simp only [Act.put, List.setIfInBounds_toArray, List.set]
                    refine until_take 15 (some 177) (u := ?_) rfl rfl (by kernel_rfl) (by kernel_rfl) (by kernel_rfl) (by kernel_rfl) (fun _ _ _ h => h) (by rfl) (fun wS hv => ?_) hS ?_
                    rotate_left
                    · clear hv
                      go_simp
                      all_goals with_reducible rfl
                    try simp only [Act.put, List.setIfInBounds_toArray, List.set]
                    refine until_take 16 (some 178) (u := ?_) rfl rfl (by kernel_rfl) (by kernel_rfl) (by kernel_rfl) (by kernel_rfl) (fun _ _ _ h => h) (by rfl) (fun wS hv => ?_) hS ?_
                    rotate_left
                    · clear hv
                      go_simp
                      all_goals with_reducible rfl
                    try simp only [Act.put, List.setIfInBounds_toArray, List.set]
                    refine until_one 17 (by kernel_rfl) rfl (fun K hK => ?_)
                    have z0 := XB5.out.frozen 0
                    have z1 := XB5.out.frozen 1
                    have z2 := XB5.out.frozen 2
                    have z3 := XB5.out.frozen 3
                    have y0 : w5.cell? ⟨gX, 0, none⟩ = some (.int .i64 0) := XB5.out.cell 0
                    have y1 : w5.cell? ⟨gX, 1, none⟩ = some (str []) := XB5.out.cell 1
                    have y2 : w5.cell? ⟨gX, 2, none⟩ = some (str []) := XB5.out.cell 2
                    have y3 : w5.cell? ⟨gX, 3, none⟩ = some (str []) := XB5.out.cell 3
                    go_simp
                    have LO6 := Lib.hid (LO5.out.store XB5.out zX (n0, na, nb, nc))
                    have XB6 := Lib.hid (XB5.out.storeE (noEn) (n0, na, nb, nc))
                    have AB6 := Lib.hid (AB5.out.storeO zXA (n0, na, nb, nc))
                    have YB6 := Lib.hid (YB5.out.storeO zXY (n0, na, nb, nc))
                    refine hK.out _ _ ⟨(LO6.out.names.cell _).trans HNM.out, (LO6.out.names.cell _).trans HNN.out, AB6.out.cell 0, AB6.out.cell 1, AB6.out.cell 2, AB6.out.cell 3, YB6.out.cell 0, YB6.out.cell 1, YB6.out.cell 2, YB6.out.cell 3⟩ (fun hS => ?_)
                    clear hK K
                    try simp only [Act.put, List.setIfInBounds_toArray, List.set]
                    refine until_take 18 (some 16) (u := ?_) rfl rfl (by kernel_rfl) (by kernel_rfl) (by kernel_rfl) (by kernel_rfl) (fun _ _ _ h => h) (by rfl) (fun wS hv => ?_) hS ?_
                    rotate_left
                    · clear hv
                      go_simp
                      all_goals with_reducible rfl
                    try simp only [Act.put, List.setIfInBounds_toArray, List.set]
                    refine until_done (by kernel_rfl) ?_
                    go_wp2_with fail
                    refine meet_at hJ4 ⟨er, (n0, na, nb, nc), LO6.out, XB6.out, (fun e => ⟨O cc o, LO2.out.inv.ack hc2 ho ht HU1.out (by rw [HD.out]; exact HU2.out) (by rw [HD.out, HM.out, HN.out, HX.out, HY.out, HR.out, e])⟩), meet_us (by kernel_rfl)⟩
              · cases u1
                · go_wp2_with fail
                  refine meet_at hJ4 ⟨12, noEn, LO2.out, XB.out, (fun e => by cases e), meet_us (by kernel_rfl)⟩
                · cases u2
                  · go_wp2_with fail
                    refine meet_at hJ4 ⟨12, noEn, LO2.out, XB.out, (fun e => by cases e), meet_us (by kernel_rfl)⟩
                  · go_wp2_with fail
                    obtain ⟨⟨⟨n0, na, nb, nc⟩, er⟩, hr⟩ : ∃ r, confirmR (x0, xa, xb, xp) M (y0, ya, yb, yp) = r := ⟨_, rfl⟩
                    have HR := Lib.hid hr
                    clear hr
                    refine until_begin 13 (fun w' => w'.cell? ⟨g, cc * 3 + o, none⟩ = some (str M) ∧ w'.cell? ⟨gA, 0, none⟩ = some (.int .i64 x0) ∧ w'.cell? ⟨gA, 1, none⟩ = some (str xa) ∧ w'.cell? ⟨gA, 2, none⟩ = some (str xb) ∧ w'.cell? ⟨gA, 3, none⟩ = some (str xp) ∧ w'.cell? ⟨gY, 0, none⟩ = some (.int .i64 y0) ∧ w'.cell? ⟨gY, 1, none⟩ = some (str ya) ∧ w'.cell? ⟨gY, 2, none⟩ = some (str yb) ∧ w'.cell? ⟨gY, 3, none⟩ = some (str yp)) (by kernel_rfl) ⟨(LO2.out.names.cell _).trans HNM.out, AB.out.cell 0, AB.out.cell 1, AB.out.cell 2, AB.out.cell 3, YB.out.cell 0, YB.out.cell 1, YB.out.cell 2, YB.out.cell 3⟩ (fun hS => ?_)
                    refine until_take 0 (some 198) (u := ?_) rfl rfl (by kernel_rfl) (by kernel_rfl) (by kernel_rfl) (by kernel_rfl) (fun _ _ _ h => h) (by rfl) (fun wS hv => ?_) hS ?_
                    rotate_left
                    · obtain ⟨k1, k3, k4, k5, k6, k7, k8, k9, k10⟩ := hv
                      go_simp
                      all_goals with_reducible rfl
                    try simp only [Act.put, List.setIfInBounds_toArray, List.set]
                    refine until_take 1 (some 199) (u := ?_) rfl rfl (by kernel_rfl) (by kernel_rfl) (by kernel_rfl) (by kernel_rfl) (fun _ _ _ h => h) (by rfl) (fun wS hv => ?_) hS ?_
                    rotate_left
                    · clear hv
                      go_simp
                      all_goals with_reducible rfl
                    try simp only [Act.put, List.setIfInBounds_toArray, List.set]
                    refine until_take 2 (some 200) (u := ?_) rfl rfl (by kernel_rfl) (by kernel_rfl) (by kernel_rfl) (by kernel_rfl) (fun _ _ _ h => h) (by rfl) (fun wS hv => ?_) hS ?_
                    rotate_left
                    · clear hv
                      go_simp
                      all_goals with_reducible rfl
                    try simp only [Act.put, List.setIfInBounds_toArray, List.set]
                    refine until_take 3 (some 201) (u := ?_) rfl rfl (by kernel_rfl) (by kernel_rfl) (by kernel_rfl) (by kernel_rfl) (fun _ _ _ h => h) (by rfl) (fun wS hv => ?_) hS ?_
                    rotate_left
                    · clear hv
                      go_simp
                      all_goals with_reducible rfl
                    try simp only [Act.put, List.setIfInBounds_toArray, List.set]
                    refine until_take 4 (some 202) (u := ?_) rfl rfl (by kernel_rfl) (by kernel_rfl) (by kernel_rfl) (by kernel_rfl) (fun _ _ _ h => h) (by rfl) (fun wS hv => ?_) hS ?_
                    rotate_left
                    · clear hv
                      go_simp
                      all_goals with_reducible rfl
                    try simp only [Act.put, List.setIfInBounds_toArray, List.set]
                    refine until_take 5 (some 203) (u := ?_) rfl rfl (by kernel_rfl) (by kernel_rfl) (by kernel_rfl) (by kernel_rfl) (fun _ _ _ h => h) (by rfl) (fun wS hv => ?_) hS ?_
                    rotate_left
                    · obtain ⟨k1, k3, k4, k5, k6, k7, k8, k9, k10⟩ := hv
                      go_simp
                      all_goals with_reducible rfl
                    try simp only [Act.put, List.setIfInBounds_toArray, List.set]
                    refine until_take 6 (some 204) (u := ?_) rfl rfl (by kernel_rfl) (by kernel_rfl) (by kernel_rfl) (by kernel_rfl) (fun _ _ _ h => h) (by rfl) (fun wS hv => ?_) hS ?_
                    rotate_left
                    · obtain ⟨k1, k3, k4, k5, k6, k7, k8, k9, k10⟩ := hv
                      go_simp
                      all_goals with_reducible rfl
                    try simp only [Act.put, List.setIfInBounds_toArray, List.set]
                    refine until_one 7 (by kernel_rfl) rfl (fun K hK => ?_)
                    go_simp
                    refine (confirm_any x0 xa xb xp M y0 ya yb yp n0 na nb nc er _ HR.out fa fb fp ga gb gp).mono ?_
                    rintro e5 w5 ⟨rfl, hb5⟩
                    have LO5 := Lib.hid (LO2.out.drew.step hb5)
                    have XB5 := Lib.hid (XB.out.drew.step hb5)
                    have AB5 := Lib.hid (AB.out.drew.step hb5)
                    have YB5 := Lib.hid (YB.out.drew.step hb5)
                    refine hK.out _ _ ⟨(LO5.out.names.cell _).trans HNM.out, AB5.out.cell 0, AB5.out.cell 1, AB5.out.cell 2, AB5.out.cell 3, YB5.out.cell 0, YB5.out.cell 1, YB5.out.cell 2, YB5.out.cell 3⟩ (fun hS => ?_)
                    clear hK K
                    try simp only [Act.put, List.setIfInBounds_toArray, List.set]
                    refine until_take 8 (some 197) (u := ?_) rfl rfl (by kernel_rfl) (by kernel_rfl) (by kernel_rfl) (by kernel_rfl) (fun _ _ _ h => h) (by rfl) (fun wS hv => ?_) hS ?_
                    rotate_left
                    · clear hv
                      go_simp
                      all_goals with_reducible rfl
                    try simp only [Act.put, List.setIfInBounds_toArray, List.set]
                    refine until_take 9 (some 206) (u := ?_) rfl rfl (by kernel_rfl) (by kernel_rfl) (by kernel_rfl) (by kernel_rfl) (fun _ _ _ h => h) (by rfl) (fun wS hv => ?_) hS ?_
                    rotate_left
                    · clear hv
                      go_simp
                      all_goals with_reducible rfl
                    try simp only [Act.put, List.setIfInBounds_toArray, List.set]
                    refine until_take 10 (some 207) (u := ?_) rfl rfl (by kernel_rfl) (by kernel_rfl) (by kernel_rfl) (by kernel_rfl) (fun _ _ _ h => h) (by rfl) (fun wS hv => ?_) hS ?_
                    rotate_left
                    · clear hv
                      go_simp
                      all_goals with_reducible rfl
                    try simp only [Act.put, List.setIfInBounds_toArray, List.set]
                    refine until_one 11 (by kernel_rfl) rfl (fun K hK => ?_)
                    have z0 := XB5.out.frozen 0
                    have z1 := XB5.out.frozen 1
                    have z2 := XB5.out.frozen 2
                    have z3 := XB5.out.frozen 3
                    have y0 : w5.cell? ⟨gX, 0, none⟩ = some (.int .i64 0) := XB5.out.cell 0
                    have y1 : w5.cell? ⟨gX, 1, none⟩ = some (str []) := XB5.out.cell 1
                    have y2 : w5.cell? ⟨gX, 2, none⟩ = some (str []) := XB5.out.cell 2
                    have y3 : w5.cell? ⟨gX, 3, none⟩ = some (str []) := XB5.out.cell 3
                    go_simp
                    have LO6 := Lib.hid (LO5.out.store XB5.out zX (n0, na, nb, nc))
                    have XB6 := Lib.hid (XB5.out.storeE (noEn) (n0, na, nb, nc))
                    have AB6 := Lib.hid (AB5.out.storeO zXA (n0, na, nb, nc))
                    have YB6 := Lib.hid (YB5.out.storeO zXY (n0, na, nb, nc))
                    refine hK.out _ _ ⟨(LO6.out.names.cell _).trans HNM.out, AB6.out.cell 0, AB6.out.cell 1, AB6.out.cell 2, AB6.out.cell 3, YB6.out.cell 0, YB6.out.cell 1, YB6.out.cell 2, YB6.out.cell 3⟩ (fun hS => ?_)
                    clear hK K
                    try simp only [Act.put, List.setIfInBounds_toArray, List.set]
                    refine until_take 12 (some 16) (u := ?_) rfl rfl (by kernel_rfl) (by kernel_rfl) (by kernel_rfl) (by kernel_rfl) (fun _ _ _ h => h) (by rfl) (fun wS hv => ?_) hS ?_
                    rotate_left
                    · clear hv
                      go_simp
                      all_goals with_reducible rfl
                    try simp only [Act.put, List.setIfInBounds_toArray, List.set]
                    refine until_done (by kernel_rfl) ?_
                    go_wp2_with fail
                    refine meet_at hJ4 ⟨er, (n0, na, nb, nc), LO6.out, XB6.out, (fun e => ⟨O cc o, LO2.out.inv.confirm hc2 ho ht HU1.out (by rw [HD.out]; exact HU2.out) (by rw [HD.out, HM.out, HX.out, HY.out, HR.out, e])⟩), meet_us (by kernel_rfl)⟩
              · cases u1
                · go_wp2_with fail
                  refine meet_at hJ4 ⟨12, noEn, LO2.out, XB.out, (fun e => by cases e), meet_us (by kernel_rfl)⟩
                · have a0 : w3.cell? ⟨gA, 0, none⟩ = some (.int .i64 x0) := AB.out.cell 0
                  have a1 : w3.cell? ⟨gA, 1, none⟩ = some (str xa) := AB.out.cell 1
                  have a2 : w3.cell? ⟨gA, 2, none⟩ = some (str xb) := AB.out.cell 2
                  have a3 : w3.cell? ⟨gA, 3, none⟩ = some (str xp) := AB.out.cell 3
                  obtain ⟨⟨⟨n0, na, nb, nc⟩, er⟩, hr⟩ : ∃ r, closeR (x0, xa, xb, xp) = r := ⟨_, rfl⟩
                  have HR := Lib.hid hr
                  clear hr
                  go_wp2_with fail
                  refine (close_any x0 xa xb xp n0 na nb nc er _ HR.out fa fb fp).mono ?_
                  rintro e5 w5 ⟨rfl, hb5⟩
                  have LO5 := Lib.hid (LO2.out.step hb5)
                  have XB5 := Lib.hid (XB.out.step hb5)
                  have z0 := XB5.out.frozen 0
                  have z1 := XB5.out.frozen 1
                  have z2 := XB5.out.frozen 2
                  have z3 := XB5.out.frozen 3
                  have y0 : w5.cell? ⟨gX, 0, none⟩ = some (.int .i64 0) := XB5.out.cell 0
                  have y1 : w5.cell? ⟨gX, 1, none⟩ = some (str []) := XB5.out.cell 1
                  have y2 : w5.cell? ⟨gX, 2, none⟩ = some (str []) := XB5.out.cell 2
                  have y3 : w5.cell? ⟨gX, 3, none⟩ = some (str []) := XB5.out.cell 3
                  clear a0 a1 a2 a3 t1 t2
                  have LO6 := Lib.hid (LO5.out.store XB5.out zX (n0, na, nb, nc))
                  have XB6 := Lib.hid (XB5.out.storeE noEn (n0, na, nb, nc))
                  go_wp2_with fail
                  refine meet_at hJ4 ⟨er, (n0, na, nb, nc), LO6.out, XB6.out, (fun e => ⟨O cc o, LO2.out.inv.close hc2 ho HU1.out (by rw [HX.out, HR.out, e])⟩), meet_us (by kernel_rfl)⟩
              · go_wp2_with fail
                refine meet_at hJ4 ⟨12, noEn, LO2.out, XB.out, (fun e => by cases e), meet_us (by kernel_rfl)⟩
            · rintro a4 w4 ⟨er, z, lo4, xb4, hz, us4, rfl⟩
              unfold Fr
              obtain ⟨z0, za, zb, zp⟩ := z
              have LO4 := Lib.hid lo4
              have XB4 := Lib.hid xb4
              have HZ := Lib.hid hz
              clear lo4 xb4 hz LO2 SB AB YB XB
              by_cases he : er = 0
              · subst he
                obtain ⟨q, hq⟩ := HZ.out rfl
                have HQ := Lib.hid hq
                clear hq HZ
                go_wp2_with fail
                refine until_begin 5 (fun w' => w'.cell? ⟨gX, 0, none⟩ = some (.int .i64 z0) ∧ w'.cell? ⟨gX, 1, none⟩ = some (str za) ∧ w'.cell? ⟨gX, 2, none⟩ = some (str zb) ∧ w'.cell? ⟨gX, 3, none⟩ = some (str zp)) (by kernel_rfl) ⟨XB4.out.cell 0, XB4.out.cell 1, XB4.out.cell 2, XB4.out.cell 3⟩ (fun hS => ?_)
                refine until_take 0 (some 225) (u := ?_) rfl rfl (by kernel_rfl) (by kernel_rfl) (by kernel_rfl) (by kernel_rfl) (fun _ _ _ h => h) (by rfl) (fun wS hv => ?_) hS ?_
                rotate_left
                · clear hv
                  go_simp
                  all_goals with_reducible rfl
                try simp only [Act.put, List.setIfInBounds_toArray, List.set]
                refine until_take 1 (some 226) (u := ?_) rfl rfl (by kernel_rfl) (by kernel_rfl) (by kernel_rfl) (by kernel_rfl) (fun _ _ _ h => h) (by rfl) (fun wS hv => ?_) hS ?_
                rotate_left
                · clear hv
                  go_simp
                  all_goals with_reducible rfl
                try simp only [Act.put, List.setIfInBounds_toArray, List.set]
                refine until_take 2 (some 227) (u := ?_) rfl rfl (by kernel_rfl) (by kernel_rfl) (by kernel_rfl) (by kernel_rfl) (fun _ _ _ h => h) (by rfl) (fun wS hv => ?_) hS ?_
                rotate_left
                · obtain ⟨k1, k2, k3, k4⟩ := hv
                  go_simp
                  all_goals with_reducible rfl
                try simp only [Act.put, List.setIfInBounds_toArray, List.set]
                refine until_one 3 (by kernel_rfl) rfl (fun K hK => ?_)
                go_simp
                refine hK.out _ _ hS (fun hS => ?_)
                clear hK K
                try simp only [Act.put, List.setIfInBounds_toArray, List.set]
                refine until_take 4 (some 229) (u := ?_) rfl rfl (by kernel_rfl) (by kernel_rfl) (by kernel_rfl) (by kernel_rfl) (fun _ _ _ h => h) (by rfl) (fun wS hv => ?_) hS ?_
                rotate_left
                · clear hv
                  go_simp
                  all_goals with_reducible rfl
                try simp only [Act.put, List.setIfInBounds_toArray, List.set]
                refine until_last (by kernel_rfl) rfl (by kernel_rfl) (fun K hK => ?_)
                have LO4d := Lib.hid LO4.out.drew
                have XB4d := Lib.hid XB4.out.drew
                clear hS
                generalize w4.drew = w4d at LO4d XB4d ⊢
                have e0 : w4d.cell? ⟨gE, cc * 12 + o * 4, none⟩ = some (.int .i64 (E cc o).1) := (LO4d.out.ends.cell _).trans (endsC_get hc2 ho).1
                have e1 : w4d.cell? ⟨gE, cc * 12 + o * 4 + 1, none⟩ = some (str (E cc o).2.1) := (LO4d.out.ends.cell _).trans (endsC_get hc2 ho).2.1
                have e2 : w4d.cell? ⟨gE, cc * 12 + o * 4 + 2, none⟩ = some (str (E cc o).2.2.1) := (LO4d.out.ends.cell _).trans (endsC_get hc2 ho).2.2.1
                have e3 : w4d.cell? ⟨gE, cc * 12 + o * 4 + 3, none⟩ = some (str (E cc o).2.2.2) := (LO4d.out.ends.cell _).trans (endsC_get hc2 ho).2.2.2
                have r0 := LO4d.out.ends.frozen (cc * 12 + o * 4)
                have r1 := LO4d.out.ends.frozen (cc * 12 + o * 4 + 1)
                have r2 := LO4d.out.ends.frozen (cc * 12 + o * 4 + 2)
                have r3 := LO4d.out.ends.frozen (cc * 12 + o * 4 + 3)
                go_simp
                refine hK.out _ _ ?_
                clear hK K e0 e1 e2 e3 r0 r1 r2 r3
                have LO6 := Lib.hid (LO4d.out.put (o := o) (c := cc) (z := (z0, za, zb, zp)) (q := q) hc2 ho HQ.out)
                have XB6 := Lib.hid ((XB4d.out.storeEnds (blk_ne LO4d.out.ends XB4d.out (by decide)).symm (cc * 12 + o * 4) (z0, za, zb, zp)).far (p := ⟨gT, cc * 3 + o, none⟩) (blk_ne LO4d.out.there XB4d.out (by decide)).symm (.bool true))
                have th : (setEnds w4d gE (cc * 12 + o * 4) (z0, za, zb, zp)).cell? ⟨gT, cc * 3 + o, none⟩ = some (.bool (T cc o)) := ((LO4d.out.there.storeEnds (blk_ne LO4d.out.there LO4d.out.ends (by decide)) (cc * 12 + o * 4) (z0, za, zb, zp)).cell _).trans (thereC_get hc2 ho)
                have tf := (LO4d.out.there.storeEnds (blk_ne LO4d.out.there LO4d.out.ends (by decide)) (cc * 12 + o * 4) (z0, za, zb, zp)).frozen (cc * 3 + o)
                go_upto_region 32 with fail
                change Code.wp _ _ _ _ (setEnds w4d gE (cc * 12 + o * 4) (z0, za, zb, zp))
                generalize setEnds w4d gE (cc * 12 + o * 4) (z0, za, zb, zp) = w5 at LO6 XB6 th tf ⊢
                go_upto_region 33 with fail
                generalize w5.setCell ⟨gT, cc * 3 + o, none⟩ (.bool true) = w6 at LO6 XB6 ⊢
                clear th tf
                have hgood := ((LO6.out.inv cc o hc2 ho).1 (upd2_same _ _ _ _)).1
                rw [upd2_same] at hgood
                have hfz := LO6.out.fits hc2 ho
                rw [upd2_same] at hfz
                obtain ⟨fz1, fz2, fz3⟩ := hfz
                have HG := Lib.hid hgood
                clear hgood
                have x0' : w6.cell? ⟨gX, 0, none⟩ = some (.int .i64 z0) := XB6.out.cell 0
                have x1' : w6.cell? ⟨gX, 1, none⟩ = some (str za) := XB6.out.cell 1
                have x2' : w6.cell? ⟨gX, 2, none⟩ = some (str zb) := XB6.out.cell 2
                have x3' : w6.cell? ⟨gX, 3, none⟩ = some (str zp) := XB6.out.cell 3
                go_wp2_with fail
                refine (check_any z0 za zb zp true _ HG.out fz1 fz2 fz3).mono ?_
                rintro e7 w7 ⟨rfl, hb7⟩
                have LO7 := Lib.hid (LO6.out.step hb7)
                have XB7 := Lib.hid (XB6.out.step hb7)
                clear x0' x1' x2' x3' hb7 LO6 XB6
                have x0' : w7.cell? ⟨gX, 0, none⟩ = some (.int .i64 z0) := XB7.out.cell 0
                by_cases hz3 : z0 = 3
                · subst hz3
                  go_wp2_with fail
                  clear x0'
                  refine wp_loop_ghost_k (fun k a' w' => ∃ m : Nat, m + k = 3 ∧ LO w w' g gO gE gT (upd2 E cc o (3, za, zb, zp)) (upd2 T cc o true) (upd2 O cc o q) ∧ Blk w' gX 35 (enC (3, za, zb, zp)) ∧ ∃ us, a' = Fr (.slice (some ⟨b, of, none⟩) n c) (.bool true) (.pointer (some ⟨g, 0, none⟩)) (.pointer (some ⟨gO, 0, none⟩)) (.pointer (some ⟨gE, 0, none⟩)) (.pointer (some ⟨gT, 0, none⟩)) (.int .i64 j) (.pointer (some ⟨gS, 0, none⟩)) (.int .i64 cc) (.int .i64 o) (.int .i64 t) (.pointer (some ⟨gA, 0, none⟩)) (.pointer (some ⟨gY, 0, none⟩)) (.pointer (some ⟨gX, 0, none⟩)) (.int .i64 0) (us 17) (.int .i64 m) (us 19) (us 20) (us 21) us) 3 ?_ ?_
                  · exact ⟨0, by omega, LO7.out, XB7.out, meet_us (by kernel_rfl)⟩
                  · intro gk2 a8 wr8 hinv
                    obtain ⟨m, hm, lo8, xb8, us8, rfl⟩ := hinv
                    intro J8 K8 hJ8 hK8
                    unfold Fr
                    have LO8 := Lib.hid lo8
                    have XB8 := Lib.hid xb8
                    clear lo8 xb8 LO7 XB7
                    obtain ⟨E', hE'⟩ : ∃ x, upd2 E cc o (3, za, zb, zp) = x := ⟨_, rfl⟩
                    obtain ⟨T', hT'⟩ : ∃ x, upd2 T cc o true = x := ⟨_, rfl⟩
                    obtain ⟨O', hO'⟩ : ∃ x, upd2 O cc o q = x := ⟨_, rfl⟩
                    have hself : E' cc o = (3, za, zb, zp) := by rw [← hE']; exact upd2_same _ _ _ _
                    rw [hE', hT', hO'] at LO8
                    have HE' := Lib.hid hE'
                    have HT' := Lib.hid hT'
                    have HO' := Lib.hid hO'
                    clear hE' hT' hO'
                    by_cases hm3 : m < 3
                    · have i9 : (m : Int) < 3 := by omega
                      obtain ⟨⟨w0', wa, wb, wp⟩, hW⟩ : ∃ x, E' d m = x := ⟨_, rfl⟩
                      obtain ⟨e0, e1, e2, e3⟩ := endsC_get (E := E') hd2 hm3
                      rw [hW] at e0 e1 e2 e3
                      replace e0 := (LO8.out.ends.cell _).trans e0
                      replace e1 := (LO8.out.ends.cell _).trans e1
                      replace e2 := (LO8.out.ends.cell _).trans e2
                      replace e3 := (LO8.out.ends.cell _).trans e3
                      obtain ⟨N, hN⟩ : ∃ A, lname d m = A := ⟨_, rfl⟩
                      have nN := (LO8.out.names.cell (d * 3 + m)).trans (namesC_get hd2 hm3)
                      rw [hN] at nN
                      have x3' : wr8.cell? ⟨gX, 3, none⟩ = some (str zp) := XB8.out.cell 3
                      have lN := LO8.out.names.lt
                      have lX := XB8.out.lt
                      have lE := LO8.out.ends.lt
                      have HW := Lib.hid hW
                      have hpeer := fun h => LO8.out.inv.peer hc2 ho (by rw [hself]) hm3 (h)
                      rw [hself, HD.out, hN, hW] at hpeer
                      simp only [] at hpeer
                      by_cases hNp : N = zp
                      · obtain ⟨p1, p2, p3, p4, p5⟩ := hpeer hNp
                        subst hNp
                        obtain ⟨M, hM⟩ : ∃ A, lname cc o = A := ⟨_, rfl⟩
                        have nM := (LO8.out.names.cell (cc * 3 + o)).trans (namesC_get hc2 ho)
                        rw [hM] at nM p5
                        have th := (LO8.out.there.cell (d * 3 + m)).trans (thereC_get (T := T') hd2 hm3)
                        rw [p1] at th
                        have x1' : wr8.cell? ⟨gX, 1, none⟩ = some (str za) := XB8.out.cell 1
                        have x2' : wr8.cell? ⟨gX, 2, none⟩ = some (str zb) := XB8.out.cell 2
                        subst p2
                        subst p3
                        subst p5
                        have lT := LO8.out.there.lt
                        have p4' : ¬ w0' < 2 := by omega
                        clear hpeer hW hN hM hself p1 p4
                        go_wp2_with fail
                        have LO9 := Lib.hid (LO8.out.step ((Below.refl wr8.heap.size wr8).alloc (Nat.le_refl _) (.cells (enC (w0', wa, wb, wp)) 35)))
                        have XB9 := Lib.hid (XB8.out.alloc (.cells (enC (w0', wa, wb, wp)) 35))
                        go_quiet (fail)
                        go_wp2
                        go_quiet (fail)
                        go_wp2
                        refine Handed.intro (gk2 - 1) (by omega) (hJ8 _ _ _ ⟨m + 1, by omega, ?_, ?_, meet_us (by kernel_rfl)⟩)
                        · rw [HE'.out, HT'.out, HO'.out]
                          exact LO9.out.step ⟨rfl, rfl, rfl, Nat.le_refl _, fun _ _ => rfl⟩
                        · exact XB9.out
                      · have hNb : (N == zp) = false := by simpa using hNp
                        clear hpeer hW hN hself hNp
                        go_wp2_with fail
                        have LO9 := Lib.hid (LO8.out.step ((Below.refl wr8.heap.size wr8).alloc (Nat.le_refl _) (.cells (enC (w0', wa, wb, wp)) 35)))
                        have XB9 := Lib.hid (XB8.out.alloc (.cells (enC (w0', wa, wb, wp)) 35))
                        go_quiet (fail)
                        go_wp2
                        refine Handed.intro (gk2 - 1) (by omega) (hJ8 _ _ _ ⟨m + 1, by omega, ?_, ?_, meet_us (by kernel_rfl)⟩)
                        · rw [HE'.out, HT'.out, HO'.out]
                          exact LO9.out.step ⟨rfl, rfl, rfl, Nat.le_refl _, fun _ _ => rfl⟩
                        · exact XB9.out
                    · obtain rfl : m = 3 := by omega
                      clear hself
                      go_wp2_with fail
                      refine Handed.intro (gk - 1) (by omega) (hJ2 _ _ _ ⟨j + 1, E', T', O', by omega, by omega, LO8.out, meet_us (by kernel_rfl)⟩)
                · go_wp2_with fail
                  refine Handed.intro (gk - 1) (by omega) (hJ2 _ _ _ ⟨j + 1, _, _, _, by omega, by omega, LO7.out, meet_us (by kernel_rfl)⟩)
              · go_wp2_with fail
                refine Handed.intro (gk - 1) (by omega) (hJ2 _ _ _ ⟨j + 1, E, T, O, by omega, by omega, LO4.out, meet_us (by kernel_rfl)⟩)
        · have h2i : ¬ (j : Int) < 30 := by omega
          go_wp2_with fail
          refine meet_at hJ1 ⟨E, T, O, HLO.out, meet_us (by kernel_rfl)⟩
      · have h1i : ¬ (j : Int) < (n : Int) := by omega
        go_wp2_with fail
        refine meet_at hJ1 ⟨E, T, O, HLO.out, meet_us (by kernel_rfl)⟩
  · rintro a1 wc ⟨E, T, O, lo, us, rfl⟩
    unfold Fr
    have LO1 := Lib.hid lo
    clear lo LO0 hcell
    go_upto_block 5 with fail
    refine wp_cut (fun a' w' => LO w w' g gO gE gT E T O ∧ ∃ us, a' = Fr (.slice p n c) (.bool true) (.pointer (some ⟨g, 0, none⟩)) (.pointer (some ⟨gO, 0, none⟩)) (.pointer (some ⟨gE, 0, none⟩)) (.pointer (some ⟨gT, 0, none⟩)) (us 8) (us 9) (us 10) (us 11) (us 12) (us 13) (us 14) (us 15) (us 16) (us 17) (us 18) (us 19) (us 20) (us 21) us) ?_ ?_
    rotate_left
    · intro J1 K1 hJ1 hK1
      go_wp2_with fail
      refine wp_loop_ghost_k (fun k a' w' => ∃ o : Nat, o + k = 3 ∧ LO w w' g gO gE gT E T O ∧ ∃ us, a' = Fr (.slice p n c) (.bool true) (.pointer (some ⟨g, 0, none⟩)) (.pointer (some ⟨gO, 0, none⟩)) (.pointer (some ⟨gE, 0, none⟩)) (.pointer (some ⟨gT, 0, none⟩)) (us 8) (us 9) (us 10) (us 11) (us 12) (us 13) (us 14) (us 15) (us 16) (us 17) (us 18) (us 19) (.int .i64 o) (us 21) us) 3 ?_ ?_
      · exact ⟨0, by omega, LO1.out, meet_us (by kernel_rfl)⟩
      · intro gk a2 wr hinv
        obtain ⟨o, hk, lo, us, rfl⟩ := hinv
        intro J2 K2 hJ2 hK2
        unfold Fr
        have LO2 := Lib.hid lo
        clear lo LO1
        by_cases ho : o < 3
        · have i1 : (o : Int) < 3 := by omega
          · go_wp2_with fail
            refine wp_loop_ghost_k (fun k a' w' => ∃ t : Nat, t + k = 3 ∧ LO w w' g gO gE gT E T O ∧ ∃ us, a' = Fr (.slice p n c) (.bool true) (.pointer (some ⟨g, 0, none⟩)) (.pointer (some ⟨gO, 0, none⟩)) (.pointer (some ⟨gE, 0, none⟩)) (.pointer (some ⟨gT, 0, none⟩)) (us 8) (us 9) (us 10) (us 11) (us 12) (us 13) (us 14) (us 15) (us 16) (us 17) (us 18) (us 19) (.int .i64 o) (.int .i64 t) us) 3 ?_ ?_
            · exact ⟨0, by omega, LO2.out, meet_us (by kernel_rfl)⟩
            · intro gk2 a3 wr3 hinv
              obtain ⟨t, hk2, lo, us3, rfl⟩ := hinv
              intro J4 K4 hJ4 hK4
              unfold Fr
              have LO3 := Lib.hid lo
              clear lo LO2
              by_cases ht : t < 3
              · have i2 : (t : Int) < 3 := by omega
                obtain ⟨⟨x0, xa, xb, xp⟩, hX⟩ : ∃ x, E 0 o = x := ⟨_, rfl⟩
                obtain ⟨⟨y0, ya, yb, yp⟩, hY⟩ : ∃ x, E 1 t = x := ⟨_, rfl⟩
                obtain ⟨e0, e1, e2, e3⟩ := endsC_get (E := E) (c := 0) (by omega) ho
                obtain ⟨f0, f1, f2, f3⟩ := endsC_get (E := E) (c := 1) (by omega) ht
                rw [hX] at e0 e1 e2 e3
                rw [hY] at f0 f1 f2 f3
                replace e0 := (LO3.out.ends.cell _).trans e0
                replace e1 := (LO3.out.ends.cell _).trans e1
                replace e2 := (LO3.out.ends.cell _).trans e2
                replace e3 := (LO3.out.ends.cell _).trans e3
                replace f0 := (LO3.out.ends.cell _).trans f0
                replace f1 := (LO3.out.ends.cell _).trans f1
                replace f2 := (LO3.out.ends.cell _).trans f2
                replace f3 := (LO3.out.ends.cell _).trans f3
                simp only [Nat.zero_mul, Nat.one_mul, Nat.zero_add] at e0 e1 e2 e3 f0 f1 f2 f3
                obtain ⟨M, hM⟩ : ∃ A, lname 0 o = A := ⟨_, rfl⟩
                obtain ⟨N, hN⟩ : ∃ A, lname 1 t = A := ⟨_, rfl⟩
                have nM := (LO3.out.names.cell (0 * 3 + o)).trans (namesC_get (by omega) ho)
                have nN := (LO3.out.names.cell (1 * 3 + t)).trans (namesC_get (by omega) ht)
                rw [hM] at nM
                rw [hN] at nN
                simp only [Nat.zero_mul, Nat.one_mul, Nat.zero_add] at nM nN
                have hbo := LO3.out.inv.both ho ht
                rw [hX, hY, hM, hN] at hbo
                simp only [] at hbo
                have lE := LO3.out.ends.lt
                have lN := LO3.out.names.lt
                have LO4 := Lib.hid (LO3.out.step (((Below.refl wr3.heap.size wr3).alloc (Nat.le_refl _) (.cells (enC (x0, xa, xb, xp)) 35)).alloc (by simp) (.cells (enC (y0, ya, yb, yp)) 35)))
                by_cases h1 : x0 = 3
                · subst h1
                  by_cases h2 : y0 = 3
                  · subst h2
                    have hb2 := hbo rfl rfl
                    by_cases h3 : xp = N
                    · obtain rfl := hb2.1 h3
                      subst h3
                      clear hbo hb2 hX hY hM hN LO3
                      go_wp2_with fail
                      go_quiet (fail)
                      go_wp2
                      refine Handed.intro (gk2 - 1) (by omega) (hJ4 _ _ _ ⟨t + 1, by omega, LO4.out.step ⟨rfl, rfl, rfl, Nat.le_refl _, fun _ _ => rfl⟩, meet_us (by kernel_rfl)⟩)
                    · have h4 : ¬ yp = M := fun e => h3 (hb2.2 e)
                      have h3' : (xp == N) = false := by simpa using h3
                      have h4' : (yp == M) = false := by simpa using h4
                      clear hbo hb2 hX hY hM hN LO3 h3 h4
                      go_wp2_with fail
                      go_quiet (fail)
                      go_wp2
                      refine Handed.intro (gk2 - 1) (by omega) (hJ4 _ _ _ ⟨t + 1, by omega, LO4.out.step ⟨rfl, rfl, rfl, Nat.le_refl _, fun _ _ => rfl⟩, meet_us (by kernel_rfl)⟩)
                  · have h2' : (y0 == 3) = false := by simpa using h2
                    clear hbo hX hY hM hN LO3 h2
                    go_wp2_with fail
                    go_quiet (fail)
                    go_wp2
                    refine Handed.intro (gk2 - 1) (by omega) (hJ4 _ _ _ ⟨t + 1, by omega, LO4.out.step ⟨rfl, rfl, rfl, Nat.le_refl _, fun _ _ => rfl⟩, meet_us (by kernel_rfl)⟩)
                · have h1' : (x0 == 3) = false := by simpa using h1
                  clear hbo hX hY hM hN LO3 h1
                  go_wp2_with fail
                  go_quiet (fail)
                  go_wp2
                  refine Handed.intro (gk2 - 1) (by omega) (hJ4 _ _ _ ⟨t + 1, by omega, LO4.out.step ⟨rfl, rfl, rfl, Nat.le_refl _, fun _ _ => rfl⟩, meet_us (by kernel_rfl)⟩)
              · obtain rfl : t = 3 := by omega
                go_wp2_with fail
                refine Handed.intro (gk - 1) (by omega) (hJ2 _ _ _ ⟨o + 1, by omega, LO3.out, meet_us (by kernel_rfl)⟩)
        · obtain rfl : o = 3 := by omega
          go_wp2_with fail
          exact meet_at hJ1 ⟨LO2.out, meet_us (by kernel_rfl)⟩
    · rintro a2 w2 ⟨lo, us, rfl⟩
      unfold Fr
      have LO2 := Lib.hid lo
      clear lo LO1
      go_wp2_with fail
      go_ret
      exact ⟨rfl, LO2.out.below⟩
end Go.Proofs.Ytlkgloakcpfnnaa

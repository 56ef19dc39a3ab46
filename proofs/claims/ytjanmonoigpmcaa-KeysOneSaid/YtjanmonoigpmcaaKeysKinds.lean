/-
  The walk of KeysKinds: it returns true for every id and number. No conditions beside those in each theorem.
-/
import Derived.Test.YtjanmonoigpmcaaKeysUnder
import Derived.Test.YtjanmonoigpmcaaTlvCuts
import Derived.IntWalk
namespace Go.Proofs.Ytjanmonoigpmcaa
open Go.RowKit

theorem six_strs {w : World} {g : Nat} {t : TypeId} {a b c d e f : List UInt8} (h : Blk w g t #[str a, str b, str c, str d, str e, str f]) :
    ∀ k (hk : k < 6), w.cell? ⟨g, k, none⟩ = some (str ([a, b, c, d, e, f][k]'hk)) := by
  intro k hk
  rw [h.cell]
  match k, hk with
  | 0, _ => rfl
  | 1, _ => rfl
  | 2, _ => rfl
  | 3, _ => rfl
  | 4, _ => rfl
  | 5, _ => rfl
theorem six_bytes {w : World} {g : Nat} {t : TypeId} {a b c d e f : Int} (h : Blk w g t #[.int .u8 a, .int .u8 b, .int .u8 c, .int .u8 d, .int .u8 e, .int .u8 f]) :
    ∀ k (hk : k < 6), w.cell? ⟨g, k, none⟩ = some (.int .u8 ([a, b, c, d, e, f][k]'hk)) := by
  intro k hk
  rw [h.cell]
  match k, hk with
  | 0, _ => rfl
  | 1, _ => rfl
  | 2, _ => rfl
  | 3, _ => rfl
  | 4, _ => rfl
  | 5, _ => rfl
/-- The keys of an id and a number, of all kinds. -/
def keysOf (x : List UInt8) (n : Int) : List (List UInt8) := [kOf 67 x, kOf 75 x, kOf 72 x, kOf 78 x, kWith 80 x n, kWith 71 x n]
theorem keysOf_kind (x : List UInt8) (n : Int) (k : Nat) (hk : k < 6) : ∃ (c : UInt8) (R : List UInt8), (keysOf x n)[k]'hk = c :: R ∧ [(67 : Int), 75, 72, 78, 80, 71][k]'hk = (c.toNat : Int) ∧ x.length + 5 ≤ R.length + 1 := by
  have h1 : x.length + 5 ≤ (tText 105 x).length + 1 := by rw [tText_length]; omega
  have h2 : x.length + 5 ≤ (tText 105 x ++ tNum 113 n.toNat).length + 1 := by rw [List.length_append, tText_length]; omega
  match k, hk with
  | 0, _ => exact ⟨67, _, rfl, rfl, h1⟩
  | 1, _ => exact ⟨75, _, rfl, rfl, h1⟩
  | 2, _ => exact ⟨72, _, rfl, rfl, h1⟩
  | 3, _ => exact ⟨78, _, rfl, rfl, h1⟩
  | 4, _ => exact ⟨80, _, rfl, rfl, h2⟩
  | 5, _ => exact ⟨71, _, rfl, rfl, h2⟩
/-- The array of the keys; of the letters. -/
def KeysAt (w : World) (g : Nat) (x : List UInt8) (n : Int) : Prop := Blk w g 56 #[str (kOf 67 x), str (kOf 75 x), str (kOf 72 x), str (kOf 78 x), str (kWith 80 x n), str (kWith 71 x n)]
def MarksAt (w : World) (g : Nat) : Prop := Blk w g 68 #[.int .u8 67, .int .u8 75, .int .u8 72, .int .u8 78, .int .u8 80, .int .u8 71]
theorem KeysAt.cell {w : World} {g : Nat} {x : List UInt8} {n : Int} (h : KeysAt w g x n) (k : Nat) (hk : k < 6) : w.cell? ⟨g, k, none⟩ = some (str ((keysOf x n)[k]'hk)) := six_strs h k hk
theorem MarksAt.cell {w : World} {g : Nat} (h : MarksAt w g) (k : Nat) (hk : k < 6) : w.cell? ⟨g, k, none⟩ = some (.int .u8 ([(67 : Int), 75, 72, 78, 80, 71][k]'hk)) := six_bytes h k hk
theorem KeysAt.drewN {w : World} {g : Nat} {x : List UInt8} {n : Int} (h : KeysAt w g x n) (m : Nat) : KeysAt (w.drewN m) g x n := h
theorem MarksAt.drewN {w : World} {g : Nat} (h : MarksAt w g) (m : Nat) : MarksAt (w.drewN m) g := h
theorem bel_drew {B : Nat} {w w' : World} (h : Below B w w') (n : Nat) : Below B w (w'.drewN n) := ⟨h.os, h.tape, h.output, h.size, h.block⟩

set_option maxRecDepth 100000 in
set_option maxHeartbeats 3200000 in
theorem keysKinds_walk (id : List UInt8) (n : Int) (wn : (Lit.int .i64 n).wf = true) (w : World) :
    Calls Try.prog 13 #[str id, .int .i64 n] w fun e w' => e = .returned (.bool true) ∧ Below w.heap.size w w' := by
  have hn1 := (bounds_i64 wn).2
  obtain ⟨X, hX⟩ : ∃ X, id.take 40 = X := ⟨_, rfl⟩
  have hXl : X.length ≤ 40 := by rw [← hX, List.length_take]; omega
  have HX := Lib.hid hX
  clear hX wn
  go_enter Try.func13, Try.ntmps13
  go_wp2_with fail
  refine (awake16_any _).mono ?_
  rintro e w1 ⟨rfl, hq⟩
  have hb1 := hq
  clear hq
  go_wp2_with fail
  refine (short16_any id 40 _).mono ?_
  rw [HX.out]
  rintro e wq ⟨rfl, rfl⟩
  go_wp2_with fail
  refine (kClient_any X _ (by omega)).mono ?_
  rintro e w2 ⟨rfl, hq⟩
  have hb2 := bel_step hb1 hq
  clear hq hb1
  go_wp2_with fail
  refine (kConn_any X _ (by omega)).mono ?_
  rintro e w3 ⟨rfl, hq⟩
  have hb3 := bel_step hb2 hq
  clear hq hb2
  go_wp2_with fail
  refine (kChan_any X _ (by omega)).mono ?_
  rintro e w4 ⟨rfl, hq⟩
  have hb4 := bel_step hb3 hq
  clear hq hb3
  go_wp2_with fail
  refine (kNext_any X _ (by omega)).mono ?_
  rintro e w5 ⟨rfl, hq⟩
  have hb5 := bel_step hb4 hq
  clear hq hb4
  go_wp2_with fail
  refine (kSent_any X n _ (by omega) (by omega)).mono ?_
  rintro e w6 ⟨rfl, hq⟩
  have hb6 := bel_step hb5 hq
  clear hq hb5
  go_wp2_with fail
  refine (kGot_any X n _ (by omega) (by omega)).mono ?_
  rintro e w7 ⟨rfl, hq⟩
  have hb7 := bel_step hb6 hq
  clear hq hb6
  go_wp2_with fail
  have HL : KeysAt _ w7.heap.size X n := ((Blk.new w7 56 #[str (kOf 67 X), str (kOf 75 X), str (kOf 72 X), str (kOf 78 X), str (kWith 80 X n), str (kWith 71 X n)]).alloc (.cells #[.int .u8 67, .int .u8 75, .int .u8 72, .int .u8 78, .int .u8 80, .int .u8 71] 68))
  have HK : MarksAt _ (w7.heap.size + 1) := (Blk.new_at (w := w7.alloc (.cells #[str (kOf 67 X), str (kOf 75 X), str (kOf 72 X), str (kOf 78 X), str (kWith 80 X n), str (kWith 71 X n)] 56)) (n := w7.heap.size + 1) (by simp) 68 #[.int .u8 67, .int .u8 75, .int .u8 72, .int .u8 78, .int .u8 80, .int .u8 71])
  have hbA := (hb7.alloc hb7.size (.cells #[str (kOf 67 X), str (kOf 75 X), str (kOf 72 X), str (kOf 78 X), str (kWith 80 X n), str (kWith 71 X n)] 56)).alloc (by have := hb7.size; simp; omega) (.cells #[.int .u8 67, .int .u8 75, .int .u8 72, .int .u8 78, .int .u8 80, .int .u8 71] 68)
  clear hb7
  generalize (w7.alloc (.cells #[str (kOf 67 X), str (kOf 75 X), str (kOf 72 X), str (kOf 78 X), str (kWith 80 X n), str (kWith 71 X n)] 56)).alloc (.cells #[.int .u8 67, .int .u8 75, .int .u8 72, .int .u8 78, .int .u8 80, .int .u8 71] 68) = W at *
  generalize w7.heap.size = g at *
  go_loopw [9] (fun i wr => ∃ k : Nat, k ≤ 6 ∧ i = .int .i64 k ∧ KeysAt wr g X n ∧ MarksAt wr (g + 1) ∧ Below w.heap.size w wr) (fun i _ => 6 - (intOf i).toNat)
  case atStart => exact ⟨0, by omega, rfl, HL, HK, hbA⟩
  case round =>
    obtain ⟨k, hk, rfl, hL, hK, hbel⟩ := hrel
    have HL' := Lib.hid hL
    have HK' := Lib.hid hK
    clear hL hK HL HK hbA
    by_cases hlt : k < 6
    · obtain ⟨c, R, h1, h2, h3⟩ := keysOf_kind X n k hlt
      have e1 := HL'.out.cell k hlt
      have e2 := HK'.out.cell k hlt
      rw [h1] at e1
      rw [h2] at e2
      have q0 : (0 : Int) ≤ (k : Int) := by omega
      have q1 : (k : Int) < 6 := by omega
      have q2 : IntKind.i64.wrap ((X.length : Int) + 5) = (X.length : Int) + 5 := IntWalk.i64_in _ (by omega)
      have q3 : decide ((R.length : Int) + 1 < (X.length : Int) + 5) = false := by simp; omega
      clear h1 h2 h3
      go_wp2
      go_quiet ((go_at_call 46; exact quiet_mine (kind_cons c R _)))
      go_wp2
      go_roundw
      case rel => exact ⟨k + 1, by omega, by go_num, HL'.out.drewN _, HK'.out.drewN _, bel_drew hbel _⟩
      case measure => simp [intOf]; omega
    · obtain rfl : k = 6 := by omega
      obtain ⟨y, Y, hY⟩ : ∃ y Y, X ++ [120] = y :: Y := by
        cases X with
        | nil => exact ⟨120, [], rfl⟩
        | cons a X => exact ⟨a, X ++ [120], rfl⟩
      have q1 : ¬ 9223372036854775807 < X.length + 1 := by omega
      go_wp2
      go_quiet ((go_at_call 46; first | exact quiet_mine (kind_nil _) | exact quiet_mine (kind_cons y Y _)))
      go_wp2
      go_ret
      exact ⟨rfl, bel_drew hbel _⟩
end Go.Proofs.Ytjanmonoigpmcaa

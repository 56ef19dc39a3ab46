/-
  The walk of KeysOne: it returns true for every two ids and numbers. No conditions beside those in each theorem.
-/
import Derived.Test.YtjanmonoigpmcaaKeysKinds
import Derived.Test.YtjanmonoigpmcaaTlvOne
namespace Go.Proofs.Ytjanmonoigpmcaa
open Go.RowKit

theorem quiet_more {P : Program} {f : FuncId} {args : Array Value} {w : World} {a n : Nat} {v : Value}
    (h : Calls P f args (w.drewN (a + n)) fun e w' => e = .returned v ∧ w.drewN (a + n) = w') : Calls P f args (w.drewN (a + n)) fun e w'' => e = .returned v ∧ ∃ m, w'' = w.drewN (a + m) :=
  h.mono fun _ _ ⟨he, hm⟩ => ⟨he, n, hm.symm⟩
theorem beg_of_same (k : UInt8) (x y : List UInt8) (hx : x.length ≤ 16777215) (hy : y.length ≤ 16777215) : beg (kOf k y) (kOf k x) = (x == y) := by
  refine beg_of ⟨?_, ?_⟩
  · rintro ⟨r, hr⟩
    unfold kOf at hr
    rw [List.cons_append] at hr
    injection hr with _ hr
    have h1 := rText_back 105 16777215 y [] (by decide) (by decide) hy (by omega)
    rw [List.append_nil, hr, rText_back 105 16777215 x r (by decide) (by decide) hx (by omega)] at h1
    injection h1 with h1 _
    simp [h1]
  · intro h
    obtain rfl : x = y := by simpa using h
    exact ⟨[], by simp⟩
theorem beg_with_same (k : UInt8) (x y : List UInt8) (m n : Int) (hm0 : 0 ≤ m) (hn0 : 0 ≤ n) (hm : m ≤ 9223372036854775807) (hn : n ≤ 9223372036854775807) (hx : x.length ≤ 16777215) (hy : y.length ≤ 16777215) : beg (kWith k y n) (kWith k x m) = ((x == y) && (m == n)) := by
  refine beg_of ⟨?_, ?_⟩
  · rintro ⟨r, hr⟩
    unfold kWith at hr
    rw [List.cons_append] at hr
    injection hr with _ hr
    rw [List.append_assoc] at hr
    have h1 := rText_back 105 16777215 y (tNum 113 n.toNat) (by decide) (by decide) hy (by omega)
    rw [hr, rText_back 105 16777215 x _ (by decide) (by decide) hx (by omega)] at h1
    injection h1 with h1 h2
    injection h2 with h2 _
    have h3 := rNum_back 113 n.toNat [] (by decide) (by decide) (by omega)
    rw [List.append_nil, ← h2, rNum_back 113 m.toNat r (by decide) (by decide) (by omega)] at h3
    injection h3 with h3 _
    have : m = n := by omega
    simp [h1, this]
  · intro h
    simp only [Bool.and_eq_true, beq_iff_eq] at h
    obtain ⟨rfl, rfl⟩ := h
    exact ⟨[], by simp⟩
theorem eq_of_beg {a b : List UInt8} {u : Bool} (h : beg b a = u) (hu : u = true → a = b) : (a == b) = u := by
  cases u
  · rw [beq_eq_false_iff_ne]
    rintro rfl
    have : beg a a = true := (beg_iff a a).2 ⟨[], by simp⟩
    rw [h] at this
    cases this
  · rw [hu rfl]; simp
theorem keysOf_same (x y : List UInt8) (m n : Int) (hm0 : 0 ≤ m) (hn0 : 0 ≤ n) (hm : m ≤ 9223372036854775807) (hn : n ≤ 9223372036854775807) (hx : x.length ≤ 16777215) (hy : y.length ≤ 16777215) (i : Nat) (hi : i < 6) :
    ((keysOf x m)[i]'hi == (keysOf y n)[i]'hi) = ((x == y) && (decide (i < 4) || (m == n))) ∧ beg ((keysOf y n)[i]'hi) ((keysOf x m)[i]'hi) = ((x == y) && (decide (i < 4) || (m == n))) := by
  have one : ∀ k : UInt8, (kOf k x == kOf k y) = (x == y) ∧ beg (kOf k y) (kOf k x) = (x == y) := fun k =>
    ⟨eq_of_beg (beg_of_same k x y hx hy) (fun h => by rw [beq_iff_eq] at h; rw [h]), beg_of_same k x y hx hy⟩
  have two : ∀ k : UInt8, (kWith k x m == kWith k y n) = ((x == y) && (m == n)) ∧ beg (kWith k y n) (kWith k x m) = ((x == y) && (m == n)) := fun k =>
    ⟨eq_of_beg (beg_with_same k x y m n hm0 hn0 hm hn hx hy) (fun h => by simp only [Bool.and_eq_true, beq_iff_eq] at h; rw [h.1, h.2]), beg_with_same k x y m n hm0 hn0 hm hn hx hy⟩
  match i, hi with
  | 0, _ => simpa [keysOf] using one 67
  | 1, _ => simpa [keysOf] using one 75
  | 2, _ => simpa [keysOf] using one 72
  | 3, _ => simpa [keysOf] using one 78
  | 4, _ => simpa [keysOf] using two 80
  | 5, _ => simpa [keysOf] using two 71
theorem keysOf_head (x : List UInt8) (m : Int) (i : Nat) (hi : i < 6) : ∃ R, (keysOf x m)[i]'hi = ([67, 75, 72, 78, 80, 71] : List UInt8)[i]'hi :: R := by
  match i, hi with
  | 0, _ => exact ⟨_, rfl⟩
  | 1, _ => exact ⟨_, rfl⟩
  | 2, _ => exact ⟨_, rfl⟩
  | 3, _ => exact ⟨_, rfl⟩
  | 4, _ => exact ⟨_, rfl⟩
  | 5, _ => exact ⟨_, rfl⟩
theorem six_letters : ∀ (i j : Fin 6), i ≠ j → ([67, 75, 72, 78, 80, 71] : List UInt8)[i.1]'(i.2) ≠ ([67, 75, 72, 78, 80, 71] : List UInt8)[j.1]'(j.2) := by decide
theorem keysOf_other (x y : List UInt8) (m n : Int) (i j : Nat) (hi : i < 6) (hj : j < 6) (h : ¬ i = j) : ((keysOf x m)[i]'hi == (keysOf y n)[j]'hj) = false := by
  rw [beq_eq_false_iff_ne]
  intro he
  obtain ⟨R, hR⟩ := keysOf_head x m i hi
  obtain ⟨T, hT⟩ := keysOf_head y n j hj
  rw [hR, hT] at he
  injection he with he _
  exact six_letters ⟨i, hi⟩ ⟨j, hj⟩ (fun e => h (by injection e)) he

set_option maxRecDepth 100000 in
set_option maxHeartbeats 4000000 in
theorem keysOne_walk (a b : List UInt8) (q0 q1 : Int) (w : World) :
    Calls Try.prog 8 #[str a, str b, .agg #[.int .i64 q0, .int .i64 q1]] w fun e w' => e = .returned (.bool true) ∧ Below w.heap.size w w' := by
  obtain ⟨X, hX⟩ : ∃ X, a.take 40 = X := ⟨_, rfl⟩
  have hXl : X.length ≤ 40 := by rw [← hX, List.length_take]; omega
  obtain ⟨Y, hY⟩ : ∃ Y, b.take 40 = Y := ⟨_, rfl⟩
  have hYl : Y.length ≤ 40 := by rw [← hY, List.length_take]; omega
  have hXl' : X.length ≤ 16777215 := by omega
  have hYl' : Y.length ≤ 16777215 := by omega
  obtain ⟨m, hm⟩ : ∃ m, q0 % 1099511627776 = m := ⟨_, rfl⟩
  have hm0 : 0 ≤ m := by omega
  have hm1 : m ≤ 1099511627775 := by omega
  have hmask1 : bits .and .i64 q0 1099511627775 = m := by rw [i64_and40, hm]
  obtain ⟨n, hn⟩ : ∃ n, q1 % 1099511627776 = n := ⟨_, rfl⟩
  have hn0 : 0 ≤ n := by omega
  have hn1 : n ≤ 1099511627775 := by omega
  have hmask2 : bits .and .i64 q1 1099511627775 = n := by rw [i64_and40, hn]
  have HX := Lib.hid hX
  have HY := Lib.hid hY
  clear hX hY hm hn
  go_enter Try.func8, Try.ntmps8
  go_wp2_with fail
  have Q0 := Lib.hid (Blk.new w 54 #[.int .i64 q0, .int .i64 q1])
  have hb0 := (Below.refl w.heap.size w).alloc (Nat.le_refl _) (.cells #[.int .i64 q0, .int .i64 q1] 54)
  refine (awake16_any _).mono ?_
  rintro e w1 ⟨rfl, hq⟩
  have hb1 := bel_step hb0 hq
  have Q1 := Lib.hid (Blk.step Q0.out hq)
  obtain ⟨e1, e2⟩ := cells2 Q1.out
  clear hq hb0 Q0
  go_wp2_with fail
  refine (short16_any a 40 _).mono ?_
  rw [HX.out]
  rintro e wq ⟨rfl, rfl⟩
  go_wp2_with fail
  refine (short16_any b 40 _).mono ?_
  rw [HY.out]
  rintro e wq ⟨rfl, rfl⟩
  go_wp2_with fail
  clear e1 e2 hmask1 hmask2 Q1
  refine (kClient_any X _ (by omega)).mono ?_
  rintro e w2 ⟨rfl, hq⟩
  have hb2 := bel_step hb1 hq
  clear hq hb1
  go_wp2_with fail
  refine (kConn_any X _ (by omega)).mono ?_
  rintro e w3 ⟨rfl, hq⟩
  have hb3 := bel_step hb2 hq
  clear hq hb2
  go_wp2_with fail
  refine (kChan_any X _ (by omega)).mono ?_
  rintro e w4 ⟨rfl, hq⟩
  have hb4 := bel_step hb3 hq
  clear hq hb3
  go_wp2_with fail
  refine (kNext_any X _ (by omega)).mono ?_
  rintro e w5 ⟨rfl, hq⟩
  have hb5 := bel_step hb4 hq
  clear hq hb4
  go_wp2_with fail
  refine (kSent_any X m _ (by omega) (by omega)).mono ?_
  rintro e w6 ⟨rfl, hq⟩
  have hb6 := bel_step hb5 hq
  clear hq hb5
  go_wp2_with fail
  refine (kGot_any X m _ (by omega) (by omega)).mono ?_
  rintro e w7 ⟨rfl, hq⟩
  have hb7 := bel_step hb6 hq
  clear hq hb6
  go_wp2_with fail
  have KL7 : KeysAt _ w7.heap.size X m := Blk.new w7 56 #[str (kOf 67 X), str (kOf 75 X), str (kOf 72 X), str (kOf 78 X), str (kWith 80 X m), str (kWith 71 X m)]
  have hbA := hb7.alloc hb7.size (.cells #[str (kOf 67 X), str (kOf 75 X), str (kOf 72 X), str (kOf 78 X), str (kWith 80 X m), str (kWith 71 X m)] 56)
  clear hb7
  generalize w7.alloc (.cells #[str (kOf 67 X), str (kOf 75 X), str (kOf 72 X), str (kOf 78 X), str (kWith 80 X m), str (kWith 71 X m)] 56) = wA at *
  generalize w7.heap.size = gL at *
  refine (kClient_any Y _ (by omega)).mono ?_
  rintro e w8 ⟨rfl, hq⟩
  have hb8 := bel_step hbA hq
  have KL8 : KeysAt w8 gL X m := Blk.step KL7 hq
  clear hq hbA KL7
  go_wp2_with fail
  refine (kConn_any Y _ (by omega)).mono ?_
  rintro e w9 ⟨rfl, hq⟩
  have hb9 := bel_step hb8 hq
  have KL9 : KeysAt w9 gL X m := Blk.step KL8 hq
  clear hq hb8 KL8
  go_wp2_with fail
  refine (kChan_any Y _ (by omega)).mono ?_
  rintro e w10 ⟨rfl, hq⟩
  have hb10 := bel_step hb9 hq
  have KL10 : KeysAt w10 gL X m := Blk.step KL9 hq
  clear hq hb9 KL9
  go_wp2_with fail
  refine (kNext_any Y _ (by omega)).mono ?_
  rintro e w11 ⟨rfl, hq⟩
  have hb11 := bel_step hb10 hq
  have KL11 : KeysAt w11 gL X m := Blk.step KL10 hq
  clear hq hb10 KL10
  go_wp2_with fail
  refine (kSent_any Y n _ (by omega) (by omega)).mono ?_
  rintro e w12 ⟨rfl, hq⟩
  have hb12 := bel_step hb11 hq
  have KL12 : KeysAt w12 gL X m := Blk.step KL11 hq
  clear hq hb11 KL11
  go_wp2_with fail
  refine (kGot_any Y n _ (by omega) (by omega)).mono ?_
  rintro e w13 ⟨rfl, hq⟩
  have hb13 := bel_step hb12 hq
  have KL13 : KeysAt w13 gL X m := Blk.step KL12 hq
  clear hq hb12 KL12
  go_wp2_with fail
  have KM0 : KeysAt _ w13.heap.size Y n := Blk.new w13 56 #[str (kOf 67 Y), str (kOf 75 Y), str (kOf 72 Y), str (kOf 78 Y), str (kWith 80 Y n), str (kWith 71 Y n)]
  have KL0 : KeysAt (w13.alloc (.cells #[str (kOf 67 Y), str (kOf 75 Y), str (kOf 72 Y), str (kOf 78 Y), str (kWith 80 Y n), str (kWith 71 Y n)] 56)) gL X m := Blk.alloc KL13 _
  have hbB := hb13.alloc hb13.size (.cells #[str (kOf 67 Y), str (kOf 75 Y), str (kOf 72 Y), str (kOf 78 Y), str (kWith 80 Y n), str (kWith 71 Y n)] 56)
  clear hb13 KL13
  generalize w13.alloc (.cells #[str (kOf 67 Y), str (kOf 75 Y), str (kOf 72 Y), str (kOf 78 Y), str (kWith 80 Y n), str (kWith 71 Y n)] 56) = wB at *
  generalize w13.heap.size = gM at *
  have HKL := Lib.hid KL0
  have HKM := Lib.hid KM0
  clear KL0 KM0
  go_loopw [14] (fun i wr => ∃ k : Nat, k ≤ 6 ∧ i = .int .i64 k ∧ KeysAt wr gL X m ∧ KeysAt wr gM Y n ∧ Below w.heap.size w wr) (fun i _ => 6 - (intOf i).toNat)
  case atStart => exact ⟨0, by omega, rfl, HKL.out, HKM.out, hbB⟩
  case round =>
    obtain ⟨i, hi, rfl, hL, hM, hbel⟩ := hrel
    have HL := Lib.hid hL
    have HM := Lib.hid hM
    clear hL hM HKL HKM hbB
    by_cases hlt : i < 6
    · have i0 : (0 : Int) ≤ (i : Int) := by omega
      have i1 : (i : Int) < 6 := by omega
      obtain ⟨wo, rfl⟩ : ∃ wo : World, wo = wr := ⟨_, rfl⟩
      go_wp2_with fail
      go_loopw [15] (fun jv wi => ∃ j : Nat, j ≤ 6 ∧ jv = .int .i64 j ∧ KeysAt wi gL X m ∧ KeysAt wi gM Y n ∧ Below w.heap.size w wi) (fun jv _ => 6 - (intOf jv).toNat)
      case atStart => exact ⟨0, by omega, rfl, HL.out, HM.out, hbel⟩
      case round =>
        obtain ⟨j, hj, rfl, hL2, hM2, hbel2⟩ := hrel
        have HL2 := Lib.hid hL2
        have HM2 := Lib.hid hM2
        clear hL2 hM2 HL HM hbel
        by_cases hjt : j < 6
        · have j0 : (0 : Int) ≤ (j : Int) := by omega
          have j1 : (j : Int) < 6 := by omega
          have c1 := HL2.out.cell i hlt
          have c2 := HM2.out.cell j hjt
          obtain ⟨A, hA⟩ : ∃ A, (keysOf X m)[i]'hlt = A := ⟨_, rfl⟩
          obtain ⟨B, hB⟩ : ∃ B, (keysOf Y n)[j]'hjt = B := ⟨_, rfl⟩
          rw [hA] at c1
          rw [hB] at c2
          by_cases hij : i = j
          · subst hij
            obtain ⟨k1, k2⟩ := keysOf_same X Y m n hm0 hn0 (by omega) (by omega) hXl' hYl' i hlt
            rw [hA, hB] at k1 k2
            obtain ⟨u1, hu1⟩ : ∃ u, (X == Y) = u := ⟨_, rfl⟩
            obtain ⟨u2, hu2⟩ : ∃ u, ((m : Int) == n) = u := ⟨_, rfl⟩
            rw [hu1, hu2] at k1 k2
            clear hA hB
            cases u1
            · simp only [Bool.false_and] at k1 k2
              have K2 := Lib.hid k2
              clear k2
              go_wp2
              go_quiet (fail)
              go_wp2
              go_quiet ((go_at_call 45; first | exact quiet_mine (begins16_any B A false _ K2.out) | exact quiet_more (begins16_any B A false _ K2.out)))
              go_wp2
              go_roundw
              case rel => exact ⟨i + 1, by omega, by go_num, HL2.out, HM2.out, bel_drew hbel2 _⟩
              case measure => simp [intOf]; omega
            · by_cases h4 : i < 4
              · have h4' : (i : Int) < 4 := by omega
                simp only [h4, decide_true, Bool.true_or, Bool.true_and] at k1 k2
                have K2 := Lib.hid k2
                clear k2
                go_wp2
                go_quiet (fail)
                go_wp2
                go_quiet ((go_at_call 45; first | exact quiet_mine (begins16_any B A true _ K2.out) | exact quiet_more (begins16_any B A true _ K2.out)))
                go_wp2
                go_roundw
                case rel => exact ⟨i + 1, by omega, by go_num, HL2.out, HM2.out, bel_drew hbel2 _⟩
                case measure => simp [intOf]; omega
              · have h4' : 4 ≤ (i : Int) := by omega
                simp only [h4, decide_false, Bool.false_or, Bool.true_and] at k1 k2
                cases u2
                · have K2 := Lib.hid k2
                  clear k2
                  go_wp2
                  go_quiet (fail)
                  go_wp2
                  go_quiet ((go_at_call 45; first | exact quiet_mine (begins16_any B A false _ K2.out) | exact quiet_more (begins16_any B A false _ K2.out)))
                  go_wp2
                  go_roundw
                  case rel => exact ⟨i + 1, by omega, by go_num, HL2.out, HM2.out, bel_drew hbel2 _⟩
                  case measure => simp [intOf]; omega
                · have K2 := Lib.hid k2
                  clear k2
                  go_wp2
                  go_quiet (fail)
                  go_wp2
                  go_quiet ((go_at_call 45; first | exact quiet_mine (begins16_any B A true _ K2.out) | exact quiet_more (begins16_any B A true _ K2.out)))
                  go_wp2
                  go_roundw
                  case rel => exact ⟨i + 1, by omega, by go_num, HL2.out, HM2.out, bel_drew hbel2 _⟩
                  case measure => simp [intOf]; omega
          · have hne : ((i : Int) == (j : Int)) = false := beq_eq_false_iff_ne.2 (by omega)
            have k1 : (A == B) = false := by rw [← hA, ← hB]; exact keysOf_other X Y m n i j hlt hjt hij
            clear hA hB hij
            go_wp2
            go_quiet (fail)
            go_wp2
            go_quiet (fail)
            go_wp2
            go_roundw
            case rel => exact ⟨j + 1, by omega, by go_num, HL2.out, HM2.out, bel_drew hbel2 _⟩
            case measure => simp [intOf]; omega
        · obtain rfl : j = 6 := by omega
          go_wp2
          go_roundw
          case rel => exact ⟨i + 1, by omega, by go_num, HL2.out, HM2.out, hbel2⟩
          case measure => simp [intOf]; omega
    · obtain rfl : i = 6 := by omega
      go_wp2
      go_ret
      exact ⟨rfl, hbel⟩
end Go.Proofs.Ytjanmonoigpmcaa

/-
  What the functions of package keys that write keys return, and the document's Of and With: the same keys. For texts within the reach.
-/
import Derived.Test.YtjanmonoigpmcaaTlvInt
namespace Go.Proofs.Ytjanmonoigpmcaa
open Go.RowKit

/-- A key of a kind, of an id. -/
def kOf (k : UInt8) (id : List UInt8) : List UInt8 := k :: tText 105 id
/-- .. and a number. -/
def kWith (k : UInt8) (id : List UInt8) (n : Int) : List UInt8 := k :: (tText 105 id ++ tNum 113 n.toNat)
theorem kOf_length (k : UInt8) (id : List UInt8) : (kOf k id).length = 5 + id.length := by unfold kOf; rw [List.length_cons, tText_length]; omega
theorem kWith_le (k : UInt8) (id : List UInt8) (n : Int) : (kWith k id n).length ≤ 17 + id.length := by unfold kWith; rw [List.length_cons, List.length_append, tText_length]; have := tNum_le 113 n.toNat; omega
theorem kWith_ge (k : UInt8) (id : List UInt8) (n : Int) : 9 + id.length ≤ (kWith k id n).length := by unfold kWith; rw [List.length_cons, List.length_append, tText_length, tNum_length]; omega

set_option maxHeartbeats 800000 in
theorem of_any (k : UInt8) (id : List UInt8) (w : World) (hs : id.length ≤ 16777215) :
    Calls Try.prog 61 #[str [k], str id] w fun e w' => e = .returned (str (kOf k id)) ∧ Below w.heap.size w w' := by
  have hl := tText_length 105 id
  have hk : kOf k id = k :: tText 105 id := rfl
  obtain ⟨X, hX⟩ : ∃ X, tText 105 id = X := ⟨_, rfl⟩
  rw [hX] at hl hk
  have hl' : X.length ≤ 16777219 := by omega
  have q : ¬ 9223372036854775807 < 1 + X.length := by omega
  have HX := Lib.hid hX
  have HK := Lib.hid hk
  clear hX hk hl
  go_enter Try.func61, Try.ntmps61
  go_wp2_with fail
  refine (text_any 105 id _ (by decide) (by decide) hs).mono ?_
  rw [HX.out]
  rintro e w1 ⟨rfl, hb⟩
  go_wp2
  go_ret
  exact ⟨by rw [HK.out]; rfl, hb⟩

set_option maxHeartbeats 800000 in
theorem refOf_any (k : UInt8) (id : List UInt8) (w : World) (hs : id.length ≤ 16777215) :
    Calls Try.prog 52 #[str [k], str id] w fun e w' => e = .returned (str (kOf k id)) ∧ Below w.heap.size w w' := by
  have hl := tText_length 105 id
  have hk : kOf k id = k :: tText 105 id := rfl
  obtain ⟨X, hX⟩ : ∃ X, tText 105 id = X := ⟨_, rfl⟩
  rw [hX] at hl hk
  have hl' : X.length ≤ 16777219 := by omega
  have q : ¬ 9223372036854775807 < 1 + X.length := by omega
  have HX := Lib.hid hX
  have HK := Lib.hid hk
  clear hX hk hl
  go_enter Try.func52, Try.ntmps52
  go_wp2_with fail
  refine (refText_any 105 id _ (by decide) (by decide) hs).mono ?_
  rw [HX.out]
  rintro e w1 ⟨rfl, hb⟩
  go_wp2
  go_ret
  exact ⟨by rw [HK.out]; rfl, hb⟩

set_option maxHeartbeats 800000 in
theorem with_any (k : UInt8) (id : List UInt8) (n : Int) (w : World) (hs : id.length ≤ 16777215) (hn : n ≤ 9223372036854775807) :
    Calls Try.prog 62 #[str [k], str id, .int .i64 n] w fun e w' => e = .returned (str (kWith k id n)) ∧ Below w.heap.size w w' := by
  have hl := kOf_length k id
  have hl2 := tNum_le 113 n.toNat
  have hk : kWith k id n = kOf k id ++ tNum 113 n.toNat := rfl
  obtain ⟨X, hX⟩ : ∃ X, kOf k id = X := ⟨_, rfl⟩
  obtain ⟨Y, hY⟩ : ∃ Y, tNum 113 n.toNat = Y := ⟨_, rfl⟩
  rw [hX, hY] at hk
  rw [hX] at hl
  rw [hY] at hl2
  have hl' : X.length ≤ 16777220 := by omega
  have q : ¬ 9223372036854775807 < X.length + Y.length := by omega
  have HX := Lib.hid hX
  have HY := Lib.hid hY
  have HK := Lib.hid hk
  clear hX hY hk hl
  go_enter Try.func62, Try.ntmps62
  go_wp2_with fail
  refine (of_any k id _ hs).mono ?_
  rw [HX.out]
  rintro e w1 ⟨rfl, hb⟩
  go_wp2_with fail
  refine (int_any 113 n _ (by decide) (by decide) hn).mono ?_
  rw [HY.out]
  rintro e w2 ⟨rfl, hb2⟩
  go_wp2
  go_ret
  exact ⟨by rw [HK.out]; rfl, bel_step hb hb2⟩

set_option maxHeartbeats 800000 in
theorem refWith_any (k : UInt8) (id : List UInt8) (n : Int) (w : World) (hs : id.length ≤ 16777215) (hn : n ≤ 9223372036854775807) :
    Calls Try.prog 53 #[str [k], str id, .int .i64 n] w fun e w' => e = .returned (str (kWith k id n)) ∧ Below w.heap.size w w' := by
  have hl := kOf_length k id
  have hl2 := tNum_le 113 n.toNat
  have hk : kWith k id n = kOf k id ++ tNum 113 n.toNat := rfl
  obtain ⟨X, hX⟩ : ∃ X, kOf k id = X := ⟨_, rfl⟩
  obtain ⟨Y, hY⟩ : ∃ Y, tNum 113 n.toNat = Y := ⟨_, rfl⟩
  rw [hX, hY] at hk
  rw [hX] at hl
  rw [hY] at hl2
  have hl' : X.length ≤ 16777220 := by omega
  have q : ¬ 9223372036854775807 < X.length + Y.length := by omega
  have HX := Lib.hid hX
  have HY := Lib.hid hY
  have HK := Lib.hid hk
  clear hX hY hk hl
  go_enter Try.func53, Try.ntmps53
  go_wp2_with fail
  refine (refOf_any k id _ hs).mono ?_
  rw [HX.out]
  rintro e w1 ⟨rfl, hb⟩
  go_wp2_with fail
  refine (refInt_any 113 n _ (by decide) (by decide) hn).mono ?_
  rw [HY.out]
  rintro e w2 ⟨rfl, hb2⟩
  go_wp2
  go_ret
  exact ⟨by rw [HK.out]; rfl, bel_step hb hb2⟩

set_option maxHeartbeats 400000 in
theorem kClient_any (id : List UInt8) (w : World) (hs : id.length ≤ 16777215) :
    Calls Try.prog 39 #[str id] w fun e w' => e = .returned (str (kOf 67 id)) ∧ Below w.heap.size w w' := by
  go_enter Try.func39, Try.ntmps39
  go_wp2_with fail
  refine (of_any 67 id _ hs).mono ?_
  rintro e w1 ⟨rfl, hb⟩
  go_wp2
  go_ret
  exact ⟨rfl, hb⟩

set_option maxHeartbeats 400000 in
theorem kConn_any (id : List UInt8) (w : World) (hs : id.length ≤ 16777215) :
    Calls Try.prog 40 #[str id] w fun e w' => e = .returned (str (kOf 75 id)) ∧ Below w.heap.size w w' := by
  go_enter Try.func40, Try.ntmps40
  go_wp2_with fail
  refine (of_any 75 id _ hs).mono ?_
  rintro e w1 ⟨rfl, hb⟩
  go_wp2
  go_ret
  exact ⟨rfl, hb⟩

set_option maxHeartbeats 400000 in
theorem kChan_any (id : List UInt8) (w : World) (hs : id.length ≤ 16777215) :
    Calls Try.prog 41 #[str id] w fun e w' => e = .returned (str (kOf 72 id)) ∧ Below w.heap.size w w' := by
  go_enter Try.func41, Try.ntmps41
  go_wp2_with fail
  refine (of_any 72 id _ hs).mono ?_
  rintro e w1 ⟨rfl, hb⟩
  go_wp2
  go_ret
  exact ⟨rfl, hb⟩

set_option maxHeartbeats 400000 in
theorem kNext_any (id : List UInt8) (w : World) (hs : id.length ≤ 16777215) :
    Calls Try.prog 42 #[str id] w fun e w' => e = .returned (str (kOf 78 id)) ∧ Below w.heap.size w w' := by
  go_enter Try.func42, Try.ntmps42
  go_wp2_with fail
  refine (of_any 78 id _ hs).mono ?_
  rintro e w1 ⟨rfl, hb⟩
  go_wp2
  go_ret
  exact ⟨rfl, hb⟩

set_option maxHeartbeats 400000 in
theorem kSent_any (id : List UInt8) (n : Int) (w : World) (hs : id.length ≤ 16777215) (hn : n ≤ 9223372036854775807) :
    Calls Try.prog 43 #[str id, .int .i64 n] w fun e w' => e = .returned (str (kWith 80 id n)) ∧ Below w.heap.size w w' := by
  go_enter Try.func43, Try.ntmps43
  go_wp2_with fail
  refine (with_any 80 id n _ hs hn).mono ?_
  rintro e w1 ⟨rfl, hb⟩
  go_wp2
  go_ret
  exact ⟨rfl, hb⟩

set_option maxHeartbeats 400000 in
theorem kGot_any (id : List UInt8) (n : Int) (w : World) (hs : id.length ≤ 16777215) (hn : n ≤ 9223372036854775807) :
    Calls Try.prog 44 #[str id, .int .i64 n] w fun e w' => e = .returned (str (kWith 71 id n)) ∧ Below w.heap.size w w' := by
  go_enter Try.func44, Try.ntmps44
  go_wp2_with fail
  refine (with_any 71 id n _ hs hn).mono ?_
  rintro e w1 ⟨rfl, hb⟩
  go_wp2
  go_ret
  exact ⟨rfl, hb⟩

set_option maxHeartbeats 400000 in
theorem number_any (n : Int) (w : World) (hn : n ≤ 9223372036854775807) :
    Calls Try.prog 48 #[.int .i64 n] w fun e w' => e = .returned (str (tNum 110 n.toNat)) ∧ Below w.heap.size w w' := by
  go_enter Try.func48, Try.ntmps48
  go_wp2_with fail
  refine (int_any 110 n _ (by decide) (by decide) hn).mono ?_
  rintro e w1 ⟨rfl, hb⟩
  go_wp2
  go_ret
  exact ⟨rfl, hb⟩
set_option maxHeartbeats 400000 in
theorem kind_cons (k : UInt8) (s : List UInt8) (w : World) :
    Calls Try.prog 46 #[str (k :: s)] w fun e w' => e = .returned (.int .u8 k.toNat) ∧ w = w' := by
  go_enter Try.func46, Try.ntmps46
  go_wp2
  go_ret
  exact ⟨rfl, rfl⟩
set_option maxHeartbeats 400000 in
theorem kind_nil (w : World) :
    Calls Try.prog 46 #[str []] w fun e w' => e = .returned (.int .u8 0) ∧ w = w' := by
  go_enter Try.func46, Try.ntmps46
  go_wp2
  go_ret
  exact ⟨rfl, rfl⟩
set_option maxHeartbeats 400000 in
theorem short16_any (s : List UInt8) (n : Nat) (w : World) :
    Calls Try.prog 38 #[str s, .int .i64 n] w fun e w' => e = .returned (str (s.take n)) ∧ w = w' := by
  by_cases h : n < s.length
  · go_enter Try.func38, Try.ntmps38
    go_wp2
    go_ret
    exact ⟨rfl, rfl⟩
  · have e := List.take_of_length_le (l := s) (i := n) (by omega)
    have E := Lib.hid e
    clear e
    go_enter Try.func38, Try.ntmps38
    go_wp2
    go_ret
    exact ⟨by rw [E.out]; rfl, rfl⟩
end Go.Proofs.Ytjanmonoigpmcaa

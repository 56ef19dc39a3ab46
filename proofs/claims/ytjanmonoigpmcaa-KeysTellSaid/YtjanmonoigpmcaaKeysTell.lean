/-
  The walk of KeysTell: it returns true for every id, number and bytes. No conditions beside those in each theorem.
-/
import Derived.Test.YtjanmonoigpmcaaKeysC
namespace Go.Proofs.Ytjanmonoigpmcaa
open Go.RowKit

set_option maxRecDepth 100000 in
set_option maxHeartbeats 3200000 in
theorem keysTell_walk (id : List UInt8) (n : Int) (wn : (Lit.int .i64 n).wf = true) (s : List UInt8) (w : World) :
    Calls Try.prog 14 #[str id, .int .i64 n, str s] w fun e w' => e = .returned (.bool true) ∧ Below w.heap.size w w' := by
  have hn1 := (bounds_i64 wn).2
  obtain ⟨X, hX⟩ : ∃ X, id.take 60 = X := ⟨_, rfl⟩
  have hXl : X.length ≤ 60 := by rw [← hX, List.length_take]; omega
  obtain ⟨S, hS⟩ : ∃ S, s.take 60 = S := ⟨_, rfl⟩
  have hSl : S.length ≤ 60 := by rw [← hS, List.length_take]; omega
  obtain ⟨T, hT⟩ : ∃ T, tNum 110 n.toNat = T := ⟨_, rfl⟩
  have hTl : T.length ≤ 12 := by rw [← hT]; exact tNum_le _ _
  obtain ⟨⟨a, b⟩, hr⟩ : ∃ q, readNumR S = q := ⟨_, rfl⟩
  obtain ⟨⟨c, d⟩, ht⟩ : ∃ q, readNumR T = q := ⟨_, rfl⟩
  obtain ⟨⟨i, q, u⟩, hq⟩ : ∃ q, seqR S = q := ⟨_, rfl⟩
  have HX := Lib.hid hX
  have HS := Lib.hid hS
  have HN := Lib.hid hT
  have HR := Lib.hid hr
  have HT := Lib.hid ht
  have HQ := Lib.hid hq
  clear hX hS hT hr ht hq wn
  go_enter Try.func14, Try.ntmps14
  go_wp2_with fail
  refine (awake16_any _).mono ?_
  rintro e w1 ⟨rfl, hq⟩
  have hb1 := hq
  clear hq
  go_wp2_with fail
  refine (short16_any id 60 _).mono ?_
  rw [HX.out]
  rintro e wq ⟨rfl, rfl⟩
  go_wp2_with fail
  refine (short16_any s 60 _).mono ?_
  rw [HS.out]
  rintro e wq ⟨rfl, rfl⟩
  go_wp2_with fail
  refine (readNumber_any S _ (by omega)).mono ?_
  rw [HR.out]
  rintro e w2 ⟨rfl, hq⟩
  have hb2 := bel_step hb1 hq
  clear hq hb1
  go_wp2_with fail
  refine (refReadNumber_any S _ (by omega)).mono ?_
  rw [HR.out]
  rintro e w3 ⟨rfl, hq⟩
  have hb3 := bel_step hb2 hq
  clear hq hb2
  go_wp2_with fail
  refine (seq_any S _ (by omega)).mono ?_
  rw [HQ.out]
  rintro e w4 ⟨rfl, hq⟩
  have hb4 := bel_step hb3 hq
  clear hq hb3
  go_wp2_with fail
  refine (refSeq_any S _ (by omega)).mono ?_
  rw [HQ.out]
  rintro e w5 ⟨rfl, hq⟩
  have hb5 := bel_step hb4 hq
  clear hq hb4
  clear HR HQ HS
  cases S with
  | nil =>
    go_wp2_with fail
    refine (number_any n _ (by omega)).mono ?_
    rw [HN.out]
    rintro e w6 ⟨rfl, hq⟩
    have hb6 := bel_step hb5 hq
    clear hq hb5
    go_wp2_with fail
    refine (readNumber_any T _ (by omega)).mono ?_
    rw [HT.out]
    rintro e w7 ⟨rfl, hq⟩
    have hb7 := bel_step hb6 hq
    clear hq hb6
    go_wp2_with fail
    refine (number_any n _ (by omega)).mono ?_
    rw [HN.out]
    rintro e w8 ⟨rfl, hq⟩
    have hb8 := bel_step hb7 hq
    clear hq hb7
    go_wp2_with fail
    refine (refReadNumber_any T _ (by omega)).mono ?_
    rw [HT.out]
    rintro e w9 ⟨rfl, hq⟩
    have hb9 := bel_step hb8 hq
    clear hq hb8
    go_wp2_with fail
    refine (kind_nil _).mono ?_
    rintro e wq ⟨rfl, rfl⟩
    go_wp2_with fail
    refine (kClient_any X _ (by omega)).mono ?_
    rintro e w10 ⟨rfl, hq⟩
    have hb10 := bel_step hb9 hq
    clear hq hb9
    go_wp2_with fail
    refine (refOf_any 67 X _ (by omega)).mono ?_
    rintro e w11 ⟨rfl, hq⟩
    have hb11 := bel_step hb10 hq
    clear hq hb10
    go_wp2_with fail
    refine (kConn_any X _ (by omega)).mono ?_
    rintro e w12 ⟨rfl, hq⟩
    have hb12 := bel_step hb11 hq
    clear hq hb11
    go_wp2_with fail
    refine (refOf_any 75 X _ (by omega)).mono ?_
    rintro e w13 ⟨rfl, hq⟩
    have hb13 := bel_step hb12 hq
    clear hq hb12
    go_wp2_with fail
    refine (kChan_any X _ (by omega)).mono ?_
    rintro e w14 ⟨rfl, hq⟩
    have hb14 := bel_step hb13 hq
    clear hq hb13
    go_wp2_with fail
    refine (refOf_any 72 X _ (by omega)).mono ?_
    rintro e w15 ⟨rfl, hq⟩
    have hb15 := bel_step hb14 hq
    clear hq hb14
    go_wp2_with fail
    refine (kNext_any X _ (by omega)).mono ?_
    rintro e w16 ⟨rfl, hq⟩
    have hb16 := bel_step hb15 hq
    clear hq hb15
    go_wp2_with fail
    refine (refOf_any 78 X _ (by omega)).mono ?_
    rintro e w17 ⟨rfl, hq⟩
    have hb17 := bel_step hb16 hq
    clear hq hb16
    go_wp2_with fail
    refine (kSent_any X n _ (by omega) (by omega)).mono ?_
    rintro e w18 ⟨rfl, hq⟩
    have hb18 := bel_step hb17 hq
    clear hq hb17
    go_wp2_with fail
    refine (refWith_any 80 X n _ (by omega) (by omega)).mono ?_
    rintro e w19 ⟨rfl, hq⟩
    have hb19 := bel_step hb18 hq
    clear hq hb18
    go_wp2_with fail
    refine (kGot_any X n _ (by omega) (by omega)).mono ?_
    rintro e w20 ⟨rfl, hq⟩
    have hb20 := bel_step hb19 hq
    clear hq hb19
    go_wp2_with fail
    refine (refWith_any 71 X n _ (by omega) (by omega)).mono ?_
    rintro e w21 ⟨rfl, hq⟩
    have hb21 := bel_step hb20 hq
    clear hq hb20
    go_wp2
    go_ret
    exact ⟨rfl, hb21⟩
  | cons x S =>
    go_wp2_with fail
    refine (number_any n _ (by omega)).mono ?_
    rw [HN.out]
    rintro e w6 ⟨rfl, hq⟩
    have hb6 := bel_step hb5 hq
    clear hq hb5
    go_wp2_with fail
    refine (readNumber_any T _ (by omega)).mono ?_
    rw [HT.out]
    rintro e w7 ⟨rfl, hq⟩
    have hb7 := bel_step hb6 hq
    clear hq hb6
    go_wp2_with fail
    refine (number_any n _ (by omega)).mono ?_
    rw [HN.out]
    rintro e w8 ⟨rfl, hq⟩
    have hb8 := bel_step hb7 hq
    clear hq hb7
    go_wp2_with fail
    refine (refReadNumber_any T _ (by omega)).mono ?_
    rw [HT.out]
    rintro e w9 ⟨rfl, hq⟩
    have hb9 := bel_step hb8 hq
    clear hq hb8
    go_wp2_with fail
    refine (kind_cons x S _).mono ?_
    rintro e wq ⟨rfl, rfl⟩
    go_wp2_with fail
    refine (kClient_any X _ (by omega)).mono ?_
    rintro e w10 ⟨rfl, hq⟩
    have hb10 := bel_step hb9 hq
    clear hq hb9
    go_wp2_with fail
    refine (refOf_any 67 X _ (by omega)).mono ?_
    rintro e w11 ⟨rfl, hq⟩
    have hb11 := bel_step hb10 hq
    clear hq hb10
    go_wp2_with fail
    refine (kConn_any X _ (by omega)).mono ?_
    rintro e w12 ⟨rfl, hq⟩
    have hb12 := bel_step hb11 hq
    clear hq hb11
    go_wp2_with fail
    refine (refOf_any 75 X _ (by omega)).mono ?_
    rintro e w13 ⟨rfl, hq⟩
    have hb13 := bel_step hb12 hq
    clear hq hb12
    go_wp2_with fail
    refine (kChan_any X _ (by omega)).mono ?_
    rintro e w14 ⟨rfl, hq⟩
    have hb14 := bel_step hb13 hq
    clear hq hb13
    go_wp2_with fail
    refine (refOf_any 72 X _ (by omega)).mono ?_
    rintro e w15 ⟨rfl, hq⟩
    have hb15 := bel_step hb14 hq
    clear hq hb14
    go_wp2_with fail
    refine (kNext_any X _ (by omega)).mono ?_
    rintro e w16 ⟨rfl, hq⟩
    have hb16 := bel_step hb15 hq
    clear hq hb15
    go_wp2_with fail
    refine (refOf_any 78 X _ (by omega)).mono ?_
    rintro e w17 ⟨rfl, hq⟩
    have hb17 := bel_step hb16 hq
    clear hq hb16
    go_wp2_with fail
    refine (kSent_any X n _ (by omega) (by omega)).mono ?_
    rintro e w18 ⟨rfl, hq⟩
    have hb18 := bel_step hb17 hq
    clear hq hb17
    go_wp2_with fail
    refine (refWith_any 80 X n _ (by omega) (by omega)).mono ?_
    rintro e w19 ⟨rfl, hq⟩
    have hb19 := bel_step hb18 hq
    clear hq hb18
    go_wp2_with fail
    refine (kGot_any X n _ (by omega) (by omega)).mono ?_
    rintro e w20 ⟨rfl, hq⟩
    have hb20 := bel_step hb19 hq
    clear hq hb19
    go_wp2_with fail
    refine (refWith_any 71 X n _ (by omega) (by omega)).mono ?_
    rintro e w21 ⟨rfl, hq⟩
    have hb21 := bel_step hb20 hq
    clear hq hb20
    go_wp2
    go_ret
    exact ⟨rfl, hb21⟩
end Go.Proofs.Ytjanmonoigpmcaa

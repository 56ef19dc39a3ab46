/-
  What the statement SlotsWhole holds: a log on a device that is armed, whole or broken; what a commit leaves of it; what stands behind a crash. For records of at most 80 bytes, a device of 30 sectors.
  SlotsWhole of the statements' layer 7 returns true. For any records, any step behind which power goes, any crash.
  The statement twinspanlaw07.SlotsWhole: for every input the law returns true, and its arguments read as before. The walk is in SlotsWhole; here is the row round it. No conditions.
-/
import Derived.Test.YtiighehibiijcaaMg6
import Derived.Laws.AppendOwnNone
import Derived.ProofKit
import Derived.OpenShut
import Derived.ShutString
import Derived.ChangeOld
import Derived.Below
namespace Go.Proofs.Ytiighehibiijcaa
open Go.RowKit
set_option linter.unusedSimpArgs false
set_option linter.unnecessarySimpa false
set_option linter.unusedVariables false

/-- What a crash leaves: just the records told, or the one going on too. -/
def After (D : Dev) (T G : List (List UInt8)) : Prop := ∀ ks torn cc, cc ≤ 64 → ∃ m rs', m.1 ≤ 20 ∧ (rs' = T ∨ rs' = T ++ G) ∧ Live (crashD ks torn cc D) ⟨m, finB (recsB rs'), false⟩ rs'
def Wh (W w : World) (g gm h : Nat) (v : Value) (cap : Nat) (D : Dev) (X : Log) (T G : List (List UInt8)) (j : Nat) : Prop :=
  IsDev w g gm v cap gm D ∧ IsLog w h g X ∧ OkP 30 j D ∧ W.heap.size ≤ gm ∧ W.heap.size ≤ h ∧ Below W.heap.size W w ∧ cap ≤ j * 140000 ∧ (∀ r ∈ T, r.length ≤ 80) ∧
  ((G = [] ∧ Live D X T ∧ Elder D X.mark ∧ X.mark.1 = (T.length : Int)) ∨ (∃ r, G = [r] ∧ r.length ≤ 80 ∧ X.broken = true ∧ LogOk X ∧ After D T G))
section
variable {W w w' : World} {g gm h cap : Nat} {v : Value} {D : Dev} {X : Log} {T G : List (List UInt8)} {j : Nat} {r0 : List UInt8}
theorem Wh.step (H : Wh W w g gm h v cap D X T G j) (hb : Below w.heap.size w w') : Wh W w' g gm h v cap D X T G j :=
  ⟨H.1.step hb, Blk.step H.2.1 hb, H.2.2.1, H.2.2.2.1, H.2.2.2.2.1, bel_step H.2.2.2.2.2.1 hb, H.2.2.2.2.2.2⟩
theorem Wh.below (H : Wh W w g gm h v cap D X T G j) : Below W.heap.size W w := H.2.2.2.2.2.1
theorem Wh.grownS {B : Nat} {vs : Value} {L : List (List UInt8)} (H : Wh W w g gm h v cap D X T G j) (hv : OwnS w B vs L) (hB : W.heap.size ≤ B) (hg : w.grownBy w' vs.ownBlock) : Wh W w' g gm h v cap D X T G j := by
  rcases hv.blk with e | ⟨q, cur, e, hq, hb⟩
  · rw [e] at hg
    exact H.step (below_of_none hg)
  · rw [e] at hg
    exact ⟨H.1.grownBlk hb (by decide) (by decide) hg, Blk.grown H.2.1 hg (by simpa using blk_ne H.2.1 hb (by decide)), H.2.2.1, H.2.2.2.1, H.2.2.2.2.1,
      H.2.2.2.2.2.1.trans (upd_below hg H.2.2.2.2.2.1.size (by omega)), H.2.2.2.2.2.2⟩
theorem wh_room (h : ∀ r ∈ T, r.length ≤ 80) (hT : T.length ≤ 11) (hr : r0.length ≤ 80) : ((recsB T ++ tRec r0).length : Int) ≤ 1792 := by
  have h1 := recsB_bound T 80 h
  have h2 := tRec_most r0
  have h3 : T.length * 92 ≤ 11 * 92 := Nat.mul_le_mul_right 92 hT
  rw [List.length_append]
  omega
theorem Wh.commit (H : Wh W w g gm h v cap D X T G j) (hr1 : r0.length ≤ 80) (hT : T.length ≤ 10) (hj : j ≤ 400) :
    Calls Try.prog 40 #[.pointer (some ⟨h, 0, none⟩), str r0] w fun e w' => ∃ er v' cap' D' X' T' G', e = .returned (.int .i64 er) ∧ Wh W w' g gm h v' cap' D' X' T' G' (j + 30) ∧ TouchL h g gm w v w' v' ∧
      ((er = 0 ∧ G = [] ∧ T' = T ++ [r0] ∧ G' = []) ∨ (er = 14 ∧ G = [] ∧ T' = T ∧ G' = [r0]) ∨ (er = 13 ∧ T' = T ∧ G' = G ∧ G ≠ [])) := by
  obtain ⟨hd, hx, hp, hg, hh, hb, hca, hsm, hcase⟩ := H
  have hp' : OkP D.n j D := by rw [hp.1]; exact hp
  have hroom := wh_room hsm (by omega) hr1
  have hrd : roomD D = 1792 := by unfold roomD; rw [hp.1]; decide
  rcases hcase with ⟨rfl, hl, hel, hm⟩ | ⟨r, rfl, hr, hbr, hlo, haf⟩
  · have hc : (((recsB T ++ tRec r0).length : Nat) : Int) ≤ roomD D := by rw [hrd]; exact hroom
    rcases hC : commitS D X (tRec r0) with ⟨X', D', er⟩
    have hks := ks_small (r0 := r0) hl (by omega)
    obtain ⟨ho, hcs⟩ := commit_cases hl hp' hc (by omega) (by omega) (by omega) hC
    have ho' : OkP 30 (j + 30) D' := by rw [hp.1] at ho; exact ho.le (by omega)
    refine (commit_any w h g gm v cap gm D X r0 hx hd (by omega) (by rw [hp.1]; decide) (by rw [hp.1]; decide) hl.log_ok j hp' (by omega) (by omega) _ ((commitR_goes hl hc).trans hC)).mono ?_
    rintro e w' ⟨v', cap', rfl, hc', hd', hx', ht'⟩
    have hbw := hb.trans (hd.belowL ht' hg hh hb.size)
    rcases hcs with ⟨rfl, h1, h2, h3, h4, h5⟩ | ⟨rfl, h1, h2, h3⟩
    · refine ⟨0, v', cap', D', X', T ++ [r0], [], rfl, ⟨hd', hx', ho', hg, hh, hbw, by omega, ?_, .inl ⟨rfl, h1, ?_, ?_⟩⟩, ht', .inl ⟨rfl, rfl, rfl, rfl⟩⟩
      · intro q hq
        rcases List.mem_append.1 hq with hq | hq
        · exact hsm q hq
        · simp only [List.mem_cons, List.not_mem_nil, or_false] at hq
          rw [hq]; exact hr1
      · refine Elder.next h5 hl.mk_ok ?_
        rw [h4]
        show X.mark.1 < X.mark.1 + 1
        omega
      · rw [h4, List.length_append]
        show X.mark.1 + 1 = _
        rw [hm]; simp
    · refine ⟨14, v', cap', D', X', T, [r0], rfl, ⟨hd', hx', ho', hg, hh, hbw, by omega, hsm, .inr ⟨r0, rfl, hr1, by rw [h2], by rw [h2]; exact hl.log_ok, ?_⟩⟩, ht', .inr (.inl ⟨rfl, rfl, rfl, rfl⟩)⟩
      intro ks torn cc hcc
      obtain ⟨m, rs', a1, a2, a3⟩ := h3 hel ks torn cc hcc
      exact ⟨m, rs', by omega, a2, a3⟩
  · have hC : commitR D X r0 = (X, D, 13) := by unfold commitR; rw [if_pos hbr]
    refine (commit_any w h g gm v cap gm D X r0 hx hd (by omega) (by rw [hp.1]; decide) (by rw [hp.1]; decide) hlo j hp' (by omega) (by omega) _ hC).mono ?_
    rintro e w' ⟨v', cap', rfl, hc', hd', hx', ht'⟩
    exact ⟨13, v', cap', D, X, T, [r], rfl, ⟨hd', hx', hp.le (by omega), hg, hh, hb.trans (hd.belowL ht' hg hh hb.size), by omega, hsm, .inr ⟨r, rfl, hr, hbr, hlo, haf⟩⟩, ht', .inr (.inr ⟨rfl, rfl, rfl, by simp⟩)⟩
theorem Wh.after (H : Wh W w g gm h v cap D X T G j) (hT : T.length ≤ 10) : After D T G := by
  rcases H.2.2.2.2.2.2.2.2 with ⟨rfl, hl, hel, hm⟩ | ⟨r, rfl, hr, hbr, hlo, haf⟩
  · intro ks torn cc hcc
    have h1 := hl.crash ks torn cc
    refine ⟨X.mark, T, by omega, .inl rfl, ?_⟩
    have : X = ⟨X.mark, finB (recsB T), false⟩ := by rw [← hl.fin, ← hl.ok]
    rw [this] at h1
    exact h1
  · exact haf
theorem Wh.one (H : Wh W w g gm h v cap D X T G j) : G.length ≤ 1 ∧ ∀ r ∈ G, r.length ≤ 80 := by
  rcases H.2.2.2.2.2.2.2.2 with ⟨rfl, -⟩ | ⟨r, rfl, hr, -⟩
  · exact ⟨by simp, fun r hr => by cases hr⟩
  · refine ⟨by simp, fun q hq => ?_⟩
    simp only [List.mem_cons, List.not_mem_nil, or_false] at hq
    rw [hq]; exact hr
end
theorem wpList_append_rows {w : World} {ops : Array Oper} {rest : List Oper} {o : Oper} {a : Act} {Q : Exit → Act → World → Prop} (hgd : o.guard = none) (s x : Operand)
    (ho : o.op = .call { callee := .builtin .append, args := #[s, x], argTypes := #[54, 54] }) {B B2 : Nat} {v1 v2 : Value} {L1 L2 : List (List UInt8)} (hs : a.eval s = v1) (h1 : OwnS w B v1 L1) (hx : a.eval x = v2) (h2 : OwnS w B2 v2 L2)
    (hb : L1.length + L2.length ≤ 1000) (hbase : B ≤ w.heap.size) (h : ∀ v' w', OwnS w' B v' (L1 ++ L2) → w.grownBy w' v1.ownBlock → wpList Try.prog ops Q rest (a.put o.dst v') w') : wpList Try.prog ops Q (o :: rest) a w := by
  obtain ⟨i0, hi, hz0, hz1, hz2⟩ : ∃ i, Try.prog.info? 9 = some i ∧ i.zero = some (.string ByteArray.empty) ∧ i.size = 1 ∧ i.bytes = 16 := info_parts (by kernel_rfl)
  rcases h2.read with ⟨rfl, rfl⟩ | ⟨g, cap, rfl, _, _, _, _, hat⟩
  · refine wpList_append_own_none hgd s x 54 ho B 9 i0 1 Try.underlying54 hi v1 L1.length (L1.map str) hs h1 hx ?_
    exact h v1 w (by rw [List.append_nil]; exact h1) ⟨rfl, rfl, rfl, Nat.le_refl _, fun _ _ _ => rfl⟩
  · refine wpList_append_own w hgd s x 54 ho B 9 i0 (.string ByteArray.empty) 1 16 Try.underlying54 hi hz0 hz1 hz2 rfl (by decide) v1 L1.length (L1.map str) hs h1 ⟨g, 0, Option.none⟩ L2.length cap (L2.map str) hx (by simp) ?_ ?_ (by unfold maxLen; omega) (by omega) hbase ?_
    · intro j u hj
      have hjl : j < L2.length := by
        rcases Nat.lt_or_ge j L2.length with hh | hh
        · exact hh
        · rw [List.getElem?_eq_none (by simpa using hh)] at hj; cases hj
      have h3 := hat j hjl
      rw [List.getElem?_map, List.getElem?_eq_getElem hjl] at hj
      simp only [Option.map_some, Option.some.injEq] at hj
      rw [← hj, ← h3]
      rw [Addr.add_mid, Nat.zero_add]
    · intro u hu
      obtain ⟨q, _, rfl⟩ := List.mem_map.1 hu
      rfl
    · intro v' w' hown hg _
      refine h v' w' ?_ hg
      unfold OwnS
      simpa only [List.map_append, List.length_append] using hown
theorem OwnS.apart {w8 w w' : World} {B : Nat} {lv mv : Value} {R M : List (List UInt8)} (hl : OwnS w8 B lv R) (hl9 : OwnS w B lv R) (hm : OwnS w w8.heap.size mv M) (hg : w.grownBy w' mv.ownBlock) : OwnS w' B lv R := by
  refine hl9.grown hg ?_
  rcases hlv : lv.ownBlock with _ | q
  · exact .inl rfl
  · right
    intro e
    have h1 := World.ownsRow.lt hl q hlv
    have h2 := World.ownsRow.lt hm q e.symm
    omega
theorem OwnS.apart2 {w8 w w' : World} {B : Nat} {lv mv : Value} {R M : List (List UInt8)} (hl : OwnS w8 B lv R) (hm : OwnS w w8.heap.size mv M) (hg : w.grownBy w' lv.ownBlock) : OwnS w' w8.heap.size mv M := by
  refine hm.grown hg ?_
  rcases hmv : mv.ownBlock with _ | q
  · exact .inl rfl
  · right
    intro e
    have h1 := World.ownsRow.lt hl q e.symm
    have h2 := World.ownsRow.lt hm q hmv
    omega
theorem OkP.armQ {n : Int} {j : Nat} {d : Dev} (h : OkP n j d) {k : Int} (hk : k ≤ 100) : OkP n j (armD d k) := by
  obtain ⟨h1, h2, h3, h4, h5, h6, h7, h8⟩ := h
  exact ⟨h1, by simp only [armD]; omega, by simp only [armD]; omega, h4, by simp only [armD]; omega, by simp only [armD]; omega, h7, h8⟩
theorem KeepIs.ofRead7 {W w : World} {g gm : Nat} {v kv : Value} {cap B : Nat} {d : Dev} {ks : List Bool} (hR : ReadBl W kv ks) (hd : IsDev w g gm v cap B d) (hB : Below W.heap.size W w) (hBB : W.heap.size ≤ B) : KeepIs w g gm v kv ks := by
  obtain ⟨h1, p, c, rfl, h2⟩ := hR
  refine ⟨h1, p, c, rfl, fun h => ?_⟩
  obtain ⟨b, o, rfl, hb, hc⟩ := h2 h
  refine ⟨b, o, rfl, Nat.lt_of_lt_of_le hb hB.size, fun w' v' ht i hi => ?_⟩
  have hb2 := hd.below ht hBB hB.size
  exact ((hb2.cell (p := ⟨b, o + i, Option.none⟩) hb).trans (hB.cell (p := ⟨b, o + i, Option.none⟩) hb)).trans (hc i hi)
end Go.Proofs.Ytiighehibiijcaa

namespace Go.Proofs.Ytiighehibiijcaa
open Go.RowKit
set_option linter.unusedSimpArgs false
set_option linter.unnecessarySimpa false
set_option linter.unusedVariables false

/-- The frame: what the variables hold; us: all else. -/
def FrW (v0 v5 v7 v8 v9 v12 v13 v14 : Value) (us : Nat → Value) : Act := ⟨#[v0, us 1, us 2, us 3, us 4, v5, us 6, v7, v8, v9, us 10, us 11, v12, v13, v14, us 15, us 16, us 17, us 18, us 19, us 20, us 21, us 22, us 23, us 24, us 25, us 26, us 27, us 28, us 29, us 30, us 31, us 32, us 33, us 34, us 35, us 36, us 37, us 38, us 39, us 40, us 41, us 42, us 43, us 44, us 45, us 46, us 47, us 48, us 49, us 50, us 51, us 52, us 53, us 54, us 55, us 56, us 57, us 58, us 59, us 60, us 61, us 62, us 63, us 64, us 65, us 66, us 67, us 68, us 69, us 70, us 71, us 72, us 73, us 74, us 75, us 76, us 77, us 78, us 79, us 80, us 81, us 82, us 83, us 84, us 85, us 86, us 87, us 88, us 89, us 90, us 91, us 92, us 93, us 94, us 95, us 96, us 97, us 98, us 99, us 100, us 101, us 102, us 103, us 104, us 105, us 106, us 107, us 108, us 109, us 110, us 111, us 112, us 113, us 114, us 115, us 116, us 117, us 118, us 119, us 120, us 121, us 122, us 123, us 124, us 125, us 126, us 127, us 128, us 129, us 130, us 131, us 132, us 133, us 134, us 135, us 136, us 137, us 138, us 139, us 140, us 141, us 142, us 143, us 144, us 145, us 146, us 147, us 148], []⟩

theorem start_30 : openR (newD 30) = (some ⟨(0, 0, 0), [], false⟩, [], 0) := (Live.new (n := 30) (by omega) (by omega)).open
theorem own_one (w : World) (r : List UInt8) : OwnS (w.alloc (.cells #[str r] 9)) 0 (.slice (some ⟨w.heap.size, 0, Option.none⟩) 1 1) [r] := by
  refine ⟨rfl, .inr ⟨w.heap.size, 1, #[str r], rfl, Nat.zero_le _, heap_alloc_new w _, Nat.le_refl _, by unfold maxLen; omega, rfl, rfl⟩⟩
set_option maxRecDepth 100000 in
set_option maxHeartbeats 16000000 in
theorem slotsWhole_any (v0 : Value) (L : List (List UInt8)) (left : Int) (kv : Value) (ta tb : Int) (w : World) (hL : ReadS w v0 L) (ks : List Bool) (hK : ReadBl w kv ks) :
    Calls Try.prog 10 #[v0, .int .i64 left, .agg #[kv, .int .i64 ta, .int .i64 tb]] w fun e w' => e = .returned (.bool true) ∧ Below w.heap.size w w' := by
  obtain ⟨p0, c0, rfl, hmax, hcell⟩ := hL
  have HCELL := Lib.hid hcell
  have HKS := Lib.hid hK
  obtain ⟨-, pk, ck, rfl, -⟩ := id hK
  clear hcell hmax hK
  obtain ⟨q, hq⟩ : ∃ q, bits .and .i64 left 63 = q ∧ 0 ≤ q ∧ q < 64 := ⟨_, rfl, by rw [i64_and6]; omega, by rw [i64_and6]; omega⟩
  obtain ⟨hq, hq0, hq8⟩ := hq
  go_enter Try.func10, Try.ntmps10
  go_wp2_with fail
  have HC0 := Lib.hid (Blk.new w 67 #[.slice pk ks.length ck, .int .i64 ta, .int .i64 tb])
  have HB0 := Lib.hid ((Below.refl w.heap.size w).alloc (Nat.le_refl _) (.cells #[.slice pk ks.length ck, .int .i64 ta, .int .i64 tb] 67))
  obtain ⟨cb, hcb⟩ : ∃ q, w.heap.size = q := ⟨_, rfl⟩
  rw [hcb] at HC0
  try rw [hcb]
  generalize w.alloc (.cells #[.slice pk ks.length ck, .int .i64 ta, .int .i64 tb] 67) = w0 at HC0 HB0 ⊢
  have HCB := Lib.hid hcb
  clear hcb
  refine (awake07_any _).mono ?_
  rintro e w1 ⟨rfl, hb1⟩
  have HC1 := Lib.hid (HC0.out.step hb1)
  have HB1 := Lib.hid (bel_step HB0.out hb1)
  clear hb1
  go_wp2_with fail
  refine (new_any _ 30 (by omega) (by omega)).mono ?_
  rintro e w2 ⟨rfl, hd2, hb2⟩
  obtain ⟨g, hg⟩ : ∃ g, w1.heap.size + 1 = g := ⟨_, rfl⟩
  obtain ⟨gm, hgm⟩ : ∃ gm, w1.heap.size = gm := ⟨_, rfl⟩
  have hWg : w.heap.size ≤ gm := by have := HB1.out.size; omega
  rw [hg, hgm] at hd2
  rw [hg]
  have HD2 := Lib.hid hd2
  have HC2 := Lib.hid (HC1.out.step hb2)
  have HB2 := Lib.hid (bel_step HB1.out hb2)
  clear hd2 hg hgm hb2
  go_wp2_with fail
  refine (open_any _ g gm _ _ _ _ HD2.out (by decide) (by decide) (fun k s h => by cases h) (by intro p hp; cases hp) (by decide) _ start_30).mono ?_
  rintro e w3 ⟨⟨h, va, rfl, hh, hx, ha⟩, hb3⟩
  have HP3 := Lib.hid (Holds.start (by omega) (by omega) HD2.out HB2.out hWg hx hh hb3)
  have HC3 := Lib.hid (HC2.out.step hb3)
  clear hx hh hb3 ha
  go_wp2_with fail
  refine (arm_any _ g gm _ _ _ _ q HP3.out.1).mono ?_
  rintro e w4 ⟨rfl, hd4, t4⟩
  have HC4 := Lib.hid (HP3.out.1.keep t4 HC3.out (by decide) (by decide))
  have HX4 := Lib.hid (show IsLog w4 h g _ from HP3.out.1.keep t4 HP3.out.2.1 (by decide) (by decide))
  have hB4 := HP3.out.below.trans (HP3.out.1.below t4 HP3.out.2.2.2.2.1 HP3.out.below.size)
  have HP4 := Lib.hid (show Wh w w4 g gm h (.slice none 0 0) 0 (armD (newD 30) q) ⟨(0, 0, 0), [], false⟩ [] [] 0 from ⟨hd4, HX4.out, (OkP.new 30).armQ (by omega), HP3.out.2.2.2.2.1, HP3.out.2.2.2.2.2.1, hB4, by omega, (fun r hr => by cases hr), .inl ⟨rfl, (Live.new (by omega) (by omega)).arm q, (Elder.new 30).like (fun _ => rfl), rfl⟩⟩)
  clear hd4 t4 hB4
  go_upto_block 0 with fail
  clear HP3 HC3 HX4 HD2 HC2 HB2 hWg HC1 HB1 HC0 HB0 hq hq0 hq8
  obtain ⟨kv, hkv⟩ : ∃ kv, Value.slice pk ks.length ck = kv := ⟨_, rfl⟩
  have HKV := Lib.hid hkv
  rw [hkv] at HKS HC4
  clear hkv
  refine wp_cut (fun a' w' => ∃ (v tv gv : Value) (cap : Nat) (D : Dev) (X : Log) (T G : List (List UInt8)) (iv : Value), T.length ≤ 10 ∧ Wh w w' g gm h v cap D X T G 300 ∧ OwnS w' w.heap.size tv T ∧ OwnS w' w.heap.size gv G ∧ Blk w' cb 67 #[kv, .int .i64 ta, .int .i64 tb] ∧ ∃ us, a' = FrW (.slice p0 L.length c0) (.pointer (some ⟨cb, 0, none⟩)) (.bool true) (.pointer (some ⟨g, 0, none⟩)) (.pointer (some ⟨h, 0, none⟩)) tv gv iv us) ?_ ?_
  rotate_left
  · intro J1 K1 hJ1 hK1
    go_wp2_with fail
    refine wp_loop_ghost_k (fun k' a' w' => ∃ (j : Nat) (v tv gv : Value) (cap : Nat) (D : Dev) (X : Log) (T G : List (List UInt8)), j + k' = L.length ∧ j ≤ 10 ∧ T.length ≤ j ∧ (G = [] → gv = .slice none 0 0) ∧ Wh w w' g gm h v cap D X T G (30 * j) ∧ OwnS w' w.heap.size tv T ∧ OwnS w' w.heap.size gv G ∧ Blk w' cb 67 #[kv, .int .i64 ta, .int .i64 tb] ∧ ∃ us, a' = FrW (.slice p0 L.length c0) (.pointer (some ⟨cb, 0, none⟩)) (.bool true) (.pointer (some ⟨g, 0, none⟩)) (.pointer (some ⟨h, 0, none⟩)) tv gv (.int .i64 j) us) L.length ?_ ?_
    · exact ⟨0, _, _, _, _, _, _, [], [], by omega, by omega, by simp, fun _ => rfl, HP4.out, OwnS.none _ _, OwnS.none _ _, HC4.out, meet_us (by kernel_rfl)⟩
    · intro gk a0 wr hinv
      obtain ⟨j, v, tv, gv, cap, D, X, T, G, hj, hj10, hT, hG0, hp, ht, hg, hc, us, rfl⟩ := hinv
      intro J2 K2 hJ2 hK2
      unfold FrW
      have HP := Lib.hid hp
      have HT := Lib.hid ht
      have HG := Lib.hid hg
      have HC := Lib.hid hc
      have HG0 := Lib.hid hG0
      clear hp HP4 HC4 ht hg hc hG0
      by_cases h1 : j < L.length
      · have i1 : (j : Int) < (L.length : Int) := by omega
        by_cases h2 : j < 10
        · have i2 : (j : Int) < 10 := by omega
          obtain ⟨b, of, rfl, hbw, hcl⟩ := HCELL.out (by omega)
          have k0 := (HP.out.below.cell (p := ⟨b, of + j, none⟩) hbw).trans (hcl j h1)
          clear hcl
          go_wp2_with fail
          refine (short_any _ 80 _).mono ?_
          rintro e w5 ⟨rfl, rfl⟩
          clear k0
          obtain ⟨r0, hr0⟩ : ∃ r, (L[j]).take 80 = r := ⟨_, rfl⟩
          have hr80 : r0.length ≤ 80 := by rw [← hr0, List.length_take]; omega
          rw [hr0]
          clear hr0
          go_wp2_with fail
          refine (HP.out.commit (r0 := r0) hr80 (by omega) (by omega)).mono ?_
          rintro e w6 ⟨er, v6, cap6, D6, X6, T6, G6, rfl, hp6, ht6, hcs⟩
          have HP6 := Lib.hid hp6
          have HT6 := Lib.hid (HT.out.keepL HP.out.1 ht6 HP.out.2.1)
          have HG6 := Lib.hid (HG.out.keepL HP.out.1 ht6 HP.out.2.1)
          have HC6 := Lib.hid (HP.out.1.keepL ht6 HP.out.2.1 HC.out (by decide) (by decide) (by decide))
          clear hp6 ht6
          rcases hcs with ⟨rfl, hg, rfl, rfl⟩ | ⟨rfl, hg, rfl, rfl⟩ | ⟨rfl, rfl, rfl, hne⟩
          · obtain rfl := HG0.out hg
            subst hg
            have hnx : Below w6.heap.size w6 (w6.alloc (.cells #[str r0] 9)) := (Below.refl _ _).alloc (Nat.le_refl _) _
            have HRN := Lib.hid (own_one w6 r0)
            have HPA := Lib.hid (HP6.out.step hnx)
            have HTA := Lib.hid (HT6.out.step hnx)
            have HGA := Lib.hid (HG6.out.step hnx)
            have HCA := Lib.hid (HC6.out.step hnx)
            have z6 : w.heap.size ≤ (w6.alloc (.cells #[str r0] 9)).heap.size := HPA.out.below.size
            clear hnx
            go_wp2_with (at_builtin; refine wpList_append_rows rfl _ _ rfl rfl HTA.out rfl HRN.out (by simp; omega) z6 ?_; intro tv' w7 hown hgrow)
            have HP7 := Lib.hid (HPA.out.grownS HTA.out (Nat.le_refl _) hgrow)
            have HC7 := Lib.hid (HCA.out.grownS HTA.out (by decide) hgrow)
            have HT7 := Lib.hid hown
            clear hown hgrow z6
            go_wp2_with fail
            refine Handed.intro (gk - 1) (by omega) (hJ2 _ _ _ ⟨j + 1, v6, tv', _, cap6, D6, X6, T ++ [r0], [], by omega, by omega, by simp; omega, fun _ => rfl, HP7.out, HT7.out, OwnS.none _ _, HC7.out, meet_us (by kernel_rfl)⟩)
          · obtain rfl := HG0.out hg
            subst hg
            have hnx : Below w6.heap.size w6 (w6.alloc (.cells #[str r0] 9)) := (Below.refl _ _).alloc (Nat.le_refl _) _
            have HRN := Lib.hid (own_one w6 r0)
            have HPA := Lib.hid (HP6.out.step hnx)
            have HTA := Lib.hid (HT6.out.step hnx)
            have HGA := Lib.hid (HG6.out.step hnx)
            have HCA := Lib.hid (HC6.out.step hnx)
            have z6 : w.heap.size ≤ (w6.alloc (.cells #[str r0] 9)).heap.size := HPA.out.below.size
            clear hnx
            go_wp2_with (at_builtin; refine wpList_append_rows rfl _ _ rfl rfl HGA.out rfl HRN.out (by simp) z6 ?_; intro gv' w7 hown hgrow)
            have hbn := below_of_none hgrow
            have HP7 := Lib.hid (HPA.out.step hbn)
            have HC7 := Lib.hid (HCA.out.step hbn)
            have HT7 := Lib.hid (HTA.out.step hbn)
            have HG7 := Lib.hid hown
            clear hown hgrow z6 hbn
            go_wp2_with fail
            refine Handed.intro (gk - 1) (by omega) (hJ2 _ _ _ ⟨j + 1, v6, _, gv', cap6, D6, X6, T6, [r0], by omega, by omega, by omega, fun h => absurd h (by simp), HP7.out, HT7.out, HG7.out, HC7.out, meet_us (by kernel_rfl)⟩)
          · skip
            obtain ⟨pg, cg, rfl⟩ := HG6.out.shape
            have hgl : 0 < G6.length := List.length_pos_iff.2 hne
            have hg2 : ((G6.length : Int) == 0) = false := beq_eq_false_iff_ne.2 (by omega)
            have HNE := Lib.hid hne
            clear hne
            go_wp2_with fail
            refine Handed.intro (gk - 1) (by omega) (hJ2 _ _ _ ⟨j + 1, v6, _, _, cap6, D6, X6, T6, G6, by omega, by omega, by omega, fun h => absurd h HNE.out, HP6.out, HT6.out, HG6.out, HC6.out, meet_us (by kernel_rfl)⟩)
        · have i2 : ¬ (j : Int) < 10 := by omega
          go_wp2_with fail
          exact meet_at hJ1 ⟨_, _, _, _, _, _, _, _, .int .i64 (j : Int), by omega, ⟨HP.out.1, HP.out.2.1, HP.out.2.2.1.le (by omega), HP.out.2.2.2.1, HP.out.2.2.2.2.1, HP.out.below, by exact Nat.le_trans HP.out.2.2.2.2.2.2.1 (Nat.mul_le_mul_right 140000 (show 30 * j ≤ 300 by omega)), HP.out.2.2.2.2.2.2.2⟩, HT.out, HG.out, HC.out, meet_us (by kernel_rfl)⟩
      · have i1 : ¬ (j : Int) < (L.length : Int) := by omega
        go_wp2_with fail
        exact meet_at hJ1 ⟨_, _, _, _, _, _, _, _, .int .i64 (j : Int), by omega, ⟨HP.out.1, HP.out.2.1, HP.out.2.2.1.le (by omega), HP.out.2.2.2.1, HP.out.2.2.2.2.1, HP.out.below, by exact Nat.le_trans HP.out.2.2.2.2.2.2.1 (Nat.mul_le_mul_right 140000 (show 30 * j ≤ 300 by omega)), HP.out.2.2.2.2.2.2.2⟩, HT.out, HG.out, HC.out, meet_us (by kernel_rfl)⟩
  · rintro a1 w5 ⟨v, tv, gv, cap, D, X, T, G, iv, hT, hp, ht, hg, hc, us, rfl⟩
    unfold FrW
    rw [← HKV.out] at HKS hc
    have HP := Lib.hid hp
    have HT := Lib.hid ht
    have HG := Lib.hid hg
    have hone := hp.one
    have HAF := Lib.hid (hp.after hT)
    have HON := Lib.hid hone
    have hgl : G.length ≤ 1 := hone.1
    obtain ⟨pg, cg, rfl⟩ := hg.shape
    obtain ⟨pt, ct, rfl⟩ := ht.shape
    obtain ⟨x0, x1, x2, -, -, -⟩ := cells3 hc
    clear hp ht hg hc hone
    go_wp2_with fail
    have hok := HP.out.2.2.1
    have hcap := HP.out.2.2.2.2.2.2.1
    have hwl : D.waits.length ≤ 300 := hok.2.2.2.2.2.1
    have HWT := Lib.hid (show WaitOk D.n D.waits by rw [hok.1]; exact hok.2.2.2.2.2.2.1)
    have HSO := Lib.hid hok.2.2.2.2.2.2.2
    have HDN := Lib.hid hok.1
    have HKP := Lib.hid (KeepIs.ofRead7 HKS.out HP.out.1 HP.out.below HP.out.2.2.2.1)
    have HOK2 := Lib.hid (hok.crash ks ta (cc := (min (max tb 0) 64).toNat) (by omega))
    clear hok
    refine (crash_any _ g gm _ _ _ _ _ ks ta tb HP.out.1 HKP.out HSO.out HWT.out (by rw [HDN.out]; decide) (by omega)).mono ?_
    rintro e w6 ⟨rfl, cap6, hc6, hd6, t6⟩
    have HD6 := Lib.hid hd6
    have HT6 := Lib.hid (HT.out.keepD HP.out.1 t6)
    have HG6 := Lib.hid (HG.out.keepD HP.out.1 t6)
    have HB6 := Lib.hid (HP.out.below.trans (HP.out.1.below t6 HP.out.2.2.2.1 HP.out.below.size))
    obtain ⟨mk, R, hmk, hR, hlive⟩ := HAF.out ks ta (min (max tb 0) 64).toNat (by omega)
    obtain ⟨E, hE⟩ : ∃ E, crashD ks ta (min (max tb 0) 64).toNat D = E := ⟨_, rfl⟩
    have hEw : E.waits = [] := by rw [← hE]; rfl
    have hEa : E.armed = false := by rw [← hE]; rfl
    rw [hE] at hlive HD6 HOK2
    have HL := Lib.hid hlive
    have HEW := Lib.hid hEw
    have HEA := Lib.hid hEa
    have HEN := Lib.hid HOK2.out.1
    have HRS := Lib.hid hR
    have hRl : R.length ≤ 11 := by
      rcases hR with e | e
      · rw [e]; omega
      · rw [e, List.length_append]; omega
    have hcap6 : cap6 ≤ 42000300 := by omega
    have HSM := Lib.hid (show ∀ r ∈ R, r.length ≤ 80 by
      have hsm := HP.out.2.2.2.2.2.2.2.1
      rcases hR with e | e
      · rw [e]; exact hsm
      · rw [e]
        intro r hr
        rcases List.mem_append.1 hr with hr | hr
        · exact hsm r hr
        · exact HON.out.2 r hr)
    clear hd6 t6 hc6 hlive hEw hEa hR hE x0 x1 x2
    go_wp2_with fail
    refine (open_any _ g gm _ _ _ _ HD6.out (by rw [HEN.out]; decide) (by rw [HEN.out]; decide) HOK2.out.2.2.2.2.2.2.2 (by rw [HEN.out]; exact HOK2.out.2.2.2.2.2.2.1) (by rw [HEW.out]; decide) _ HL.out.open).mono ?_
    rintro e w7 ⟨⟨h7, lv, rfl, hh7, hx7, hl7⟩, hb7⟩
    have HT7 := Lib.hid (HT6.out.step hb7)
    have HG7 := Lib.hid (HG6.out.step hb7)
    have HY7 := Lib.hid (show Holds w w7 g gm h7 (.slice none 0 0) cap6 E ⟨mk, finB (recsB R), false⟩ R 30 301 from ⟨HD6.out.step hb7, hx7, HL.out, HOK2.out, HP.out.2.2.2.1, Nat.le_trans HB6.out.size hh7, bel_step HB6.out hb7, by omega⟩)
    have HL7 := Lib.hid (hl7.weak HB6.out.size)
    obtain ⟨pl, cl, rfl⟩ := hl7.shape
    clear hh7 hx7 hl7 hb7
    have hg1 : ¬ 1 < (G.length : Int) := by omega
    have hg2 : decide (1 < (G.length : Int)) = false := by simp; omega
    obtain ⟨u1, hu1⟩ : ∃ u, sameL R T = u := ⟨_, rfl⟩
    obtain ⟨u2, hu2⟩ : ∃ u, sameL R (T ++ G) = u := ⟨_, rfl⟩
    have HU := Lib.hid (show u1 = true ∨ u2 = true by
      rcases HRS.out with e | e
      · left; rw [← hu1, e, sameL_refl]
      · right; rw [← hu2, e, sameL_refl])
    have HU1 := Lib.hid hu1
    have HU2 := Lib.hid hu2
    clear hu1 hu2
    go_wp2_with fail
    refine (same_any _ _ R T _ _ _ HL7.out HT7.out).mono ?_
    rw [HU1.out]
    rintro e w8 ⟨rfl, hb8⟩
    have HY8 := Lib.hid (HY7.out.step hb8)
    have HL8 := Lib.hid (HL7.out.step hb8)
    have HT8 := Lib.hid (HT7.out.step hb8)
    have HG8 := Lib.hid (HG7.out.step hb8)
    have z8 : w.heap.size ≤ w8.heap.size := HY8.out.below.size
    have HN8 := Lib.hid (OwnS.none w8 w8.heap.size)
    clear hb8
    go_wp2_with (at_builtin; first | (refine wpList_append_rows rfl _ _ rfl rfl HN8.out rfl HT8.out (by simp; omega) (Nat.le_refl _) ?_; intro mv w9 hown9 hgrow9; have hbn := below_of_none hgrow9; have z89 : w8.heap.size ≤ w9.heap.size := hbn.size; have HM9 := Lib.hid hown9; have HY9 := Lib.hid (HY8.out.step hbn); have HL9 := Lib.hid (HL8.out.step hbn); have HG9 := Lib.hid (HG8.out.step hbn); clear hbn hown9 hgrow9) | (refine wpList_append_rows rfl _ _ rfl rfl HM9.out rfl HG9.out (by simp; omega) z89 ?_; intro mw w10 hown10 hgrow10; have HM10 := Lib.hid hown10; have HY10 := Lib.hid (HY9.out.grownS HM9.out z8 hgrow10); have HL10 := Lib.hid (OwnS.apart HL8.out HL9.out HM9.out hgrow10); clear hown10 hgrow10))
    obtain ⟨r0, hr0⟩ : ∃ r : List UInt8, [108, 97, 115, 116] = r := ⟨_, rfl⟩
    have hr80 : r0.length ≤ 80 := by rw [← hr0]; decide
    have hst : (Value.string { data := #[108, 97, 115, 116] }) = str r0 := by rw [← hr0]
    clear hr0
    have hm10 : OwnS w10 w8.heap.size mw (T ++ G) := HM10.out
    refine (same_any _ _ R (T ++ G) _ _ _ HL10.out hm10).mono ?_
    rw [HU2.out]
    rintro e w11 ⟨rfl, hb11⟩
    have HY11 := Lib.hid (HY10.out.step hb11)
    have HL11 := Lib.hid (HL10.out.step hb11)
    clear hb11 hm10 z8 z89
    rcases u1 with _ | _
    · obtain rfl : u2 = true := by
        rcases HU.out with e | e
        · cases e
        · exact e
      go_wp2_with fail
      have HRO := Lib.hid (show ((recsB R ++ tRec r0).length : Int) ≤ roomD E by
        have h1 := wh_room HSM.out hRl (r0 := r0) hr80
        have h2 : roomD E = 1792 := by unfold roomD; rw [HEN.out]; decide
        exact Int.le_trans h1 (Int.le_of_eq h2.symm))
      refine (HY11.out.commit (r0 := r0) HEA.out HRO.out (by omega) (show mk.1 < 1000000 by omega) (by omega) (by omega)).mono ?_
      rintro e w12 ⟨rfl, v12, cap12, D12, X12, hp12, har12, -, -, ht12⟩
      have HL12 := Lib.hid (HL11.out.keepL HY11.out.1 ht12 HY11.out.2.1)
      have HP12 := Lib.hid hp12
      have HDN12 := Lib.hid hp12.dn
      have HW12 := Lib.hid hp12.live.waits
      have hc12 : cap12 ≤ 331 * 140000 := hp12.2.2.2.2.2.2.2
      have HO12 := Lib.hid (hp12.2.2.2.1.crash [] 0 (Nat.zero_le 64))
      clear hp12 har12 ht12
      go_wp2_with fail
      refine (crash_any _ g gm _ _ _ _ _ [] 0 0 HP12.out.1 (KeepIs.none _ _ _ _) HP12.out.live.disk.safe HP12.out.live.disk.wait (by rw [HDN12.out]; decide) (by rw [HW12.out]; simp only [List.length_nil]; omega)).mono ?_
      rintro e w13 ⟨rfl, cap13, hc13, hd13, t13⟩
      have HL13 := Lib.hid (HL12.out.keepD HP12.out.1 t13)
      have HD13 := Lib.hid (show IsDev w13 g gm (.slice none 0 0) cap13 gm (crashD [] 0 0 D12) from hd13)
      have HB13 := Lib.hid (HP12.out.below.trans (HP12.out.1.below t13 HP12.out.2.2.2.2.1 HP12.out.below.size))
      clear hd13 t13 hc13
      go_wp2_with fail
      refine (open_any _ g gm _ _ _ _ HD13.out (by rw [HO12.out.1]; decide) (by rw [HO12.out.1]; decide) HO12.out.2.2.2.2.2.2.2 (by rw [HO12.out.1]; exact HO12.out.2.2.2.2.2.2.1) (by show (0 : Nat) < 4611686018427; decide) _ (HP12.out.live.crash [] 0 0).open).mono ?_
      rintro e w14 ⟨⟨h14, nv, rfl, hh14, hx14, hn14⟩, hb14⟩
      obtain ⟨pn, cn, hsh⟩ := hn14.shape
      rw [List.length_append, List.length_singleton] at hsh
      subst hsh
      have hnx : Below w14.heap.size w14 (w14.alloc (.cells #[str r0] 9)) := (Below.refl _ _).alloc (Nat.le_refl _) _
      have HRN := Lib.hid (own_one w14 r0)
      have HNA := Lib.hid (hn14.step hnx)
      have HLA := Lib.hid ((HL13.out.step hb14).step hnx)
      have HBA := Lib.hid (bel_step (bel_step HB13.out hb14) hnx)
      have zA : w.heap.size ≤ (w14.alloc (.cells #[str r0] 9)).heap.size := HBA.out.size
      clear hnx hn14 hb14 hh14 hx14
      go_wp2_with (at_builtin; refine wpList_append_rows rfl _ _ rfl rfl HLA.out rfl HRN.out (by simp; omega) zA ?_; intro qv w15 hown hgrow; have HQ := Lib.hid hown; have HN15 := Lib.hid (OwnS.apart2 HL13.out HNA.out hgrow); have HB15 := Lib.hid (HBA.out.grown hgrow zA (fun k hk => (World.ownsRow.lt HLA.out k hk).1)); clear hown hgrow)
      refine (same_any _ _ (R ++ [r0]) (R ++ [r0]) _ _ _ HN15.out HQ.out).mono ?_
      rw [sameL_refl]
      rintro e w16 ⟨rfl, hb16⟩
      have HB16 := Lib.hid (bel_step HB15.out hb16)
      clear hb16
      go_wp2_with fail
      go_ret
      exact ⟨rfl, HB16.out⟩
    · skip
      go_wp2_with fail
      have HRO := Lib.hid (show ((recsB R ++ tRec r0).length : Int) ≤ roomD E by
        have h1 := wh_room HSM.out hRl (r0 := r0) hr80
        have h2 : roomD E = 1792 := by unfold roomD; rw [HEN.out]; decide
        exact Int.le_trans h1 (Int.le_of_eq h2.symm))
      refine (HY11.out.commit (r0 := r0) HEA.out HRO.out (by omega) (show mk.1 < 1000000 by omega) (by omega) (by omega)).mono ?_
      rintro e w12 ⟨rfl, v12, cap12, D12, X12, hp12, har12, -, -, ht12⟩
      have HL12 := Lib.hid (HL11.out.keepL HY11.out.1 ht12 HY11.out.2.1)
      have HP12 := Lib.hid hp12
      have HDN12 := Lib.hid hp12.dn
      have HW12 := Lib.hid hp12.live.waits
      have hc12 : cap12 ≤ 331 * 140000 := hp12.2.2.2.2.2.2.2
      have HO12 := Lib.hid (hp12.2.2.2.1.crash [] 0 (Nat.zero_le 64))
      clear hp12 har12 ht12
      go_wp2_with fail
      refine (crash_any _ g gm _ _ _ _ _ [] 0 0 HP12.out.1 (KeepIs.none _ _ _ _) HP12.out.live.disk.safe HP12.out.live.disk.wait (by rw [HDN12.out]; decide) (by rw [HW12.out]; simp only [List.length_nil]; omega)).mono ?_
      rintro e w13 ⟨rfl, cap13, hc13, hd13, t13⟩
      have HL13 := Lib.hid (HL12.out.keepD HP12.out.1 t13)
      have HD13 := Lib.hid (show IsDev w13 g gm (.slice none 0 0) cap13 gm (crashD [] 0 0 D12) from hd13)
      have HB13 := Lib.hid (HP12.out.below.trans (HP12.out.1.below t13 HP12.out.2.2.2.2.1 HP12.out.below.size))
      clear hd13 t13 hc13
      go_wp2_with fail
      refine (open_any _ g gm _ _ _ _ HD13.out (by rw [HO12.out.1]; decide) (by rw [HO12.out.1]; decide) HO12.out.2.2.2.2.2.2.2 (by rw [HO12.out.1]; exact HO12.out.2.2.2.2.2.2.1) (by show (0 : Nat) < 4611686018427; decide) _ (HP12.out.live.crash [] 0 0).open).mono ?_
      rintro e w14 ⟨⟨h14, nv, rfl, hh14, hx14, hn14⟩, hb14⟩
      obtain ⟨pn, cn, hsh⟩ := hn14.shape
      rw [List.length_append, List.length_singleton] at hsh
      subst hsh
      have hnx : Below w14.heap.size w14 (w14.alloc (.cells #[str r0] 9)) := (Below.refl _ _).alloc (Nat.le_refl _) _
      have HRN := Lib.hid (own_one w14 r0)
      have HNA := Lib.hid (hn14.step hnx)
      have HLA := Lib.hid ((HL13.out.step hb14).step hnx)
      have HBA := Lib.hid (bel_step (bel_step HB13.out hb14) hnx)
      have zA : w.heap.size ≤ (w14.alloc (.cells #[str r0] 9)).heap.size := HBA.out.size
      clear hnx hn14 hb14 hh14 hx14
      go_wp2_with (at_builtin; refine wpList_append_rows rfl _ _ rfl rfl HLA.out rfl HRN.out (by simp; omega) zA ?_; intro qv w15 hown hgrow; have HQ := Lib.hid hown; have HN15 := Lib.hid (OwnS.apart2 HL13.out HNA.out hgrow); have HB15 := Lib.hid (HBA.out.grown hgrow zA (fun k hk => (World.ownsRow.lt HLA.out k hk).1)); clear hown hgrow)
      refine (same_any _ _ (R ++ [r0]) (R ++ [r0]) _ _ _ HN15.out HQ.out).mono ?_
      rw [sameL_refl]
      rintro e w16 ⟨rfl, hb16⟩
      have HB16 := Lib.hid (bel_step HB15.out hb16)
      clear hb16
      go_wp2_with fail
      go_ret
      exact ⟨rfl, HB16.out⟩
end Go.Proofs.Ytiighehibiijcaa

namespace Go.Proofs.Ytiighehibiijcaa.slotsWholeLaw
open Go.ChangeShapes Go.WideShapes Go.ChangeAt Go.RowKit
open Go.ChangeMaps (open_string shut_string)
set_option linter.unusedVariables false

theorem own : ownKnob Try.prog.godebug = none := by kernel_rfl
theorem laidOut : laidOutB Try.prog = true := by kernel_rfl

set_option maxRecDepth 100000 in
theorem lifted (os : Os) (started : os.Started) (H : Type) (enc : TypeId × Value → H) :
    ReturnsInHanded {} Try.checked os 10 .any (Rows.slotsWholeSpec.pre6 enc Try.prog Try.f10 Rows.slotsWholeRow.domain false) (Rows.slotsWholeSpec.post enc Try.prog Try.f10 false true false false) := by
  refine returnsInHanded_of_change (C := Try.checked) own started (by kernel_rfl) Try.func10
    (ChangeSpec.witness6 (enc := enc) (C := Try.checked) false ⟨#[], #[.slice none 0 0, .int .i64 0, .agg #[.slice none 0 0, .int .i64 0, .int .i64 0]], []⟩ 16 (by kernel_rfl) (by kernel_rfl) (by kernel_rfl) (by kernel_rfl)) ?_
  intro W base args ds gs before hval0 hW hcnd _
  have hval : ∀ (j : Nat) t v, Try.f10.params[j]? = some t → args[j]? = some v → Value.okWide Try.prog W .any base t v := hval0
  have hW' := hW
  obtain ⟨p, q, hA0, hV, rfl, hfz, hnd⟩ := hW
  have hA : DataW.TrodAll enc Try.prog W 0 (fun _ => true) true Try.f10.params.toList args.toList ds p := hA0
  rw [Try.params10] at hA hval
  obtain ⟨v0, vs0, d0, ds0, p0, q0, hargs, rfl, rfl, h0, r0⟩ := trodAll_cons hA
  obtain ⟨v1, vs1, d1, ds1, p1, q1, rfl, rfl, rfl, h1, r1⟩ := trodAll_cons r0
  obtain ⟨v2, vs2, d2, ds2, p2, q2, rfl, rfl, rfl, h2, r2⟩ := trodAll_cons r1
  obtain ⟨rfl, rfl, rfl⟩ := trodAll_nil r2
  obtain rfl : args = #[v0, v1, v2] := by cases args; simp_all
  obtain ⟨rfl, rfl⟩ := trodVars_none hV
  have k0 := h0
  have lt0 : ∀ x ∈ p0, x.block < W.heap.size := by obtain ⟨m, hm⟩ := k0; exact DataW.trod_lt m _ _ _ hm
  have k1 := h1
  have lt1 : ∀ x ∈ p1, x.block < W.heap.size := by obtain ⟨m, hm⟩ := k1; exact DataW.trod_lt m _ _ _ hm
  have k2 := h2
  have lt2 : ∀ x ∈ p2, x.block < W.heap.size := by obtain ⟨m, hm⟩ := k2; exact DataW.trod_lt m _ _ _ hm
  obtain ⟨L0, hL0⟩ := open_strl Try.underlying54 Try.underlying9 (by kernel_rfl) (hval 0 54 v0 rfl rfl) h0
  obtain ⟨a1, rfl, rfl, rfl, w1⟩ := open_int Try.underlying3 (hval 1 3 v1 rfl rfl) h1
  obtain ⟨kv2, ks2, ta2, tb2, rfl, hL2⟩ := open_cut Try.underlying67 (by kernel_rfl) (by kernel_rfl) Try.underlying41 Try.underlying4 (by kernel_rfl) Try.underlying3 Try.underlying3 (hval 2 67 v2 rfl rfl) h2
  clear hA0 hval0
  have hw := slotsWhole_any v0 L0 a1 kv2 ta2 tb2 W hL0 ks2 hL2
  refine hw.mono fun e W' ⟨he, bel⟩ => ?_
  subst he
  exact ⟨_, rfl, _, _, _, [], _, [], hW', trodAll_mk1 (shut_bool Try.underlying4 _), (trodAll_cons_mk (Below.trod laidOut (by kernel_rfl) (of_decide_eq_true (by kernel_rfl)) k0 bel lt0) (trodAll_cons_mk (Below.trod laidOut (by kernel_rfl) (of_decide_eq_true (by kernel_rfl)) k1 bel lt1) (trodAll_cons_mk (Below.trod laidOut (by kernel_rfl) (of_decide_eq_true (by kernel_rfl)) k2 bel lt2) trodAll_mk0))), rfl, bel.frame _, fun h => by cases h⟩

theorem over : Rows.slotsWholeRow.holds Try.pinned (OpenSpec.ofChange Rows.slotsWholeSpec) :=
  OpenClaim.holds_of_wide 10 Try.f10 rfl rfl rfl rfl rfl rfl rfl ⟨rfl, rfl, rfl, rfl, rfl⟩ rfl rfl rfl rfl rfl (by kernel_rfl) Try.func10 (by kernel_rfl)
    (of_decide_eq_true (by kernel_rfl)) (by unfold Func.isWrapper; first | (rw [if_pos (by decide +kernel)]; kernel_rfl) | (rw [if_neg (by decide +kernel)]; exact ⟨rfl, rfl⟩))
    (fun os started H enc _ => lifted os started H enc)

/-- The statement. -/
theorem proved : Rows.SlotsWholeSaid := over
end Go.Proofs.Ytiighehibiijcaa.slotsWholeLaw

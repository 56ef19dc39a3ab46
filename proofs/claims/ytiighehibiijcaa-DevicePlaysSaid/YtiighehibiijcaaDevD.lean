/-
  What the device's closures do: put (of Write), and the two of Flush. No conditions beside those in each theorem.
-/
import Derived.Test.YtiighehibiijcaaDevC
namespace Go.Proofs.Ytiighehibiijcaa
open Go.RowKit
set_option linter.unusedSimpArgs false

/-- The device's row was appended to, and its field not yet set. -/
theorem IsDev.pushed {w w2 : World} {g gm : Nat} {v v2 : Value} {cap B : Nat} {d : Dev} {L : List (Int × List UInt8)} (hd : IsDev w g gm v cap B d) (ho : OwnW w2 B v2 L) (hg : w.grownBy w2 v.ownBlock) :
    Blk w2 g 60 #[.int .i64 d.n, .map (some gm), v, .bool d.on, .bool d.armed, .int .i64 d.left, .int .i64 d.steps] ∧ MapIs w2 gm cap d.safe ∧ OwnW w2 B v2 L ∧ B ≤ g ∧ B ≤ gm :=
  ⟨hd.1.grown hg (hd.2.2.1.ne hd.1 (by decide)).symm, hd.2.1.kept hg (hd.2.1.apart hd.2.2.1).symm, ho, hd.2.2.2.1, hd.2.2.2.2⟩
/-- A store into the device's field of what waits. -/
theorem IsDev.setWaits {w : World} {g gm : Nat} {v v2 : Value} {cap B : Nat} {d : Dev} {L : List (Int × List UInt8)}
    (hd : Blk w g 60 #[.int .i64 d.n, .map (some gm), v, .bool d.on, .bool d.armed, .int .i64 d.left, .int .i64 d.steps] ∧ MapIs w gm cap d.safe ∧ OwnW w B v2 L ∧ B ≤ g ∧ B ≤ gm) :
    IsDev (w.setCell ⟨g, 2, none⟩ v2) g gm v2 cap B { d with waits := L } := by
  have hg := upd_set w g 2 v2
  exact ⟨hd.1.set_ 2 v2, hd.2.1.kept hg (by simpa using fun e => (hd.2.1.ne hd.1) e.symm), hd.2.2.1.grown hg (.inr (hd.2.2.1.ne hd.1 (by decide))), hd.2.2.2.1, hd.2.2.2.2⟩

theorem own_at {v : Value} {gv i n c H : Nat} (hat : v.ownBlock = some gv ∨ gv = H) (h : (Value.slice (some ⟨gv, 0, none⟩) n c).ownBlock = some i) : v.ownBlock = some i ∨ H ≤ i := by
  have hgi : gv = i := by simpa [Value.ownBlock] using h
  subst hgi
  exact hat.imp (fun h => h) (fun h => by omega)
set_option maxRecDepth 100000 in
set_option maxHeartbeats 2000000 in
theorem put_any (w : World) (g gm : Nat) (v : Value) (cap B : Nat) (d : Dev) (bd bk bs : Nat) (k : Int) (s : List UInt8) (hd : IsDev w g gm v cap B d)
    (h1 : Blk w bd 24 #[.pointer (some ⟨g, 0, none⟩)]) (h2 : Blk w bk 3 #[.int .i64 k]) (h3 : Blk w bs 9 #[str s]) (hn : d.waits.length < 5000000000000) :
    Calls Try.prog 49 #[.pointer (some ⟨bd, 0, none⟩), .pointer (some ⟨bk, 0, none⟩), .pointer (some ⟨bs, 0, none⟩)] w fun e w' => e = .returned (.tuple #[]) ∧ ∃ v', IsDev w' g gm v' cap B { d with waits := d.waits ++ [(k, s)] } ∧ Touch g gm w v w' v' := by
  obtain ⟨i0, hi, hz0, hz1, hz2⟩ : ∃ i, Try.prog.info? 91 = some i ∧ i.zero = some (.agg #[.int .i64 0, .string ByteArray.empty]) ∧ i.size = 2 ∧ i.bytes = 24 := info_parts (by kernel_rfl)
  have HD := Lib.hid hd
  have HB1 := Lib.hid h1
  have HB2 := Lib.hid h2
  have HB3 := Lib.hid h3
  clear hd h1 h2 h3
  go_enter Try.func49, Try.ntmps49
  go_wp2_with fail
  refine until_begin 12 (fun w' => w'.cell? ⟨bd, 0, none⟩ = some (.pointer (some ⟨g, 0, none⟩)) ∧ w'.cell? ⟨bk, 0, none⟩ = some (.int .i64 k) ∧ w'.cell? ⟨bs, 0, none⟩ = some (str s) ∧ w'.cell? ⟨g, 2, none⟩ = some v) (by kernel_rfl) ⟨HB1.out.cell 0, HB2.out.cell 0, HB3.out.cell 0, HD.out.1.cell 2⟩ (fun hS => ?_)
  refine until_take 0 (some 3) (u := ?_) rfl rfl (by kernel_rfl) (by kernel_rfl) (by kernel_rfl) (by kernel_rfl) (fun _ _ _ h => h) (by rfl) (fun wS hv => ?_) hS ?_
  rotate_left
  · obtain ⟨k1, k2, k3, k4⟩ := hv
    go_simp
    all_goals with_reducible rfl
  try simp only [Act.put, List.setIfInBounds_toArray, List.set]
  refine until_take 1 (some 4) (u := ?_) rfl rfl (by kernel_rfl) (by kernel_rfl) (by kernel_rfl) (by kernel_rfl) (fun _ _ _ h => h) (by rfl) (fun wS hv => ?_) hS ?_
  rotate_left
  · obtain ⟨k1, k2, k3, k4⟩ := hv
    go_simp
    all_goals with_reducible rfl
  try simp only [Act.put, List.setIfInBounds_toArray, List.set]
  refine until_take 2 (some 5) (u := ?_) rfl rfl (by kernel_rfl) (by kernel_rfl) (by kernel_rfl) (by kernel_rfl) (fun _ _ _ h => h) (by rfl) (fun wS hv => ?_) hS ?_
  rotate_left
  · clear hv
    go_simp
    all_goals with_reducible rfl
  try simp only [Act.put, List.setIfInBounds_toArray, List.set]
  refine until_take 3 (some 6) (u := ?_) rfl rfl (by kernel_rfl) (by kernel_rfl) (by kernel_rfl) (by kernel_rfl) (fun _ _ _ h => h) (by rfl) (fun wS hv => ?_) hS ?_
  rotate_left
  · clear hv
    go_simp
    all_goals with_reducible rfl
  try simp only [Act.put, List.setIfInBounds_toArray, List.set]
  refine until_take 4 (some 7) (u := ?_) rfl rfl (by kernel_rfl) (by kernel_rfl) (by kernel_rfl) (by kernel_rfl) (fun _ _ _ h => h) (by rfl) (fun wS hv => ?_) hS ?_
  rotate_left
  · obtain ⟨k1, k2, k3, k4⟩ := hv
    go_simp
    all_goals with_reducible rfl
  try simp only [Act.put, List.setIfInBounds_toArray, List.set]
  refine until_take 5 (some 8) (u := ?_) rfl rfl (by kernel_rfl) (by kernel_rfl) (by kernel_rfl) (by kernel_rfl) (fun _ _ _ h => h) (by rfl) (fun wS hv => ?_) hS ?_
  rotate_left
  · obtain ⟨k1, k2, k3, k4⟩ := hv
    go_simp
    all_goals with_reducible rfl
  try simp only [Act.put, List.setIfInBounds_toArray, List.set]
  refine until_take 6 (some 9) (u := ?_) rfl rfl (by kernel_rfl) (by kernel_rfl) (by kernel_rfl) (by kernel_rfl) (fun _ _ _ h => h) (by rfl) (fun wS hv => ?_) hS ?_
  rotate_left
  · obtain ⟨k1, k2, k3, k4⟩ := hv
    go_simp
    all_goals with_reducible rfl
  try simp only [Act.put, List.setIfInBounds_toArray, List.set]
  refine until_take 7 (some 10) (u := ?_) rfl rfl (by kernel_rfl) (by kernel_rfl) (by kernel_rfl) (by kernel_rfl) (fun _ _ _ h => h) (by rfl) (fun wS hv => ?_) hS ?_
  rotate_left
  · clear hv
    go_simp
    all_goals with_reducible rfl
  try simp only [Act.put, List.setIfInBounds_toArray, List.set]
  refine until_one 8 (by kernel_rfl) rfl (fun K hK => ?_)
  refine step_value (d := some 11) (by rfl) rfl (r := .slice (some ⟨w.heap.size, 0, none⟩) 1 1) (w1 := w.drew.alloc (.cells #[.int .i64 k, str s] 91)) (by go_simp) ?_
  refine hK.out _ _ ⟨(Blk.alloc HB1.out.drew _).cell 0, (Blk.alloc HB2.out.drew _).cell 0, (Blk.alloc HB3.out.drew _).cell 0, (Blk.alloc HD.out.1.drew _).cell 2⟩ (fun hS => ?_)
  clear hK K
  try simp only [Act.put, List.setIfInBounds_toArray, List.set]
  refine until_one 9 (by kernel_rfl) rfl (fun K hK => ?_)
  have HO1 : OwnW (w.drew.alloc (.cells #[.int .i64 k, str s] 91)) B v d.waits := OwnW.alloc (show OwnW w.drew B v d.waits from HD.out.2.2.1) _
  have hN : Blk (w.drew.alloc (.cells #[.int .i64 k, str s] 91)) w.heap.size 91 #[.int .i64 k, str s] := Blk.new _ _ _
  refine step_append_lies _ rfl (.tmp 7) (.tmp 11) 37 rfl B 91 i0 (.agg #[.int .i64 0, .string ByteArray.empty]) 2 24 Try.underlying37 hi hz0 hz1 hz2 rfl (by decide) v d.waits.length (wcells d.waits) rfl HO1 ⟨w.heap.size, 0, none⟩ 1 1 [.int .i64 k, str s] rfl rfl (World.news_of_block hN) (by simp [Value.oneCell']) (by decide) (by unfold maxLen; omega) (by omega) (by simp; have := HD.out.1.lt; have := HD.out.2.2.2.1; omega) _ rfl ?_
  intro gv c2 w2 hown hgrow hat hlt
  have hd2 : IsDev (w.drew.alloc (.cells #[.int .i64 k, str s] 91)) g gm v cap B d := HD.out.step (((Below.refl w.heap.size w).drew).alloc (Nat.le_refl _) _)
  have t1 : Touch g gm w v (w.drew.alloc (.cells #[.int .i64 k, str s] 91)) v := Touch.of_below (((Below.refl w.heap.size w).drew).alloc (Nat.le_refl _) _)
  have HD2 := Lib.hid (IsDev.pushed hd2 (OwnW.push hown) hgrow)
  have HB4 := Lib.hid ((Blk.alloc HB1.out.drew (.cells #[.int .i64 k, str s] 91)).grown hgrow (OwnW.ne HO1 (Blk.alloc HB1.out.drew _) (by decide)).symm)
  have HB5 := Lib.hid ((Blk.alloc HB2.out.drew (.cells #[.int .i64 k, str s] 91)).grown hgrow (OwnW.ne HO1 (Blk.alloc HB2.out.drew _) (by decide)).symm)
  have HB6 := Lib.hid ((Blk.alloc HB3.out.drew (.cells #[.int .i64 k, str s] 91)).grown hgrow (OwnW.ne HO1 (Blk.alloc HB3.out.drew _) (by decide)).symm)
  have t2 : Touch g gm w v w2 (.slice (some ⟨gv, 0, none⟩) (d.waits.length + 1) c2) := t1.trans (Touch.of_own hgrow (fun i hi => own_at hat hi))
  have HT := Lib.hid t2
  clear hown hgrow hat hd2 t1 t2 hN HO1
  refine hK.out _ _ ⟨HB4.out.cell 0, HB5.out.cell 0, HB6.out.cell 0, HD2.out.1.cell 2⟩ (fun hS => ?_)
  clear hK K
  try simp only [Act.put, List.setIfInBounds_toArray, List.set]
  refine until_one 10 (by kernel_rfl) rfl (fun K hK => ?_)
  refine step_value (d := some 13) (by rfl) rfl (r := .pointer (some ⟨g, 0, none⟩)) (w1 := w2) (by go_simp) ?_
  refine hK.out _ _ hS (fun hS => ?_)
  clear hK K
  try simp only [Act.put, List.setIfInBounds_toArray, List.set]
  refine until_take 11 (some 14) (u := ?_) rfl rfl (by kernel_rfl) (by kernel_rfl) (by kernel_rfl) (by kernel_rfl) (fun _ _ _ h => h) (by rfl) (fun wS hv => ?_) hS ?_
  rotate_left
  · clear hv
    go_simp
    all_goals with_reducible rfl
  try simp only [Act.put, List.setIfInBounds_toArray, List.set]
  refine until_last (by kernel_rfl) rfl (by kernel_rfl) (fun K hK => ?_)
  have q0 := HD2.out.1.frozen 2
  go_simp
  refine hK.out _ _ ?_
  clear hK K
  clear hS
  have hd3 := IsDev.setWaits HD2.out
  have ht3 := HT.out.trans (Touch.of_grown (g := g) (gm := gm) (v := .slice (some ⟨gv, 0, none⟩) (d.waits.length + 1) c2) (upd_set w2 g 2 (.slice (some ⟨gv, 0, none⟩) (d.waits.length + 1) c2)) (.inl rfl))
  generalize w2.setCell ⟨g, 2, none⟩ (.slice (some ⟨gv, 0, none⟩) (d.waits.length + 1) c2) = w3 at *
  go_wp2
  go_end0
  exact ⟨rfl, _, hd3, ht3⟩
end Go.Proofs.Ytiighehibiijcaa

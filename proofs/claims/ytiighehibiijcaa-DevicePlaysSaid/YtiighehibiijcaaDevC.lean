/-
  What keep does: a sector is safe from now on. No conditions beside those in each theorem.
-/
import Derived.Test.YtiighehibiijcaaDevB
namespace Go.Proofs.Ytiighehibiijcaa
open Go.RowKit

theorem step_value {d : Option Tmp} {P : Program} {ops : Array Oper} {o : Oper} {a : Act} {w w1 : World} {r : Value} {K : Act → World → Prop} {Q : Exit → Act → World → Prop} {E : Prop} (hw : Region.wanted o (yielded ops a.tmps) = true)
    (hd : o.dst = d) (hrun : (execOp a.eval o).run P w = .ok (.value r) w1) (hK : K (a.put d r) w1) : if Region.wanted o (yielded ops a.tmps) = true then Oper.wp P o a w K Q else E := by
  rw [if_pos hw]
  unfold Oper.wp
  rw [hrun]
  subst hd
  exact hK
theorem IsDev.mapped {w w' : World} {g gm : Nat} {v : Value} {cap cap' B : Nat} {d : Dev} {F : Int → Option (List UInt8)} (hd : IsDev w g gm v cap B d) (hm : MapIs w' gm cap' F) (hg : w.grownBy w' (some gm)) :
    IsDev w' g gm v cap' B { d with safe := F } ∧ Touch g gm w v w' v :=
  ⟨⟨hd.1.grown hg (by simpa using hd.2.1.ne hd.1), hm, hd.2.2.1.grown hg (.inr (hd.2.1.apart hd.2.2.1)), hd.2.2.2.1, hd.2.2.2.2⟩, Touch.of_grown hg (.inr (.inl rfl))⟩
/-- A sector is safe from now on; of one that is zero nothing is kept. -/
def keepD (d : Dev) (k : Int) (s : List UInt8) : Dev := { d with safe := if (s == zero64) = true then delF (setF d.safe k s) k else setF d.safe k s }

set_option maxRecDepth 100000 in
set_option maxHeartbeats 2000000 in
theorem keep_any (w : World) (g gm : Nat) (v : Value) (cap B : Nat) (d : Dev) (k : Int) (s : List UInt8) (hd : IsDev w g gm v cap B d) (hk : (Lit.int .i64 k).wf = true) (hs : s.length ≤ maxLen) (hc : cap < maxLen) :
    Calls Try.prog 52 #[.pointer (some ⟨g, 0, none⟩), .agg #[.int .i64 k, str s]] w fun e w' => e = .returned (.tuple #[]) ∧ IsDev w' g gm v (cap + 1) B (keepD d k s) ∧ Touch g gm w v w' v := by
  obtain ⟨u, hu⟩ : ∃ u, (s == zero64) = u := ⟨_, rfl⟩
  unfold keepD
  rw [hu]
  have HU := Lib.hid hu
  have HD := Lib.hid hd
  clear hu hd
  go_enter Try.func52, Try.ntmps52
  go_wp2_with fail
  have HD1 := Lib.hid (HD.out.step ((Below.refl w.heap.size w).alloc (Nat.le_refl _) (.cells #[.int .i64 k, str s] 91)))
  have T1 : Touch g gm w v (w.alloc (.cells #[.int .i64 k, str s] 91)) v := Touch.of_below ((Below.refl w.heap.size w).alloc (Nat.le_refl _) _)
  have X1 := Lib.hid (Blk.new w 91 #[.int .i64 k, str s])
  generalize w.alloc (.cells #[.int .i64 k, str s] 91) = w1 at *
  generalize w.heap.size = x at *
  obtain ⟨-, c1, -⟩ := dev_cells HD1.out
  have x0 : w1.cell? ⟨x, 0, none⟩ = some (.int .i64 k) := X1.out.cell 0
  have x1 : w1.cell? ⟨x, 1, none⟩ = some (str s) := X1.out.cell 1
  refine until_begin 8 (fun w' => w'.cell? ⟨g, 1, none⟩ = some (.map (some gm)) ∧ w'.cell? ⟨x, 0, none⟩ = some (.int .i64 k) ∧ w'.cell? ⟨x, 1, none⟩ = some (str s)) (by kernel_rfl) ⟨c1, x0, x1⟩ (fun hS => ?_)
  refine until_take 0 (some 4) (u := ?_) rfl rfl (by kernel_rfl) (by kernel_rfl) (by kernel_rfl) (by kernel_rfl) (fun _ _ _ h => h) (by rfl) (fun wS hv => ?_) hS ?_
  rotate_left
  · clear hv
    go_simp
    all_goals with_reducible rfl
  try simp only [Act.put, List.setIfInBounds_toArray, List.set]
  refine until_take 1 (some 5) (u := ?_) rfl rfl (by kernel_rfl) (by kernel_rfl) (by kernel_rfl) (by kernel_rfl) (fun _ _ _ h => h) (by rfl) (fun wS hv => ?_) hS ?_
  rotate_left
  · clear hv
    go_simp
    all_goals with_reducible rfl
  try simp only [Act.put, List.setIfInBounds_toArray, List.set]
  refine until_take 2 (some 6) (u := ?_) rfl rfl (by kernel_rfl) (by kernel_rfl) (by kernel_rfl) (by kernel_rfl) (fun _ _ _ h => h) (by rfl) (fun wS hv => ?_) hS ?_
  rotate_left
  · clear hv
    go_simp
    all_goals with_reducible rfl
  try simp only [Act.put, List.setIfInBounds_toArray, List.set]
  refine until_take 3 (some 7) (u := ?_) rfl rfl (by kernel_rfl) (by kernel_rfl) (by kernel_rfl) (by kernel_rfl) (fun _ _ _ h => h) (by rfl) (fun wS hv => ?_) hS ?_
  rotate_left
  · obtain ⟨k1, k2, k3⟩ := hv
    go_simp
    all_goals with_reducible rfl
  try simp only [Act.put, List.setIfInBounds_toArray, List.set]
  refine until_take 4 (some 8) (u := ?_) rfl rfl (by kernel_rfl) (by kernel_rfl) (by kernel_rfl) (by kernel_rfl) (fun _ _ _ h => h) (by rfl) (fun wS hv => ?_) hS ?_
  rotate_left
  · clear hv
    go_simp
    all_goals with_reducible rfl
  try simp only [Act.put, List.setIfInBounds_toArray, List.set]
  refine until_take 5 (some 9) (u := ?_) rfl rfl (by kernel_rfl) (by kernel_rfl) (by kernel_rfl) (by kernel_rfl) (fun _ _ _ h => h) (by rfl) (fun wS hv => ?_) hS ?_
  rotate_left
  · obtain ⟨k1, k2, k3⟩ := hv
    go_simp
    all_goals with_reducible rfl
  try simp only [Act.put, List.setIfInBounds_toArray, List.set]
  refine until_take 6 (some 10) (u := ?_) rfl rfl (by kernel_rfl) (by kernel_rfl) (by kernel_rfl) (by kernel_rfl) (fun _ _ _ h => h) (by rfl) (fun wS hv => ?_) hS ?_
  rotate_left
  · clear hv
    go_simp
    all_goals with_reducible rfl
  try simp only [Act.put, List.setIfInBounds_toArray, List.set]
  refine until_take 7 (some 11) (u := ?_) rfl rfl (by kernel_rfl) (by kernel_rfl) (by kernel_rfl) (by kernel_rfl) (fun _ _ _ h => h) (by rfl) (fun wS hv => ?_) hS ?_
  rotate_left
  · obtain ⟨k1, k2, k3⟩ := hv
    go_simp
    all_goals with_reducible rfl
  try simp only [Act.put, List.setIfInBounds_toArray, List.set]
  refine until_last (by kernel_rfl) rfl (by kernel_rfl) (fun K hK => ?_)
  obtain ⟨w2, hrun, hm2, hg2⟩ := MapIs.store (show MapIs w1.drew gm cap d.safe from HD1.out.2.1) hk hs hc
  refine step_mapStore rfl rfl (.tmp 7) (.tmp 9) (.tmp 11) 58 rfl rfl rfl rfl hrun ?_
  refine hK.out _ _ ?_
  clear hK K hrun
  obtain ⟨hd2, t2⟩ := IsDev.mapped (w := w1.drew) HD1.out hm2 hg2
  have HD2 := Lib.hid hd2
  have T2 := T1.drew.trans t2
  have X2 := Lib.hid (X1.out.drew.grown hg2 (by simpa using HD1.out.2.1.ne X1.out))
  clear hd2 t2 T1 hm2 hg2 X1 HD1 c1 x0 x1 hS
  obtain ⟨-, y1, -⟩ := dev_cells HD2.out
  have y2 : w2.cell? ⟨x, 0, none⟩ = some (.int .i64 k) := X2.out.cell 0
  have y3 : w2.cell? ⟨x, 1, none⟩ = some (str s) := X2.out.cell 1
  have l1 : g < w2.heap.size := HD2.out.1.lt
  have l2 : x < w2.heap.size := X2.out.lt
  go_wp2_with fail
  refine until_begin 5 (fun w' => w'.cell? ⟨g, 1, none⟩ = some (.map (some gm)) ∧ w'.cell? ⟨x, 0, none⟩ = some (.int .i64 k) ∧ w'.cell? ⟨x, 1, none⟩ = some (str s)) (by kernel_rfl) ⟨y1, y2, y3⟩ (fun hS => ?_)
  refine until_take 0 (some 12) (u := ?_) rfl rfl (by kernel_rfl) (by kernel_rfl) (by kernel_rfl) (by kernel_rfl) (fun _ _ _ h => h) (by rfl) (fun wS hv => ?_) hS ?_
  rotate_left
  · clear hv
    go_simp
    all_goals with_reducible rfl
  try simp only [Act.put, List.setIfInBounds_toArray, List.set]
  refine until_take 1 (some 13) (u := ?_) rfl rfl (by kernel_rfl) (by kernel_rfl) (by kernel_rfl) (by kernel_rfl) (fun _ _ _ h => h) (by rfl) (fun wS hv => ?_) hS ?_
  rotate_left
  · obtain ⟨k1, k2, k3⟩ := hv
    go_simp
    all_goals with_reducible rfl
  try simp only [Act.put, List.setIfInBounds_toArray, List.set]
  refine until_one 2 (by kernel_rfl) rfl (fun K hK => ?_)
  refine step_value (d := some 14) (by rfl) rfl (r := .slice (some ⟨w2.heap.size, 0, none⟩) 64 64) (w1 := w2.drew.alloc (.cells row64 5)) (by simp [execOp, Act.eval, make64, Result.andThen]) ?_
  refine hK.out _ _ ⟨(World.cell?_alloc_lt _ _ _ l1).trans y1, (World.cell?_alloc_lt _ _ _ l2).trans y2, (World.cell?_alloc_lt _ _ _ l2).trans y3⟩ (fun hS => ?_)
  clear hK K
  try simp only [Act.put, List.setIfInBounds_toArray, List.set]
  refine until_one 3 (by kernel_rfl) rfl (fun K hK => ?_)
  have kc : (convert 40 9 (.slice (some ⟨w2.heap.size, 0, none⟩) 64 64)).run Try.prog (w2.alloc (.cells row64 5)).drew = .ok (str zero64) (w2.alloc (.cells row64 5)).drew := conv64 w2.drew
  go_simp
  refine hK.out _ _ hS (fun hS => ?_)
  clear hK K
  try simp only [Act.put, List.setIfInBounds_toArray, List.set]
  refine until_take 4 (some 16) (u := ?_) rfl rfl (by kernel_rfl) (by kernel_rfl) (by kernel_rfl) (by kernel_rfl) (fun _ _ _ h => h) (by rfl) (fun wS hv => ?_) hS ?_
  rotate_left
  · clear hv
    go_simp
    all_goals with_reducible rfl
  try simp only [Act.put, List.setIfInBounds_toArray, List.set]
  refine until_done (by kernel_rfl) ?_
  have b3 : Below w2.heap.size w2 (w2.alloc (.cells row64 5)).drew := ((Below.refl w2.heap.size w2).alloc (Nat.le_refl _) _).drew
  have HD3 := Lib.hid (HD2.out.step b3)
  have T3 := T2.trans (Touch.of_below b3)
  have X3 := Lib.hid (X2.out.step b3)
  clear kc hS b3 T2 X2 HD2 y1 y2 y3 l1 l2
  generalize (w2.alloc (.cells row64 5)).drew = w3 at *
  rw [HU.out]
  cases u
  · go_wp2
    go_end0
    exact ⟨rfl, HD3.out, T3⟩
  · obtain ⟨-, z1, -⟩ := dev_cells HD3.out
    have z2 : w3.cell? ⟨x, 0, none⟩ = some (.int .i64 k) := X3.out.cell 0
    have z3 : w3.cell? ⟨x, 1, none⟩ = some (str s) := X3.out.cell 1
    go_wp2_with fail
    refine until_begin 7 (fun w' => w'.cell? ⟨g, 1, none⟩ = some (.map (some gm)) ∧ w'.cell? ⟨x, 0, none⟩ = some (.int .i64 k) ∧ w'.cell? ⟨x, 1, none⟩ = some (str s)) (by kernel_rfl) ⟨z1, z2, z3⟩ (fun hS => ?_)
    refine until_take 0 (some 17) (u := ?_) rfl rfl (by kernel_rfl) (by kernel_rfl) (by kernel_rfl) (by kernel_rfl) (fun _ _ _ h => h) (by rfl) (fun wS hv => ?_) hS ?_
    rotate_left
    · clear hv
      go_simp
      all_goals with_reducible rfl
    try simp only [Act.put, List.setIfInBounds_toArray, List.set]
    refine until_take 1 (some 18) (u := ?_) rfl rfl (by kernel_rfl) (by kernel_rfl) (by kernel_rfl) (by kernel_rfl) (fun _ _ _ h => h) (by rfl) (fun wS hv => ?_) hS ?_
    rotate_left
    · clear hv
      go_simp
      all_goals with_reducible rfl
    try simp only [Act.put, List.setIfInBounds_toArray, List.set]
    refine until_take 2 (some 19) (u := ?_) rfl rfl (by kernel_rfl) (by kernel_rfl) (by kernel_rfl) (by kernel_rfl) (fun _ _ _ h => h) (by rfl) (fun wS hv => ?_) hS ?_
    rotate_left
    · clear hv
      go_simp
      all_goals with_reducible rfl
    try simp only [Act.put, List.setIfInBounds_toArray, List.set]
    refine until_take 3 (some 20) (u := ?_) rfl rfl (by kernel_rfl) (by kernel_rfl) (by kernel_rfl) (by kernel_rfl) (fun _ _ _ h => h) (by rfl) (fun wS hv => ?_) hS ?_
    rotate_left
    · obtain ⟨k1, k2, k3⟩ := hv
      go_simp
      all_goals with_reducible rfl
    try simp only [Act.put, List.setIfInBounds_toArray, List.set]
    refine until_take 4 (some 21) (u := ?_) rfl rfl (by kernel_rfl) (by kernel_rfl) (by kernel_rfl) (by kernel_rfl) (fun _ _ _ h => h) (by rfl) (fun wS hv => ?_) hS ?_
    rotate_left
    · clear hv
      go_simp
      all_goals with_reducible rfl
    try simp only [Act.put, List.setIfInBounds_toArray, List.set]
    refine until_take 5 (some 22) (u := ?_) rfl rfl (by kernel_rfl) (by kernel_rfl) (by kernel_rfl) (by kernel_rfl) (fun _ _ _ h => h) (by rfl) (fun wS hv => ?_) hS ?_
    rotate_left
    · obtain ⟨k1, k2, k3⟩ := hv
      go_simp
      all_goals with_reducible rfl
    try simp only [Act.put, List.setIfInBounds_toArray, List.set]
    refine until_one 6 (by kernel_rfl) rfl (fun K hK => ?_)
    obtain ⟨w4, hrun, hm4, hg4⟩ := MapIs.drop (show MapIs w3.drew gm (cap + 1) (setF d.safe k s) from HD3.out.2.1) hk 0
    refine step_mapDrop rfl rfl (.tmp 20) (.tmp 22) 58 3 rfl rfl rfl hrun ?_
    refine hK.out _ _ ⟨((HD3.out.1.drew.grown hg4 (by simpa using HD3.out.2.1.ne HD3.out.1)).cell 1), ((X3.out.drew.grown hg4 (by simpa using HD3.out.2.1.ne X3.out)).cell 0), ((X3.out.drew.grown hg4 (by simpa using HD3.out.2.1.ne X3.out)).cell 1)⟩ (fun hS => ?_)
    clear hK K
    try simp only [Act.put, List.setIfInBounds_toArray, List.set]
    refine until_done (by kernel_rfl) ?_
    obtain ⟨hd4, t4⟩ := IsDev.mapped (w := w3.drew) HD3.out hm4 hg4
    go_wp2
    go_end0
    exact ⟨rfl, hd4, T3.drew.trans t4⟩
end Go.Proofs.Ytiighehibiijcaa

/-
  A mark's sector is unpacked as it was packed; torn over that of another Epoch it is the one, the other, or none. For numbers from 0 to 2^40.
  What Open finds on a device whose marks and sectors hold records, as plain Lean. For devices of 3 to 4096 sectors.
  What the four steps of a commit do to a device, as plain Lean: which sectors are written, and what they hold. No conditions beside those in each theorem.
  What a commit leaves on its device, and what Open finds there behind it, or behind a crash in the midst of it, as plain Lean. For devices of 3 to 4096 sectors.
  A commit on an open log: OK, and its records are there; or power went, and behind any crash there are just the records ahead of it, or these and its own. For devices of 3 to 4096 sectors.
  A new device's log; a crash of a device on which nothing waits; what is left alone by a call on a log. No conditions beside those in each theorem.
  What short of the statements' layer 7 returns; some marks' sectors; what a new device's log is behind one commit. No conditions beside those in each theorem.
  awake of the statements' layer 7 returns true. No conditions.
-/
import Derived.Test.YtiighehibiijcaaMg4
namespace Go.Proofs.Ytiighehibiijcaa
open Go.RowKit
set_option linter.unusedSimpArgs false
set_option linter.unnecessarySimpa false
set_option linter.unusedVariables false

def bigN (n k : Nat) : List UInt8 := (List.range k).map fun i => UInt8.ofNat (n / 256 ^ (k - 1 - i) % 256)
theorem bigN_length (n k : Nat) : (bigN n k).length = k := by simp [bigN]
theorem bigN_snoc (n k : Nat) : bigN n (k + 1) = bigN (n / 256) k ++ [UInt8.ofNat (n % 256)] := by
  refine List.ext_getElem (by simp [bigN]) fun i h1 h2 => ?_
  have hi : i < k + 1 := by simpa [bigN] using h1
  by_cases h : i < k
  · rw [List.getElem_append_left (by simpa [bigN] using h)]
    simp only [bigN, List.getElem_map, List.getElem_range]
    rw [Nat.div_div_eq_div_mul, ← Nat.pow_succ', show (k - 1 - i).succ = k + 1 - 1 - i by omega]
  · obtain rfl : i = k := by omega
    rw [List.getElem_append_right (by simp [bigN])]
    simp [bigN]
theorem val_bigN : ∀ (k n : Nat), val (bigN n k) = n % 256 ^ k := by
  intro k
  induction k with
  | zero => intro n; simp [bigN, val, Nat.mod_one]
  | succ k ih =>
    intro n
    rw [bigN_snoc, val_snoc, ih, UInt8.toNat_ofNat', show (2 : Nat) ^ 8 = 256 from rfl]
    have h := @Nat.mod_mul 256 (256 ^ k) n
    rw [Nat.pow_succ', h]
    omega
theorem byteR_nat (n r : Nat) : byteR (n : Int) r = UInt8.ofNat (n / 256 ^ r % 256) := by
  unfold byteR byt
  have h1 : max (n : Int) 0 = n := by omega
  have h2 : (2 : Nat) ^ (8 * r) = 256 ^ r := by rw [Nat.pow_mul]
  have h3 : ((n : Int) / 2 ^ (8 * r) % 256) = ((n / 256 ^ r % 256 : Nat) : Int) := by
    rw [← h2, Int.natCast_emod, Int.natCast_ediv, Int.natCast_pow]; rfl
  rw [h1, h3, Int.toNat_natCast]
theorem packS_length (e b c : Int) : (packS e b c).length = 64 := by simp [packS, packL_length]
theorem packS_head (e b c : Int) : (packS e b c).take 8 = (packL (markN e b c) 3 0).take 8 := by
  unfold packS
  rw [List.take_append_of_le_length (by simp [packL_length]), List.take_take]
  rfl
theorem packS_ends (e b c : Int) : (packS e b c).take 8 = (packS e b c).drop 56 := by
  rw [packS_head]
  unfold packS
  rw [List.drop_append, List.drop_eq_nil_of_le (by simp [packL_length])]
  simp [packL_length]
theorem numT_packS (e b c j : Nat) (hj : j < 3) : numT (packS e b c) j = bigN (if j = 0 then e else if j = 1 then b else c) 8 := by
  refine List.ext_getElem? fun i => ?_
  by_cases hi : i < 8
  · have hm : markN (e : Int) b c j = ((if j = 0 then e else if j = 1 then b else c : Nat) : Int) := by
      unfold markN
      split
      · rfl
      · split <;> rfl
    have h1 : (packL (markN (e : Int) b c) 3 0)[j * 8 + i]? = some (packAt (markN (e : Int) b c) 3 0 (j * 8 + i)) := by
      rw [List.getElem?_eq_getElem (by rw [packL_length]; omega), packL_at]
    have h2 : (bigN (if j = 0 then e else if j = 1 then b else c) 8)[i]? = some (UInt8.ofNat ((if j = 0 then e else if j = 1 then b else c) / 256 ^ (8 - 1 - i) % 256)) := by
      rw [List.getElem?_eq_getElem (by rw [bigN_length]; exact hi)]
      simp only [bigN, List.getElem_map, List.getElem_range]
    rw [h2]
    unfold numT packS
    rw [List.getElem?_take_of_lt hi, List.getElem?_drop, List.getElem?_append_left (by rw [List.length_take, packL_length]; omega), List.getElem?_take_of_lt (by omega), h1]
    unfold packAt
    rw [if_pos (by omega), show (j * 8 + i) / 8 = j by omega, show (j * 8 + i) % 8 = i by omega, hm, byteR_nat]
  · rw [List.getElem?_eq_none (by rw [numT_length (packS_length _ _ _) hj]; omega), List.getElem?_eq_none (by rw [bigN_length]; omega)]
theorem numAt_packS (e b c j : Nat) (hj : j < 3) (he : e ≤ 1099511627776) (hb : b ≤ 1099511627776) (hc : c ≤ 1099511627776) : numAt (packS e b c) j = if j = 0 then e else if j = 1 then b else c := by
  unfold numAt
  rw [numT_packS e b c j hj, val_bigN, Nat.mod_eq_of_lt]
  have h8 : (256 : Nat) ^ 8 = 18446744073709551616 := by decide
  rw [h8]
  split
  · omega
  · split <;> omega
/-- The numbers of a mark that can be packed. -/
def MkOk (m : Mk) : Prop := 0 ≤ m.1 ∧ m.1 ≤ 1099511627776 ∧ 0 ≤ m.2.1 ∧ m.2.1 ≤ 1099511627776 ∧ 0 ≤ m.2.2 ∧ m.2.2 ≤ 1099511627776
theorem unpack_pack {m : Mk} (h : MkOk m) : unpackR (packS m.1 m.2.1 m.2.2) = (m, true) := by
  obtain ⟨e, b, c⟩ := m
  obtain ⟨a1, a2, a3, a4, a5, a6⟩ := h
  simp only [] at a1 a2 a3 a4 a5 a6
  obtain ⟨e, rfl⟩ := Int.eq_ofNat_of_zero_le a1
  obtain ⟨b, rfl⟩ := Int.eq_ofNat_of_zero_le a3
  obtain ⟨c, rfl⟩ := Int.eq_ofNat_of_zero_le a5
  have n0 := numAt_packS e b c 0 (by omega) (by omega) (by omega) (by omega)
  have n1 := numAt_packS e b c 1 (by omega) (by omega) (by omega) (by omega)
  have n2 := numAt_packS e b c 2 (by omega) (by omega) (by omega) (by omega)
  simp only [if_true, if_false, (by decide : (1 : Nat) = 0 ↔ False), (by decide : (2 : Nat) = 0 ↔ False), (by decide : (2 : Nat) = 1 ↔ False)] at n0 n1 n2
  unfold unpackR NumsFit
  simp only [n0, n1, n2]
  rw [if_pos ⟨⟨packS_length _ _ _, by omega, by omega, by omega⟩, trivial⟩]
/-- What is unpacked is packed to the same bytes. -/
theorem unpack_has {u : List UInt8} {m : Mk} (h : unpackR u = (m, true)) : u = packS m.1 m.2.1 m.2.2 ∧ MkOk m := by
  unfold unpackR NumsFit at h
  split at h
  · rename_i hc
    have hm := (Prod.mk.inj h).1
    subst hm
    exact ⟨hc.2.symm, by have := hc.1; unfold MkOk; simp only []; omega⟩
  · exact absurd (Prod.mk.inj h).2 (by decide)
theorem unpack_none {u : List UInt8} {m : Mk} (h : unpackR u = (m, false)) : m = (0, 0, 0) := by
  unfold unpackR at h
  split at h
  · exact absurd (Prod.mk.inj h).2 (by decide)
  · exact (Prod.mk.inj h).1.symm
theorem pack_inj {m k : Mk} (hm : MkOk m) (hk : MkOk k) (h : (packS m.1 m.2.1 m.2.2).take 8 = (packS k.1 k.2.1 k.2.2).take 8) : m.1 = k.1 := by
  obtain ⟨e, b, c⟩ := m
  obtain ⟨e', b', c'⟩ := k
  obtain ⟨a1, a2, a3, a4, a5, a6⟩ := hm
  obtain ⟨b1, b2, b3, b4, b5, b6⟩ := hk
  simp only [] at a1 a2 a3 a4 a5 a6 b1 b2 b3 b4 b5 b6 h ⊢
  obtain ⟨e, rfl⟩ := Int.eq_ofNat_of_zero_le a1
  obtain ⟨b, rfl⟩ := Int.eq_ofNat_of_zero_le a3
  obtain ⟨c, rfl⟩ := Int.eq_ofNat_of_zero_le a5
  obtain ⟨e', rfl⟩ := Int.eq_ofNat_of_zero_le b1
  obtain ⟨b', rfl⟩ := Int.eq_ofNat_of_zero_le b3
  obtain ⟨c', rfl⟩ := Int.eq_ofNat_of_zero_le b5
  have n0 := numAt_packS e b c 0 (by omega) (by omega) (by omega) (by omega)
  have n1 := numAt_packS e' b' c' 0 (by omega) (by omega) (by omega) (by omega)
  have hn : numAt (packS e b c) 0 = numAt (packS e' b' c') 0 := by
    unfold numAt numT
    rw [Nat.zero_mul, List.drop_zero, List.drop_zero, h]
  rw [n0, n1] at hn
  simp only [if_true] at hn
  exact congrArg Int.ofNat hn
/-- A torn sector. -/
theorem torn_unpack {x y m : Mk} (hx : MkOk x) (hy : MkOk y) (hne : x.1 ≠ y.1) {c : Nat} (h : unpackR ((packS x.1 x.2.1 x.2.2).take c ++ (packS y.1 y.2.1 y.2.2).drop c) = (m, true)) : m = x ∨ m = y := by
  obtain ⟨hu, hm⟩ := unpack_has h
  have he := packS_ends m.1 m.2.1 m.2.2
  rw [← hu] at he
  obtain ⟨s, hs⟩ : ∃ s, packS x.1 x.2.1 x.2.2 = s := ⟨_, rfl⟩
  obtain ⟨t, ht⟩ : ∃ t, packS y.1 y.2.1 y.2.2 = t := ⟨_, rfl⟩
  have sl : s.length = 64 := by rw [← hs]; exact packS_length _ _ _
  have tl : t.length = 64 := by rw [← ht]; exact packS_length _ _ _
  have es := packS_ends x.1 x.2.1 x.2.2
  have et := packS_ends y.1 y.2.1 y.2.2
  rw [hs] at es
  rw [ht] at et
  rw [hs, ht] at he h
  have hat : ∀ i, i < 64 → (s.take c ++ t.drop c)[i]? = if i < c then s[i]? else t[i]? := by
    intro i hi
    by_cases hc : i < c
    · rw [if_pos hc, List.getElem?_append_left (by rw [List.length_take]; omega), List.getElem?_take_of_lt hc]
    · rw [if_neg hc, List.getElem?_append_right (by rw [List.length_take]; omega), List.getElem?_drop, List.length_take, show c + (i - min c s.length) = i by omega]
  have hat2 : ∀ i, i < 8 → (s.take c ++ t.drop c)[i]? = (s.take c ++ t.drop c)[56 + i]? := by
    intro i hi
    have := congrArg (fun l => l[i]?) he
    simpa [List.getElem?_take_of_lt hi, List.getElem?_drop] using this
  have hes : ∀ i, i < 8 → s[i]? = s[56 + i]? := by
    intro i hi
    have := congrArg (fun l => l[i]?) es
    simpa [List.getElem?_take_of_lt hi, List.getElem?_drop] using this
  have het : ∀ i, i < 8 → t[i]? = t[56 + i]? := by
    intro i hi
    have := congrArg (fun l => l[i]?) et
    simpa [List.getElem?_take_of_lt hi, List.getElem?_drop] using this
  have hul : (s.take c ++ t.drop c).length = 64 := by
    have := congrArg List.length hu
    rw [packS_length, hs, ht] at this
    exact this
  by_cases h1 : c ≤ 8
  · right
    have e : s.take c ++ t.drop c = t := by
      refine List.ext_getElem? fun i => ?_
      by_cases hi : i < 64
      · rw [hat i hi]
        split
        · rename_i hc
          have q := hat2 i (by omega)
          rw [hat i hi, hat (56 + i) (by omega), if_pos hc, if_neg (by omega)] at q
          rw [q, het i (by omega)]
        · rfl
      · rw [List.getElem?_eq_none (by omega), List.getElem?_eq_none (by omega)]
    rw [e, ← ht, unpack_pack hy] at h
    exact (Prod.mk.inj h).1.symm
  · by_cases h2 : c ≤ 56
    · refine absurd (pack_inj hx hy ?_) hne
      rw [hs, ht]
      refine List.ext_getElem? fun i => ?_
      by_cases hi : i < 8
      · rw [List.getElem?_take_of_lt hi, List.getElem?_take_of_lt hi]
        have q := hat2 i hi
        rw [hat i (by omega), hat (56 + i) (by omega), if_pos (by omega), if_neg (by omega)] at q
        rw [q, het i hi]
      · rw [List.getElem?_eq_none (by rw [List.length_take]; omega), List.getElem?_eq_none (by rw [List.length_take]; omega)]
    · left
      have e : s.take c ++ t.drop c = s := by
        refine List.ext_getElem? fun i => ?_
        by_cases hi : i < 64
        · by_cases hc : i < c
          · rw [hat i hi, if_pos hc]
          · obtain ⟨j, rfl⟩ : ∃ j, i = 56 + j := ⟨i - 56, by omega⟩
            rw [← hat2 j (by omega), hat j (by omega), if_pos (by omega), hes j (by omega)]
        · rw [List.getElem?_eq_none (by omega), List.getElem?_eq_none (by omega)]
      rw [e, ← hs, unpack_pack hx] at h
      exact (Prod.mk.inj h).1.symm
end Go.Proofs.Ytiighehibiijcaa

namespace Go.Proofs.Ytiighehibiijcaa
open Go.RowKit
set_option linter.unusedSimpArgs false
set_option linter.unnecessarySimpa false
set_option linter.unusedVariables false

/-- The bytes of records, one behind the other. -/
def recsB : List (List UInt8) → List UInt8
  | [] => []
  | r :: rs => tRec r ++ recsB rs
theorem recsB_snoc (rs : List (List UInt8)) (r : List UInt8) : recsB (rs ++ [r]) = recsB rs ++ tRec r := by
  induction rs with
  | nil => simp [recsB]
  | cons a rs ih => simp only [List.cons_append, recsB, ih, List.append_assoc]
theorem allR_recs : ∀ (rs : List (List UInt8)), (∀ r ∈ rs, r.length ≤ 1048576) → allR (recsB rs) = (rs, (recsB rs).length) := by
  intro rs
  induction rs with
  | nil => intro _; rfl
  | cons r rs ih =>
    intro h
    have h1 := allR_step (s := recsB (r :: rs)) (b := r) (n := (tRec r).length) (take_back r (recsB rs) (h r (by simp)))
    rw [h1]
    simp only [recsB, List.drop_left, List.length_append]
    rw [ih (fun q hq => h q (by simp [hq]))]
/-- The bytes of a log behind its last whole sector. -/
def finB (L : List UInt8) : List UInt8 := L.drop (L.length - L.length % 64)
theorem finB_length (L : List UInt8) : (finB L).length = L.length % 64 := by unfold finB; rw [List.length_drop]; omega
/-- The sectors from the second one on hold L. -/
def LogAt (S : Int → List UInt8) (L : List UInt8) : Prop := ∀ i, i < L.length → (S (2 + ((i / 64 : Nat) : Int)))[i % 64]? = L[i]?
def markS (S : Int → List UInt8) : Mk := newR (unpackR (S 0)).1 (unpackR (S 1)).1
/-- What Open finds: a mark, and records. -/
structure Disk (d : Dev) (m : Mk) (rs : List (List UInt8)) : Prop where
  on : d.on = true
  n0 : 3 ≤ d.n
  n1 : d.n ≤ 4096
  safe : SafeOk d
  wait : WaitOk d.n d.waits
  mark : markS (readD d) = m
  bytes : m.2.1 = ((recsB rs).length : Nat)
  count : m.2.2 = (rs.length : Nat)
  room : ((recsB rs).length : Int) ≤ roomD d
  log : LogAt (readD d) (recsB rs)
  small : ∀ r ∈ rs, r.length ≤ 1048576
theorem hasD_of {n k : Int} (h0 : 0 ≤ k) (h1 : k < n) : hasD n k = true := by simp [hasD, h0, h1]
theorem readS_on {d : Dev} {k : Int} (h : d.on = true) (hk : hasD d.n k = true) : readS d k = readD d k := by simp [readS, h, hk]
theorem secsD_at {d : Dev} (hon : d.on = true) (hs : SafeOk d) (hw : WaitOk d.n d.waits) : ∀ K : Nat, 2 + (K : Int) ≤ d.n → (secsD d K).length = 64 * K ∧ ∀ i, i < 64 * K → (secsD d K)[i]? = (readD d (2 + ((i / 64 : Nat) : Int)))[i % 64]? := by
  intro K
  induction K with
  | zero => intro _; exact ⟨rfl, fun i hi => absurd hi (by omega)⟩
  | succ K ih =>
    intro hn
    obtain ⟨h1, h2⟩ := ih (by omega)
    have h3 : readS d (2 + (K : Int)) = readD d (2 + (K : Int)) := readS_on hon (hasD_of (by omega) (by omega))
    have h4 := readD_length hs hw (2 + (K : Int))
    unfold secsD
    rw [h3]
    refine ⟨by rw [List.length_append, h1, h4]; omega, fun i hi => ?_⟩
    by_cases hlt : i < 64 * K
    · rw [List.getElem?_append_left (by omega)]
      exact h2 i hlt
    · rw [List.getElem?_append_right (by omega), h1, show i / 64 = K by omega, show i % 64 = i - 64 * K by omega]
theorem Disk.logD {d : Dev} {m : Mk} {rs : List (List UInt8)} (h : Disk d m rs) (hm : markD d = m) : logD d = recsB rs := by
  unfold Go.Proofs.Ytiighehibiijcaa.logD
  have hb := h.bytes
  have hr := h.room
  have h0 := h.n0
  unfold roomD at hr
  rw [hm, hb, Int.toNat_natCast]
  obtain ⟨h1, h2⟩ := secsD_at h.on h.safe h.wait (((recsB rs).length + 63) / 64) (by omega)
  refine List.ext_getElem? fun i => ?_
  by_cases hi : i < (recsB rs).length
  · rw [List.getElem?_take_of_lt hi, h2 i (by omega), h.log i hi]
  · rw [List.getElem?_eq_none (by rw [List.length_take]; omega), List.getElem?_eq_none (by omega)]
theorem Disk.open {d : Dev} {m : Mk} {rs : List (List UInt8)} (h : Disk d m rs) : openR d = (some ⟨m, finB (recsB rs), false⟩, rs, 0) := by
  have h0 := h.n0
  have hm : markD d = m := by
    unfold markD
    rw [readS_on h.on (hasD_of (by omega) (by omega)), readS_on h.on (hasD_of (by omega) (by omega))]
    exact h.mark
  have hl := h.logD hm
  have ha := allR_recs rs h.small
  unfold openR
  rw [if_neg (by omega), if_neg (by rw [h.on]; simp), hm, if_neg (by rw [h.bytes]; have := h.room; omega), hl, ha, if_pos ⟨rfl, h.count.symm⟩]
  rfl
end Go.Proofs.Ytiighehibiijcaa

namespace Go.Proofs.Ytiighehibiijcaa
open Go.RowKit
set_option linter.unusedSimpArgs false
set_option linter.unnecessarySimpa false
set_option linter.unusedVariables false

/-- The first i of the writes of s from sector a on. -/
def wrs : Nat → Int → List UInt8 → List (Int × List UInt8)
  | 0, _, _ => []
  | i + 1, a, s => (a, chunk s) :: wrs i (a + 1) (s.drop 64)
theorem wrs_mem : ∀ (i : Nat) (a : Int) (s : List UInt8) (p : Int × List UInt8), p ∈ wrs i a s → ∃ j : Nat, j < i ∧ p = (a + j, chunk (s.drop (64 * j))) := by
  intro i
  induction i with
  | zero => intro a s p h; cases h
  | succ i ih =>
    intro a s p h
    rcases List.mem_cons.1 h with h | h
    · exact ⟨0, by omega, by rw [h]; simp⟩
    · obtain ⟨j, hj, e⟩ := ih _ _ _ h
      refine ⟨j + 1, by omega, ?_⟩
      rw [e, List.drop_drop, show a + 1 + (j : Int) = a + ((j + 1 : Nat) : Int) by omega, show 64 + 64 * j = 64 * (j + 1) by omega]
theorem wrs_apart : ∀ (i : Nat) (a : Int) (s : List UInt8), (wrs i a s).Pairwise (fun p q => p.1 ≠ q.1) := by
  intro i
  induction i with
  | zero => intro a s; exact .nil
  | succ i ih =>
    intro a s
    refine .cons (fun q hq => ?_) (ih _ _)
    obtain ⟨j, hj, e⟩ := wrs_mem _ _ _ _ hq
    rw [e]
    show a ≠ a + 1 + (j : Int)
    omega
theorem wrs_last : ∀ (i : Nat) (a : Int) (s : List UInt8) (j : Nat), j < i → lastW (a + j) (wrs i a s) = some (chunk (s.drop (64 * j))) := by
  intro i
  induction i with
  | zero => intro a s j h; omega
  | succ i ih =>
    intro a s j hj
    unfold wrs
    simp only [lastW]
    rcases j with _ | j
    · rw [lastW_none _ (fun p hp => by
        obtain ⟨j', _, e⟩ := wrs_mem _ _ _ _ hp
        rw [e]
        show a + 1 + (j' : Int) ≠ a + ((0 : Nat) : Int)
        omega)]
      simp
    · rw [show a + ((j + 1 : Nat) : Int) = a + 1 + (j : Int) by omega, ih _ _ j (by omega), List.drop_drop, show 64 + 64 * j = 64 * (j + 1) by omega]
      simp
theorem wrs_none {i : Nat} {a : Int} {s : List UInt8} {q : Int} (h : ∀ j : Nat, j < i → q ≠ a + j) : lastW q (wrs i a s) = none := by
  refine lastW_none _ fun p hp => ?_
  obtain ⟨j, hj, e⟩ := wrs_mem _ _ _ _ hp
  rw [e]
  exact fun e' => h j hj e'.symm
/-- What puts leaves: some of the writes wait; all of them, if it was OK. -/
theorem puts_plain : ∀ (k : Nat) (d : Dev) (a : Int) (s : List UInt8), s.length ≤ 64 * k → d.on = true → (∀ j : Nat, 64 * j < s.length → hasD d.n (a + j) = true) →
    ∃ i, i ≤ (s.length + 63) / 64 ∧ (putsF k d a s).1.waits = d.waits ++ wrs i a s ∧ (putsF k d a s).1.safe = d.safe ∧ (putsF k d a s).1.n = d.n ∧ (putsF k d a s).1.armed = d.armed ∧
      (((putsF k d a s).2 = 0 ∧ i = (s.length + 63) / 64 ∧ (putsF k d a s).1.on = true) ∨ ((putsF k d a s).2 = 14 ∧ d.armed = true ∧ (putsF k d a s).1.on = false)) := by
  intro k
  induction k with
  | zero =>
    intro d a s hs hon hh
    have h0 : s.length = 0 := by omega
    refine ⟨0, by omega, by simp [putsF, wrs], rfl, rfl, rfl, .inl ⟨rfl, by omega, hon⟩⟩
  | succ k ih =>
    intro d a s hs hon hh
    unfold putsF
    by_cases he : s = []
    · rw [if_pos he]
      refine ⟨0, by omega, by simp [wrs], rfl, rfl, rfl, .inl ⟨rfl, by rw [he]; rfl, hon⟩⟩
    · rw [if_neg he]
      have hpos : 0 < s.length := List.length_pos_iff.2 he
      have hh0 : hasD d.n a = true := by have := hh 0 (by omega); simpa using this
      have hw : writeR d a (chunk s) = writeD d a (chunk s) := writeR_on hon hh0 (chunk_length s)
      have hE : writeE d a (chunk s) = if goesD d then 0 else 14 := by simp [writeE, hon, hh0, chunk_length]
      rw [hE, hw]
      rcases hg : goesD d with _ | _
      · rw [if_neg (by simp)]
        have ha : d.armed = true := by
          rcases hd : d.armed with _ | _
          · rw [goes_free hd] at hg; cases hg
          · rfl
        refine ⟨1, by omega, ?_, by rw [writeD_safe], ?_, ?_, .inr ⟨rfl, ha, ?_⟩⟩
        · rw [writeD_waits]; rfl
        · simp [writeD, hg]
        · simp [writeD, hg]
        · simp [writeD, hg]
      · rw [if_pos (by simp)]
        have hn : (writeD d a (chunk s)).n = d.n := by simp [writeD, hg, stepD_n]
        have ho : (writeD d a (chunk s)).on = true := by simp [writeD, hg, stepD_on, hon]
        have har : (writeD d a (chunk s)).armed = d.armed := by
          simp only [writeD, hg, if_true]
          unfold stepD
          split <;> rfl
        obtain ⟨i, h1, h2, h3, h4, h5, h6⟩ := ih (writeD d a (chunk s)) (a + 1) (s.drop 64) (by rw [List.length_drop]; omega) ho (fun j hj => by
          rw [hn, show a + 1 + (j : Int) = a + ((j + 1 : Nat) : Int) by omega]
          exact hh (j + 1) (by rw [List.length_drop] at hj; omega))
        rw [List.length_drop] at h1 h6
        refine ⟨i + 1, by omega, ?_, h3.trans (writeD_safe _ _ _), h4.trans hn, h5.trans har, ?_⟩
        · rw [h2, writeD_waits, List.append_assoc]; rfl
        · rcases h6 with ⟨e1, e2, e3⟩ | ⟨e1, e2, e3⟩
          · exact .inl ⟨e1, by omega, e3⟩
          · exact .inr ⟨e1, har ▸ e2, e3⟩
theorem chunk_at (s : List UInt8) {o : Nat} (ho : o < s.length) (h64 : o < 64) : (chunk s)[o]? = s[o]? := by
  unfold chunk
  rw [List.getElem?_append_left (by rw [List.length_take]; omega), List.getElem?_take_of_lt h64]
/-- Flush: all that waits is safe, or power goes. -/
theorem flush_plain {d : Dev} (hon : d.on = true) : (flushE d = 0 ∧ (flushR d).waits = [] ∧ (flushR d).on = true ∧ (flushR d).n = d.n ∧ (flushR d).armed = d.armed ∧ (∀ q, readD (flushR d) q = readD d q) ∧ (∀ q, safeD (flushR d) q = readD d q)) ∨
    (flushE d = 14 ∧ d.armed = true ∧ (flushR d).on = false ∧ (flushR d).waits = d.waits ∧ (flushR d).safe = d.safe ∧ (flushR d).n = d.n) := by
  unfold flushE flushR fluD
  rw [hon]
  simp only [if_true]
  rcases hg : goesD d with _ | _
  · right
    have ha : d.armed = true := by
      rcases hd : d.armed with _ | _
      · rw [goes_free hd] at hg; cases hg
      · rfl
    exact ⟨by simp, ha, by simp, by simp, by simp, by simp⟩
  · left
    simp only [if_true]
    have hf := keepAll_fields (stepD d).waits (stepD d)
    refine ⟨trivial, rfl, ?_, ?_, ?_, fun q => flushD_readD d q, fun q => flushD_safeD d q⟩
    · show (keepAll (stepD d) (stepD d).waits).on = true
      rw [hf.2.1, stepD_on, hon]
    · show (keepAll (stepD d) (stepD d).waits).n = d.n
      rw [hf.1, stepD_n]
    · show (keepAll (stepD d) (stepD d).waits).armed = d.armed
      rw [hf.2.2.1]
      unfold stepD
      split <;> rfl
/-- One write. -/
theorem write_plain {d : Dev} {k : Int} {s : List UInt8} (hon : d.on = true) (hk : hasD d.n k = true) (hs : s.length = 64) : (writeR d k s).waits = d.waits ++ [(k, s)] ∧ (writeR d k s).safe = d.safe ∧ (writeR d k s).n = d.n ∧ (writeR d k s).armed = d.armed ∧
    ((writeE d k s = 0 ∧ (writeR d k s).on = true) ∨ (writeE d k s = 14 ∧ d.armed = true ∧ (writeR d k s).on = false)) := by
  have hw : writeR d k s = writeD d k s := writeR_on hon hk hs
  have hE : writeE d k s = if goesD d then 0 else 14 := by simp [writeE, hon, hk, hs]
  rw [hw, hE]
  refine ⟨writeD_waits _ _ _, writeD_safe _ _ _, ?_, ?_, ?_⟩
  · rcases hg : goesD d with _ | _ <;> simp [writeD, hg, stepD_n]
  · rcases hg : goesD d with _ | _
    · simp [writeD, hg]
    · simp only [writeD, hg, if_true]
      unfold stepD
      split <;> rfl
  · rcases hg : goesD d with _ | _
    · have ha : d.armed = true := by
        rcases hd : d.armed with _ | _
        · rw [goes_free hd] at hg; cases hg
        · rfl
      exact .inr ⟨by simp, ha, by simp [writeD, hg]⟩
    · exact .inl ⟨by simp, by simp [writeD, hg, stepD_on, hon]⟩
end Go.Proofs.Ytiighehibiijcaa

namespace Go.Proofs.Ytiighehibiijcaa
open Go.RowKit
set_option linter.unusedSimpArgs false
set_option linter.unnecessarySimpa false
set_option linter.unusedVariables false

theorem finB_append (L r : List UInt8) : finB L ++ r = (L ++ r).drop (64 * (L.length / 64)) := by
  unfold finB
  rw [show L.length - L.length % 64 = 64 * (L.length / 64) by omega, List.drop_append_of_le_length (by omega)]
theorem log_prefix {S : Int → List UInt8} {L r : List UInt8} (h : LogAt S (L ++ r)) : LogAt S L := fun i hi => by
  rw [h i (by rw [List.length_append]; omega), List.getElem?_append_left hi]
theorem log_new {S S' : Int → List UInt8} {L r : List UInt8} (hL : LogAt S L) (h1 : ∀ j : Nat, 64 * j < (finB L ++ r).length → S' (2 + ((L.length / 64 : Nat) : Int) + j) = chunk ((finB L ++ r).drop (64 * j)))
    (h2 : ∀ q, (∀ j : Nat, 64 * j < (finB L ++ r).length → q ≠ 2 + ((L.length / 64 : Nat) : Int) + j) → S' q = S q) : LogAt S' (L ++ r) := by
  intro i hi
  rw [finB_append] at h1 h2
  rw [List.length_drop] at h1 h2
  by_cases hT : i / 64 < L.length / 64
  · rw [h2 _ (fun j _ => by omega), hL i (by omega), List.getElem?_append_left (by omega)]
  · have hj := h1 (i / 64 - L.length / 64) (by omega)
    rw [show 2 + ((L.length / 64 : Nat) : Int) + ((i / 64 - L.length / 64 : Nat) : Int) = 2 + ((i / 64 : Nat) : Int) by omega] at hj
    rw [hj, chunk_at _ (by rw [List.length_drop, List.length_drop]; omega) (by omega), List.getElem?_drop, List.getElem?_drop, show 64 * (L.length / 64) + (64 * (i / 64 - L.length / 64) + i % 64) = i by omega]
theorem log_kept {S S' : Int → List UInt8} {L r : List UInt8} (hL : LogAt S L)
    (h : ∀ q, S' q = S q ∨ ∃ j c : Nat, q = 2 + ((L.length / 64 : Nat) : Int) + j ∧ 64 * j < (finB L ++ r).length ∧ c ≤ 64 ∧ S' q = (chunk ((finB L ++ r).drop (64 * j))).take c ++ (S q).drop c) : LogAt S' L := by
  intro i hi
  rcases h (2 + ((i / 64 : Nat) : Int)) with e | ⟨j, c, e1, e2, e3, e4⟩
  · rw [e]; exact hL i hi
  · have hj : j = 0 := by omega
    subst hj
    rw [e4]
    rw [Nat.mul_zero, List.drop_zero, finB_append]
    have hc := chunk_length ((L ++ r).drop (64 * (L.length / 64)))
    by_cases ho : i % 64 < c
    · rw [List.getElem?_append_left (by rw [List.length_take]; omega), List.getElem?_take_of_lt ho, chunk_at _ (by rw [List.length_drop, List.length_append]; omega) (by omega), List.getElem?_drop,
        show 64 * (L.length / 64) + i % 64 = i by omega, List.getElem?_append_left hi]
    · rw [List.getElem?_append_right (by rw [List.length_take]; omega), List.length_take, List.getElem?_drop, show c + (i % 64 - min c (chunk ((L ++ r).drop (64 * (L.length / 64)))).length) = i % 64 by omega]
      exact hL i hi
theorem tmod_even {E : Int} (h0 : 0 ≤ E) (h : E % 2 = 0) : E.tmod 2 = 0 ∧ (E + 1).tmod 2 = 1 := by
  rw [Int.tmod_eq_emod_of_nonneg h0, Int.tmod_eq_emod_of_nonneg (by omega)]
  omega
theorem tmod_odd {E : Int} (h0 : 0 ≤ E) (h : E % 2 ≠ 0) : E.tmod 2 = 1 ∧ (E + 1).tmod 2 = 0 := by
  rw [Int.tmod_eq_emod_of_nonneg h0, Int.tmod_eq_emod_of_nonneg (by omega)]
  omega
theorem markS_pick {S : Int → List UInt8} {E : Int} {x u : Mk} (h0 : 0 ≤ E) (h1 : (unpackR (S (E.tmod 2))).1 = x) (h2 : (unpackR (S ((E + 1).tmod 2))).1 = u) (hx : x.1 = E) (h : u.1 < E ∨ (E = 0 ∧ u.1 = 0)) : markS S = x := by
  unfold markS newR
  by_cases he : E % 2 = 0
  · obtain ⟨e1, e2⟩ := tmod_even h0 he
    rw [e1] at h1
    rw [e2] at h2
    rw [h1, h2, if_neg (by omega)]
  · obtain ⟨e1, e2⟩ := tmod_odd h0 he
    rw [e1] at h1
    rw [e2] at h2
    rw [h1, h2, if_pos (by omega)]
theorem markS_next {S : Int → List UInt8} {E : Int} {x u : Mk} (h0 : 0 ≤ E) (h1 : (unpackR (S (E.tmod 2))).1 = x) (h2 : (unpackR (S ((E + 1).tmod 2))).1 = u) (hx : x.1 = E) (h : u.1 = E + 1) : markS S = u := by
  unfold markS newR
  by_cases he : E % 2 = 0
  · obtain ⟨e1, e2⟩ := tmod_even h0 he
    rw [e1] at h1
    rw [e2] at h2
    rw [h1, h2, if_pos (by omega)]
  · obtain ⟨e1, e2⟩ := tmod_odd h0 he
    rw [e1] at h1
    rw [e2] at h2
    rw [h1, h2, if_neg (by omega)]
/-- A log that stands open on a device on which nothing waits. -/
structure Live (d : Dev) (x : Log) (rs : List (List UInt8)) : Prop where
  disk : Disk d x.mark rs
  waits : d.waits = []
  fin : x.fin = finB (recsB rs)
  ok : x.broken = false
  here : readD d (x.mark.1.tmod 2) = packS x.mark.1 x.mark.2.1 x.mark.2.2
  e0 : 0 ≤ x.mark.1
  e1 : x.mark.1 ≤ 1000000
  r1 : rs.length ≤ 1000000
theorem Live.mk_ok {d : Dev} {x : Log} {rs : List (List UInt8)} (h : Live d x rs) : MkOk x.mark := by
  have h1 := h.disk.bytes
  have h2 := h.disk.count
  have h3 := h.disk.room
  have h4 := h.disk.n1
  have h5 := h.e0
  have h6 := h.e1
  have h7 := h.r1
  unfold roomD at h3
  unfold MkOk
  omega
theorem Live.log_ok {d : Dev} {x : Log} {rs : List (List UInt8)} (h : Live d x rs) : LogOk x := by
  have h1 := h.disk.bytes
  have h2 := h.disk.count
  have h3 := h.disk.room
  have h4 := h.disk.n1
  have h5 := h.e0
  have h6 := h.e1
  have h7 := h.r1
  unfold roomD at h3
  refine ⟨h5, by omega, by omega, by omega, by omega, by omega, ?_⟩
  rw [h.fin, finB_length]; omega
theorem Live.open {d : Dev} {x : Log} {rs : List (List UInt8)} (h : Live d x rs) : openR d = (some x, rs, 0) := by
  rw [h.disk.open, ← h.fin, ← h.ok]
/-- The other sector of marks holds an elder mark. -/
def Elder (d : Dev) (m : Mk) : Prop := ∃ k : Mk, readD d ((m.1 + 1).tmod 2) = packS k.1 k.2.1 k.2.2 ∧ MkOk k ∧ (k.1 < m.1 ∨ (m.1 = 0 ∧ k.1 = 0))
theorem readD_quiet {d : Dev} (h : d.waits = []) (q : Int) : readD d q = safeD d q := by unfold readD; rw [h]; rfl

section
variable {d : Dev} {x : Log} {rs : List (List UInt8)} {r0 : List UInt8}
/-- A crash while the record's own sectors wait: the log is as it was. -/
theorem crash_old (h : Live d x rs) {D : Dev} {i : Nat} (hw : D.waits = wrs i (atL x) (x.fin ++ tRec r0)) (hi : i ≤ ((x.fin ++ tRec r0).length + 63) / 64) (hs : D.safe = d.safe) (hn : D.n = d.n) (hsafe : SafeOk D)
    (ks : List Bool) (torn : Int) {cc : Nat} (hcc : cc ≤ 64) (hsc : SafeOk (crashD ks torn cc D)) (hnc : (crashD ks torn cc D).n = D.n) : Live (crashD ks torn cc D) ⟨x.mark, finB (recsB rs), false⟩ rs := by
  have ha : atL x = 2 + (((recsB rs).length / 64 : Nat) : Int) := by unfold atL; rw [h.disk.bytes, Int.toNat_natCast]
  have hS : ∀ q, readD (crashD ks torn cc D) q = readD d q ∨ ∃ j c : Nat, q = 2 + (((recsB rs).length / 64 : Nat) : Int) + j ∧ 64 * j < (finB (recsB rs) ++ tRec r0).length ∧ c ≤ 64 ∧
      readD (crashD ks torn cc D) q = (chunk ((finB (recsB rs) ++ tRec r0).drop (64 * j))).take c ++ (readD d q).drop c := by
    intro q
    have hold : readD d q = safeD D q := (readD_quiet h.waits q).trans (safeD_same hs q).symm
    rw [crashD_readD, crash_safeD, hold]
    rcases crash_cases (ks := ks) (torn := torn) hcc (d := D) (l := D.waits) (by rw [hw]; exact wrs_apart _ _ _) (by
      rw [hw]
      intro p hp
      obtain ⟨j, _, e⟩ := wrs_mem _ _ _ _ hp
      rw [e]
      exact chunk_length _) hsafe D.waits.length (Nat.le_refl _) q with e | ⟨p, hp, hq, c, hc, e⟩
    · exact .inl e
    · right
      rw [hw] at hp
      obtain ⟨j, hj, ep⟩ := wrs_mem _ _ _ _ hp
      rw [h.fin] at ep hi
      refine ⟨j, c, ?_, by omega, hc, ?_⟩
      · rw [← hq, ep, ha]
      · rw [e, ep]
  have hm : ∀ q, q < 2 → readD (crashD ks torn cc D) q = readD d q := by
    intro q hq
    rcases hS q with e | ⟨j, c, e1, -⟩
    · exact e
    · omega
  have ht : x.mark.1.tmod 2 < 2 := Int.tmod_lt_of_pos _ (by omega)
  have hn' : (crashD ks torn cc D).n = d.n := hnc.trans hn
  have hw0 : WaitOk (crashD ks torn cc D).n (crashD ks torn cc D).waits := by intro p hp; cases hp
  refine ⟨⟨rfl, by rw [hn']; exact h.disk.n0, by rw [hn']; exact h.disk.n1, hsc, hw0, ?_, h.disk.bytes, h.disk.count, ?_, log_kept (r := tRec r0) h.disk.log hS, h.disk.small⟩, rfl, rfl, rfl, ?_, h.e0, h.e1, h.r1⟩
  · rw [← h.disk.mark]
    unfold markS
    rw [hm 0 (by omega), hm 1 (by omega)]
  · have := h.disk.room
    unfold roomD at this ⊢
    rw [hnc, hn]
    exact this
  · show readD (crashD ks torn cc D) (x.mark.1.tmod 2) = packS x.mark.1 x.mark.2.1 x.mark.2.2
    rw [hm _ ht]
    exact h.here
end
end Go.Proofs.Ytiighehibiijcaa

namespace Go.Proofs.Ytiighehibiijcaa
open Go.RowKit
set_option linter.unusedSimpArgs false
set_option linter.unnecessarySimpa false
set_option linter.unusedVariables false

section
variable {d : Dev} {x : Log} {rs : List (List UInt8)} {r0 : List UInt8}
theorem live_same (h : Live d x rs) {D : Dev} (hn : D.n = d.n) (hon : D.on = true) (hw : D.waits = []) (hs : SafeOk D) (hl : LogAt (readD D) (recsB rs)) (hE : readD D (x.mark.1.tmod 2) = packS x.mark.1 x.mark.2.1 x.mark.2.2)
    {u : Mk} (hu : (unpackR (readD D ((x.mark.1 + 1).tmod 2))).1 = u) (hlt : u.1 < x.mark.1 ∨ (x.mark.1 = 0 ∧ u.1 = 0)) : Live D ⟨x.mark, finB (recsB rs), false⟩ rs := by
  have hr := h.disk.room
  unfold roomD at hr
  have hw0 : WaitOk D.n D.waits := by rw [hw]; intro p hp; cases hp
  refine ⟨⟨hon, by rw [hn]; exact h.disk.n0, by rw [hn]; exact h.disk.n1, hs, hw0, ?_, h.disk.bytes, h.disk.count, by unfold roomD; rw [hn]; exact hr, hl, h.disk.small⟩, hw, rfl, rfl, hE, h.e0, h.e1, h.r1⟩
  exact markS_pick h.e0 (by rw [hE, unpack_pack h.mk_ok]) hu rfl hlt
theorem next_ok (h : Live d x rs) (hr : ((recsB rs ++ tRec r0).length : Int) ≤ roomD d) (he : x.mark.1 < 1000000) (hc : rs.length < 1000000) : MkOk (nextM x (tRec r0)) := by
  have h1 := h.disk.bytes
  have h2 := h.disk.count
  have h4 := h.disk.n1
  have h5 := h.e0
  unfold roomD at hr
  rw [List.length_append] at hr
  unfold MkOk nextM
  simp only []
  omega
theorem live_next (h : Live d x rs) {D : Dev} (hn : D.n = d.n) (hon : D.on = true) (hw : D.waits = []) (hs : SafeOk D) (hl : LogAt (readD D) (recsB rs ++ tRec r0)) (hE : readD D (x.mark.1.tmod 2) = packS x.mark.1 x.mark.2.1 x.mark.2.2)
    (hF : readD D ((x.mark.1 + 1).tmod 2) = packS (nextM x (tRec r0)).1 (nextM x (tRec r0)).2.1 (nextM x (tRec r0)).2.2) (hr : ((recsB rs ++ tRec r0).length : Int) ≤ roomD d) (hr1 : r0.length ≤ 1048576) (he : x.mark.1 < 1000000) (hc : rs.length < 1000000) :
    Live D ⟨nextM x (tRec r0), finB (recsB (rs ++ [r0])), false⟩ (rs ++ [r0]) := by
  have hm := next_ok h hr he hc
  have h0 := h.e0
  unfold roomD at hr
  have hw0 : WaitOk D.n D.waits := by rw [hw]; intro p hp; cases hp
  refine ⟨⟨hon, by rw [hn]; exact h.disk.n0, by rw [hn]; exact h.disk.n1, hs, hw0, ?_, ?_, ?_, ?_, ?_, ?_⟩, hw, rfl, rfl, hF, ?_, ?_, ?_⟩
  · exact markS_next h0 (by rw [hE, unpack_pack h.mk_ok]) (by rw [hF, unpack_pack hm]) rfl rfl
  · show x.mark.2.1 + ((tRec r0).length : Int) = _
    rw [recsB_snoc, List.length_append, h.disk.bytes]; omega
  · show x.mark.2.2 + 1 = _
    rw [h.disk.count, List.length_append]; simp
  · rw [recsB_snoc]; unfold roomD; rw [hn]; exact hr
  · rw [recsB_snoc]; exact hl
  · intro r hm
    rcases List.mem_append.1 hm with hm | hm
    · exact h.disk.small r hm
    · simp only [List.mem_cons, List.not_mem_nil, or_false] at hm
      subst hm; exact hr1
  · show 0 ≤ x.mark.1 + 1
    omega
  · show x.mark.1 + 1 ≤ 1000000
    omega
  · rw [List.length_append]; simp; omega
/-- What stands on the device behind the first flush. -/
theorem after_flush (h : Live d x rs) {D1 D2 : Dev} (hw : D1.waits = wrs (((x.fin ++ tRec r0).length + 63) / 64) (atL x) (x.fin ++ tRec r0)) (hs : D1.safe = d.safe) (hread : ∀ q, readD D2 q = readD D1 q) :
    LogAt (readD D2) (recsB rs ++ tRec r0) ∧ ∀ q, q < 2 → readD D2 q = readD d q := by
  have ha : atL x = 2 + (((recsB rs).length / 64 : Nat) : Int) := by unfold atL; rw [h.disk.bytes, Int.toNat_natCast]
  rw [h.fin, ha] at hw
  have hold : ∀ q, safeD D1 q = readD d q := fun q => (safeD_same hs q).trans (readD_quiet h.waits q).symm
  refine ⟨log_new h.disk.log (fun j hj => ?_) (fun q hq => ?_), fun q hq => ?_⟩
  · rw [hread]
    unfold readD
    rw [hw, wrs_last _ _ _ j (by omega)]
    rfl
  · rw [hread]
    unfold readD
    rw [hw, wrs_none (fun j hj => hq j (by omega))]
    exact hold q
  · rw [hread]
    unfold readD
    rw [hw, wrs_none (fun j hj => by omega)]
    exact hold q
/-- A crash while the mark waits. -/
theorem crash_new (h : Live d x rs) (hel : Elder d x.mark) {D D2 : Dev} (hw : D.waits = [((x.mark.1 + 1).tmod 2, packS (nextM x (tRec r0)).1 (nextM x (tRec r0)).2.1 (nextM x (tRec r0)).2.2)]) (hread : ∀ q, safeD D q = readD D2 q)
    (hl : LogAt (readD D2) (recsB rs ++ tRec r0)) (h2 : ∀ q, q < 2 → readD D2 q = readD d q) (hn : D.n = d.n) (hsafe : SafeOk D) (hr : ((recsB rs ++ tRec r0).length : Int) ≤ roomD d) (hr1 : r0.length ≤ 1048576) (he : x.mark.1 < 1000000) (hc : rs.length < 1000000)
    (ks : List Bool) (torn : Int) {cc : Nat} (hcc : cc ≤ 64) (hsc : SafeOk (crashD ks torn cc D)) (hnc : (crashD ks torn cc D).n = D.n) :
    ∃ m rs', m.1 ≤ x.mark.1 + 1 ∧ (rs' = rs ∨ rs' = rs ++ [r0]) ∧ Live (crashD ks torn cc D) ⟨m, finB (recsB rs'), false⟩ rs' := by
  have hm := next_ok h hr he hc
  have h0 := h.e0
  obtain ⟨k, hk, hkm, hkl⟩ := hel
  have t1 : x.mark.1.tmod 2 < 2 := Int.tmod_lt_of_pos _ (by omega)
  have t2 : (x.mark.1 + 1).tmod 2 < 2 := Int.tmod_lt_of_pos _ (by omega)
  have t3 : x.mark.1.tmod 2 ≠ (x.mark.1 + 1).tmod 2 := by
    by_cases hp : x.mark.1 % 2 = 0
    · obtain ⟨e1, e2⟩ := tmod_even h0 hp; omega
    · obtain ⟨e1, e2⟩ := tmod_odd h0 hp; omega
  have hcr := fun q => crash_cases (ks := ks) (torn := torn) hcc (d := D) (l := D.waits) (by rw [hw]; exact List.pairwise_singleton _ _) (by
      rw [hw]
      intro p hp
      simp only [List.mem_cons, List.not_mem_nil, or_false] at hp
      subst hp
      exact packS_length _ _ _) hsafe D.waits.length (Nat.le_refl _) q
  have hfar : ∀ q, q ≠ (x.mark.1 + 1).tmod 2 → readD (crashD ks torn cc D) q = readD D2 q := by
    intro q hq
    rw [crashD_readD, crash_safeD, ← hread]
    rcases hcr q with e | ⟨p, hp, e1, -⟩
    · exact e
    · rw [hw] at hp
      simp only [List.mem_cons, List.not_mem_nil, or_false] at hp
      subst hp
      exact absurd e1.symm hq
  have hat : readD (crashD ks torn cc D) ((x.mark.1 + 1).tmod 2) = packS k.1 k.2.1 k.2.2 ∨ ∃ c, readD (crashD ks torn cc D) ((x.mark.1 + 1).tmod 2) = (packS (nextM x (tRec r0)).1 (nextM x (tRec r0)).2.1 (nextM x (tRec r0)).2.2).take c ++ (packS k.1 k.2.1 k.2.2).drop c := by
    rw [crashD_readD, crash_safeD]
    have hold : safeD D ((x.mark.1 + 1).tmod 2) = packS k.1 k.2.1 k.2.2 := by rw [hread, h2 _ t2, hk]
    rcases hcr ((x.mark.1 + 1).tmod 2) with e | ⟨p, hp, e1, c, -, e⟩
    · exact .inl (e.trans hold)
    · rw [hw] at hp
      simp only [List.mem_cons, List.not_mem_nil, or_false] at hp
      subst hp
      exact .inr ⟨c, by rw [e, hold]⟩
  have hlog : LogAt (readD (crashD ks torn cc D)) (recsB rs ++ tRec r0) := by
    intro i hi
    rw [hfar _ (by omega)]
    exact hl i hi
  have hE : readD (crashD ks torn cc D) (x.mark.1.tmod 2) = packS x.mark.1 x.mark.2.1 x.mark.2.2 := by
    rw [hfar _ t3, h2 _ t1, h.here]
  have same : ∀ u : Mk, (unpackR (readD (crashD ks torn cc D) ((x.mark.1 + 1).tmod 2))).1 = u → (u.1 < x.mark.1 ∨ (x.mark.1 = 0 ∧ u.1 = 0)) → ∃ m rs', m.1 ≤ x.mark.1 + 1 ∧ (rs' = rs ∨ rs' = rs ++ [r0]) ∧ Live (crashD ks torn cc D) ⟨m, finB (recsB rs'), false⟩ rs' :=
    fun u hu hlt => ⟨x.mark, rs, by omega, .inl rfl, live_same h (hnc.trans hn) rfl rfl hsc (log_prefix hlog) hE hu hlt⟩
  rcases hat with e | ⟨c, e⟩
  · exact same k (by rw [e, unpack_pack hkm]) hkl
  · rcases hun : unpackR (readD (crashD ks torn cc D) ((x.mark.1 + 1).tmod 2)) with ⟨u, ok⟩
    rcases ok with _ | _
    · refine same u (by rw [hun]) ?_
      rw [unpack_none hun]
      show (0 : Int) < x.mark.1 ∨ (x.mark.1 = 0 ∧ (0 : Int) = 0)
      omega
    · have hne : (nextM x (tRec r0)).1 ≠ k.1 := by
        show x.mark.1 + 1 ≠ k.1
        omega
      rcases torn_unpack hm hkm hne (by rw [← e]; exact hun) with hu | hu
      · obtain ⟨hh, -⟩ := unpack_has hun
        rw [hu] at hh
        exact ⟨nextM x (tRec r0), rs ++ [r0], Int.le_refl _, .inr rfl, live_next h (hnc.trans hn) rfl rfl hsc hlog hE hh hr hr1 he hc⟩
      · exact same u (by rw [hun]) (by rw [hu]; exact hkl)
/-- THE COMMIT. -/
theorem commit_cases (h : Live d x rs) {j : Nat} (hp : OkP d.n j d) (hr : ((recsB rs ++ tRec r0).length : Int) ≤ roomD d) (hr1 : r0.length ≤ 1048576) (he : x.mark.1 < 1000000) (hc : rs.length < 1000000)
    {X : Log} {D : Dev} {er : Int} (hC : commitS d x (tRec r0) = (X, D, er)) :
    OkP d.n (j + ksL x (tRec r0) + 4) D ∧ ((er = 0 ∧ Live D X (rs ++ [r0]) ∧ D.armed = d.armed ∧ D.n = d.n ∧ X.mark = nextM x (tRec r0) ∧ readD D ((X.mark.1 + 1).tmod 2) = packS x.mark.1 x.mark.2.1 x.mark.2.2) ∨
      (er = 14 ∧ d.armed = true ∧ X = { x with broken := true } ∧ (Elder d x.mark → ∀ ks torn cc, cc ≤ 64 → ∃ m rs', m.1 ≤ x.mark.1 + 1 ∧ (rs' = rs ∨ rs' = rs ++ [r0]) ∧ Live (crashD ks torn cc D) ⟨m, finB (recsB rs'), false⟩ rs'))) := by
  have hm := next_ok h hr he hc
  have h0 := h.e0
  have ha : atL x = 2 + (((recsB rs).length / 64 : Nat) : Int) := by unfold atL; rw [h.disk.bytes, Int.toNat_natCast]
  have hsl : (x.fin ++ tRec r0).length = (recsB rs ++ tRec r0).length - 64 * ((recsB rs).length / 64) := by rw [h.fin, finB_append, List.length_drop]
  have hn1 := h.disk.n1
  have hr2 := hr
  unfold roomD at hr2
  have hla : (recsB rs).length ≤ (recsB rs ++ tRec r0).length := by rw [List.length_append]; omega
  have hks : ksL x (tRec r0) = (x.fin ++ tRec r0).length / 64 + 1 := rfl
  have hokI := fun i hi => hp.devI (k := ksL x (tRec r0)) (a := atL x) (s := x.fin ++ tRec r0) (m := nextM x (tRec r0)) (by omega) (by omega) (by show 0 ≤ x.mark.1 + 1; omega) i hi
  have t1 : x.mark.1.tmod 2 < 2 := Int.tmod_lt_of_pos _ (by omega)
  have t2 : (x.mark.1 + 1).tmod 2 < 2 := Int.tmod_lt_of_pos _ (by omega)
  have t4 : 0 ≤ (x.mark.1 + 1).tmod 2 := Int.tmod_nonneg _ (by omega)
  have t3 : x.mark.1.tmod 2 ≠ (x.mark.1 + 1).tmod 2 := by
    by_cases hp : x.mark.1 % 2 = 0
    · obtain ⟨e1, e2⟩ := tmod_even h0 hp; omega
    · obtain ⟨e1, e2⟩ := tmod_odd h0 hp; omega
  have t5 : (x.mark.1 + 1 + 1).tmod 2 = x.mark.1.tmod 2 := by
    rw [Int.tmod_eq_emod_of_nonneg h0, Int.tmod_eq_emod_of_nonneg (by omega)]; omega
  have hcn : ∀ D' : Dev, OkP d.n (j + ksL x (tRec r0) + 4) D' → ∀ ks torn cc, cc ≤ 64 → SafeOk (crashD ks torn cc D') ∧ (crashD ks torn cc D').n = D'.n := by
    intro D' ho ks torn cc hcc
    have := ho.crash ks torn hcc
    exact ⟨this.2.2.2.2.2.2.2, this.1.trans ho.1.symm⟩
  obtain ⟨i, p1, p2, p3, p4, p5, p6⟩ := puts_plain (ksL x (tRec r0)) d (atL x) (x.fin ++ tRec r0) (by omega) h.disk.on (fun j hj => hasD_of (by omega) (by omega))
  rw [h.waits, List.nil_append] at p2
  have o1 := hokI 1 (by omega)
  have o2 := hokI 2 (by omega)
  have o3 := hokI 3 (by omega)
  have o4 := hokI 4 (by omega)
  rcases p6 with ⟨q1, q2, q3⟩ | ⟨q1, q2, q3⟩
  · subst q2
    rcases flush_plain q3 with ⟨f1, f2, f3, f4, f5, f6, f7⟩ | ⟨f1, f2, f3, f4, f5, f6⟩
    · obtain ⟨l1, l2⟩ := after_flush h p2 p3 f6
      have hk2 : hasD (flushR (putsF (ksL x (tRec r0)) d (atL x) (x.fin ++ tRec r0)).1).n ((x.mark.1 + 1).tmod 2) = true := by
        rw [f4, p4]
        have := h.disk.n0
        exact hasD_of t4 (by omega)
      obtain ⟨w1, w2, w3, w4, w5⟩ := write_plain (k := (x.mark.1 + 1).tmod 2) (s := packS (nextM x (tRec r0)).1 (nextM x (tRec r0)).2.1 (nextM x (tRec r0)).2.2) f3 hk2 (packS_length _ _ _)
      rw [f2, List.nil_append] at w1
      have hrd3 : ∀ q, readD (devI d (ksL x (tRec r0)) (atL x) (x.fin ++ tRec r0) (nextM x (tRec r0)) 3) q = if (x.mark.1 + 1).tmod 2 = q then packS (nextM x (tRec r0)).1 (nextM x (tRec r0)).2.1 (nextM x (tRec r0)).2.2 else readD (flushR (putsF (ksL x (tRec r0)) d (atL x) (x.fin ++ tRec r0)).1) q := by
        intro q
        show readD (writeR _ ((x.mark.1 + 1).tmod 2) _) q = _
        unfold readD
        rw [w1, f2]
        simp only [lastW, Option.none_or]
        rw [safeD_same w2]
        by_cases hq : (x.mark.1 + 1).tmod 2 = q
        · rw [if_pos hq, if_pos hq]; rfl
        · rw [if_neg hq, if_neg hq]
      have e0 : errI d (ksL x (tRec r0)) (atL x) (x.fin ++ tRec r0) (nextM x (tRec r0)) 0 = 0 := q1
      have e1 : errI d (ksL x (tRec r0)) (atL x) (x.fin ++ tRec r0) (nextM x (tRec r0)) 1 = 0 := f1
      rcases w5 with ⟨g1, g2⟩ | ⟨g1, g2, g3⟩
      · have e2 : errI d (ksL x (tRec r0)) (atL x) (x.fin ++ tRec r0) (nextM x (tRec r0)) 2 = 0 := g1
        rcases flush_plain g2 with ⟨k1, k2, k3, k4, k5, k6, k7⟩ | ⟨k1, k2, k3, k4, k5, k6⟩
        · have e3 : errI d (ksL x (tRec r0)) (atL x) (x.fin ++ tRec r0) (nextM x (tRec r0)) 3 = 0 := k1
          rw [commitS_good (fun j hj => by
            have h4 : j = 0 ∨ j = 1 ∨ j = 2 ∨ j = 3 := by omega
            rcases h4 with rfl | rfl | rfl | rfl
            · exact e0
            · exact e1
            · exact e2
            · exact e3)] at hC
          obtain ⟨rfl, rfl, rfl⟩ : _ = X ∧ _ = D ∧ _ = er := by
            have := Prod.mk.inj hC
            exact ⟨this.1, (Prod.mk.inj this.2).1, (Prod.mk.inj this.2).2⟩
          have r4 : ∀ q, readD (devI d (ksL x (tRec r0)) (atL x) (x.fin ++ tRec r0) (nextM x (tRec r0)) 4) q = readD (devI d (ksL x (tRec r0)) (atL x) (x.fin ++ tRec r0) (nextM x (tRec r0)) 3) q := k6
          have hE : readD (devI d (ksL x (tRec r0)) (atL x) (x.fin ++ tRec r0) (nextM x (tRec r0)) 4) (x.mark.1.tmod 2) = packS x.mark.1 x.mark.2.1 x.mark.2.2 := by
            rw [r4, hrd3, if_neg (fun e => t3 e.symm), l2 _ t1, h.here]
          have hnn : (devI d (ksL x (tRec r0)) (atL x) (x.fin ++ tRec r0) (nextM x (tRec r0)) 4).n = d.n := o4.1
          have hL := live_next h hnn k3 k2 o4.2.2.2.2.2.2.2 (r0 := r0) (by
            intro i hi
            rw [r4, hrd3, if_neg (by omega)]
            exact l1 i hi) hE (by rw [r4, hrd3, if_pos rfl]) hr hr1 he hc
          have hfin : (x.fin ++ tRec r0).drop ((x.fin ++ tRec r0).length - (x.fin ++ tRec r0).length % 64) = finB (recsB (rs ++ [r0])) := by
            rw [recsB_snoc, h.fin]
            unfold finB
            rw [show (recsB rs).drop ((recsB rs).length - (recsB rs).length % 64) ++ tRec r0 = finB (recsB rs) ++ tRec r0 from rfl, finB_append, List.drop_drop, List.length_drop]
            congr 1
            omega
          rw [hfin]
          refine ⟨o4, .inl ⟨rfl, hL, k5.trans (w4.trans (f5.trans p5)), hnn, rfl, ?_⟩⟩
          show readD _ ((x.mark.1 + 1 + 1).tmod 2) = _
          rw [t5]
          exact hE
        · have e3 : errI d (ksL x (tRec r0)) (atL x) (x.fin ++ tRec r0) (nextM x (tRec r0)) 3 = 14 := k1
          rw [commitS_bad (i := 3) (by omega) (fun j hj => by
            have h4 : j = 0 ∨ j = 1 ∨ j = 2 := by omega
            rcases h4 with rfl | rfl | rfl
            · exact e0
            · exact e1
            · exact e2) (by rw [e3]; decide), e3] at hC
          obtain ⟨rfl, rfl, rfl⟩ : _ = X ∧ _ = D ∧ _ = er := by
            have := Prod.mk.inj hC
            exact ⟨this.1, (Prod.mk.inj this.2).1, (Prod.mk.inj this.2).2⟩
          have hnn : (devI d (ksL x (tRec r0)) (atL x) (x.fin ++ tRec r0) (nextM x (tRec r0)) 4).n = d.n := o4.1
          refine ⟨o4, .inr ⟨rfl, ((p5.symm.trans f5.symm).trans w4.symm).trans k2, rfl, fun hel ks torn cc hcc => ?_⟩⟩
          obtain ⟨c1, c2⟩ := hcn _ o4 ks torn cc hcc
          exact crash_new h hel (D2 := flushR (putsF (ksL x (tRec r0)) d (atL x) (x.fin ++ tRec r0)).1) (k4.trans w1) (fun q => by
            rw [readD_quiet f2]
            exact safeD_same (k5.trans w2) q) l1 l2 hnn o4.2.2.2.2.2.2.2 hr hr1 he hc ks torn hcc c1 c2
      · have e2 : errI d (ksL x (tRec r0)) (atL x) (x.fin ++ tRec r0) (nextM x (tRec r0)) 2 = 14 := g1
        rw [commitS_bad (i := 2) (by omega) (fun j hj => by
          have h4 : j = 0 ∨ j = 1 := by omega
          rcases h4 with rfl | rfl
          · exact e0
          · exact e1) (by rw [e2]; decide), e2] at hC
        obtain ⟨rfl, rfl, rfl⟩ : _ = X ∧ _ = D ∧ _ = er := by
          have := Prod.mk.inj hC
          exact ⟨this.1, (Prod.mk.inj this.2).1, (Prod.mk.inj this.2).2⟩
        have hnn : (devI d (ksL x (tRec r0)) (atL x) (x.fin ++ tRec r0) (nextM x (tRec r0)) 3).n = d.n := o3.1
        refine ⟨o3, .inr ⟨rfl, (p5.symm.trans f5.symm).trans g2, rfl, fun hel ks torn cc hcc => ?_⟩⟩
        obtain ⟨c1, c2⟩ := hcn _ o3 ks torn cc hcc
        exact crash_new h hel (D2 := flushR (putsF (ksL x (tRec r0)) d (atL x) (x.fin ++ tRec r0)).1) w1 (fun q => by
          rw [readD_quiet f2]
          exact safeD_same w2 q) l1 l2 hnn o3.2.2.2.2.2.2.2 hr hr1 he hc ks torn hcc c1 c2
    · have e0 : errI d (ksL x (tRec r0)) (atL x) (x.fin ++ tRec r0) (nextM x (tRec r0)) 0 = 0 := q1
      have e1 : errI d (ksL x (tRec r0)) (atL x) (x.fin ++ tRec r0) (nextM x (tRec r0)) 1 = 14 := f1
      rw [commitS_bad (i := 1) (by omega) (fun j hj => by
        obtain rfl : j = 0 := by omega
        exact e0) (by rw [e1]; decide), e1] at hC
      obtain ⟨rfl, rfl, rfl⟩ : _ = X ∧ _ = D ∧ _ = er := by
        have := Prod.mk.inj hC
        exact ⟨this.1, (Prod.mk.inj this.2).1, (Prod.mk.inj this.2).2⟩
      refine ⟨o2, .inr ⟨rfl, p5.symm.trans f2, rfl, fun hel ks torn cc hcc => ⟨x.mark, rs, by omega, .inl rfl, ?_⟩⟩⟩
      obtain ⟨c1, c2⟩ := hcn _ o2 ks torn cc hcc
      exact crash_old h (i := ((x.fin ++ tRec r0).length + 63) / 64) (f4.trans p2) (Nat.le_refl _) (f5.trans p3) o2.1 o2.2.2.2.2.2.2.2 ks torn hcc c1 c2
  · have e0 : errI d (ksL x (tRec r0)) (atL x) (x.fin ++ tRec r0) (nextM x (tRec r0)) 0 = 14 := q1
    rw [commitS_bad (i := 0) (by omega) (fun j hj => absurd hj (Nat.not_lt_zero j)) (by rw [e0]; decide), e0] at hC
    obtain ⟨rfl, rfl, rfl⟩ : _ = X ∧ _ = D ∧ _ = er := by
      have := Prod.mk.inj hC
      exact ⟨this.1, (Prod.mk.inj this.2).1, (Prod.mk.inj this.2).2⟩
    refine ⟨o1, .inr ⟨rfl, q2, rfl, fun hel ks torn cc hcc => ⟨x.mark, rs, by omega, .inl rfl, ?_⟩⟩⟩
    obtain ⟨c1, c2⟩ := hcn _ o1 ks torn cc hcc
    exact crash_old h p2 p1 p3 o1.1 o1.2.2.2.2.2.2.2 ks torn hcc c1 c2
end
end Go.Proofs.Ytiighehibiijcaa

namespace Go.Proofs.Ytiighehibiijcaa
open Go.RowKit
set_option linter.unusedSimpArgs false
set_option linter.unnecessarySimpa false
set_option linter.unusedVariables false

section
variable {w w' : World} {h g gm cap B : Nat} {v v' : Value} {d : Dev}
theorem IsDev.belowL {B0 : Nat} (hd : IsDev w g gm v cap B d) (ht : TouchL h g gm w v w' v') (hB : B0 ≤ B) (hh : B0 ≤ h) (hw : B0 ≤ w.heap.size) : Below B0 w w' :=
  ⟨ht.os, ht.tape, ht.output, ht.size, fun i hi => ht.block i (by omega) (by omega) (by have := hd.2.2.2.1; omega) (by have := hd.2.2.2.2; omega) (fun e => by have := (hd.2.2.1.own_lt e).2; omega)⟩
theorem IsDev.keepL {i : Nat} {t : TypeId} {cs cx : Array Value} (hd : IsDev w g gm v cap B d) (ht : TouchL h g gm w v w' v') (hx : Blk w h 78 cx) (hb : Blk w i t cs) (h1 : t ≠ 60) (h2 : t ≠ 91) (h3 : t ≠ 78) : Blk w' i t cs := by
  refine (ht.block i hb.lt (blk_ne hb hx h3) ?_ (hd.2.1.ne hb) (hd.2.2.1.ne hb h2)).trans hb
  rintro rfl
  have h4 := hd.1
  unfold Blk at h4 hb
  rw [hb] at h4
  injection h4 with h4
  injection h4 with _ h4 _
  exact h1 h4
end

theorem pack_zero : packS 0 0 0 = zero64 := by kernel_rfl
theorem Live.new {n : Int} (h0 : 3 ≤ n) (h1 : n ≤ 4096) : Live (newD n) ⟨(0, 0, 0), [], false⟩ [] := by
  have hr : ∀ q, readD (newD n) q = packS 0 0 0 := fun q => pack_zero.symm
  have hk : MkOk (0, 0, 0) := by unfold MkOk; simp only []; omega
  have hw0 : WaitOk (newD n).n (newD n).waits := by intro p hp; cases hp
  refine ⟨⟨rfl, h0, h1, (fun k s h => by cases h), hw0, ?_, rfl, rfl, ?_, (fun i hi => absurd hi (Nat.not_lt_zero i)), (fun r hr => by cases hr)⟩, rfl, rfl, rfl, hr _, Int.le_refl _, by decide, Nat.zero_le _⟩
  · unfold markS
    rw [hr, hr, unpack_pack hk]
    rfl
  · show (0 : Int) ≤ roomD (newD n)
    unfold roomD
    show (0 : Int) ≤ (n - 2) * 64
    omega
theorem Elder.new (n : Int) : Elder (newD n) (0, 0, 0) := ⟨(0, 0, 0), pack_zero.symm, by unfold MkOk; simp only []; omega, .inr ⟨rfl, rfl⟩⟩
theorem Elder.next {D : Dev} {m k : Mk} (h : readD D ((m.1 + 1).tmod 2) = packS k.1 k.2.1 k.2.2) (hk : MkOk k) (hlt : k.1 < m.1) : Elder D m := ⟨k, h, hk, .inl hlt⟩
theorem Live.like {d D : Dev} {x : Log} {rs : List (List UInt8)} (h : Live d x rs) (hn : D.n = d.n) (ho : D.on = true) (hw : D.waits = []) (hs : D.safe = d.safe) : Live D x rs := by
  have hr : ∀ q, readD D q = readD d q := fun q => by rw [readD_quiet hw, readD_quiet h.waits, safeD_same hs]
  have hw0 : WaitOk D.n D.waits := by rw [hw]; intro p hp; cases hp
  refine ⟨⟨ho, by rw [hn]; exact h.disk.n0, by rw [hn]; exact h.disk.n1, by unfold SafeOk; rw [hs]; exact h.disk.safe, hw0, ?_, h.disk.bytes, h.disk.count, ?_, ?_, h.disk.small⟩, hw, h.fin, h.ok, ?_, h.e0, h.e1, h.r1⟩
  · rw [← h.disk.mark]; unfold markS; rw [hr, hr]
  · have := h.disk.room
    unfold roomD at this ⊢
    rw [hn]; exact this
  · intro i hi; rw [hr]; exact h.disk.log i hi
  · rw [hr]; exact h.here
theorem Elder.like {d D : Dev} {m : Mk} (h : Elder d m) (hr : ∀ q, readD D q = readD d q) : Elder D m := by
  obtain ⟨k, e, hk, hl⟩ := h
  exact ⟨k, (hr _).trans e, hk, hl⟩
theorem crash_quiet {d : Dev} (hw : d.waits = []) (ks : List Bool) (torn : Int) (cc : Nat) : (crashD ks torn cc d).n = d.n ∧ (crashD ks torn cc d).safe = d.safe ∧ (crashD ks torn cc d).on = true ∧ (crashD ks torn cc d).waits = [] ∧ (crashD ks torn cc d).armed = false := by
  unfold crashD
  rw [hw]
  exact ⟨rfl, rfl, rfl, rfl, rfl⟩
theorem Live.crash {d : Dev} {x : Log} {rs : List (List UInt8)} (h : Live d x rs) (ks : List Bool) (torn : Int) (cc : Nat) : Live (crashD ks torn cc d) x rs := by
  obtain ⟨h1, h2, h3, h4, h5⟩ := crash_quiet h.waits ks torn cc
  exact h.like h1 h3 h4 h2
theorem Live.arm {d : Dev} {x : Log} {rs : List (List UInt8)} (h : Live d x rs) (n : Int) : Live (armD d n) x rs := h.like rfl h.disk.on h.waits rfl
theorem halves_small : ∀ (k : Nat) (l : List UInt8), l.length = k → k ≤ 250 → 1 ≤ (halves l).1 ∧ (halves l).1 ≤ 1 + 255 * k := by
  intro k
  induction k with
  | zero =>
    intro l hl _
    obtain rfl := List.length_eq_zero_iff.1 hl
    rw [halves_nil]; decide
  | succ k ih =>
    intro l hl hk
    rcases List.eq_nil_or_concat l with rfl | ⟨l, c, rfl⟩
    · simp at hl
    · rw [List.concat_eq_append] at hl ⊢
      rw [halves_snoc]
      obtain ⟨h1, h2⟩ := ih l (by simpa using hl) (by omega)
      have hc := c.toNat_lt
      unfold addOn
      simp only []
      omega
theorem digsF_pos {k n : Nat} (h : n ≠ 0) : 1 ≤ (digsF (k + 1) n).length := by
  unfold digsF
  rw [if_neg h, List.length_append]
  simp
theorem tRec_most (r : List UInt8) : (tRec r).length ≤ r.length + 12 := by
  have hb := sumN_bounds (tText 82 r)
  have h4 : (digs (sumN (tText 82 r)).toNat).length ≤ 4 := by
    unfold digs
    rw [digsF_enough 4 8 _ (by omega) (by omega)]
    exact digsF_length 4 _
  unfold tRec
  rw [List.length_append, tText_length, tNum_length]
  omega
theorem tRec_least (r : List UInt8) (h : r.length ≤ 200) : r.length + 9 ≤ (tRec r).length := by
  have hb := halves_small _ (tText 82 r) rfl (by rw [tText_length]; omega)
  have hc := halves_bounds (tText 82 r)
  have h1 : 1 ≤ (digs (sumN (tText 82 r)).toNat).length := by
    unfold digs
    refine digsF_pos (k := 7) ?_
    unfold sumN
    omega
  unfold tRec
  rw [List.length_append, tText_length, tNum_length]
  omega
/-- Commit of a log that stands open: too long, or done, or power went. -/
theorem commitR_full {d : Dev} {x : Log} {rs : List (List UInt8)} (h : Live d x rs) {r0 : List UInt8} (hr : roomD d < ((recsB rs ++ tRec r0).length : Int)) : commitR d x r0 = (x, d, 15) := by
  unfold commitR
  rw [h.ok, if_neg (by simp), if_pos (by rw [h.disk.bytes]; rw [List.length_append] at hr; omega)]
theorem commitR_goes {d : Dev} {x : Log} {rs : List (List UInt8)} (h : Live d x rs) {r0 : List UInt8} (hr : ((recsB rs ++ tRec r0).length : Int) ≤ roomD d) : commitR d x r0 = commitS d x (tRec r0) := by
  unfold commitR
  rw [h.ok, if_neg (by simp), if_neg (by rw [h.disk.bytes]; rw [List.length_append] at hr; omega)]
end Go.Proofs.Ytiighehibiijcaa

namespace Go.Proofs.Ytiighehibiijcaa
open Go.RowKit
set_option linter.unusedSimpArgs false
set_option linter.unnecessarySimpa false
set_option linter.unusedVariables false

theorem short_any (s : List UInt8) (n : Nat) (w : World) :
    Calls Try.prog 39 #[str s, .int .i64 n] w fun e w' => e = .returned (str (s.take n)) ∧ w = w' := by
  by_cases h : n < s.length
  · have h1 : decide ((n : Int) < (s.length : Int)) = true := by simpa using h
    go_enter Try.func39, Try.ntmps39
    go_wp2
    go_ret
    exact ⟨rfl, rfl⟩
  · have h1 : decide ((n : Int) < (s.length : Int)) = false := by simpa using h
    have h2 : s.take n = s := List.take_of_length_le (by omega)
    rw [h2]
    go_enter Try.func39, Try.ntmps39
    go_wp2
    go_ret
    exact ⟨rfl, rfl⟩
theorem aw_cut : unpackR ((packS 1 2 3).take 63 ++ [120]) = ((0, 0, 0), false) := by kernel_rfl
theorem aw_mark : unpackR (packS 1 2 3) = ((1, 2, 3), true) := unpack_pack (m := (1, 2, 3)) (by unfold MkOk; simp only []; omega)
theorem aw_open : openR (newD 10) = (some ⟨(0, 0, 0), [], false⟩, [], 0) := (Live.new (n := 10) (by omega) (by omega)).open
/-- A commit that is done: the device is not armed. -/
theorem commit_done {d : Dev} {x : Log} {rs : List (List UInt8)} {r0 : List UInt8} (h : Live d x rs) {j : Nat} (hp : OkP d.n j d) (harm : d.armed = false) (hr : ((recsB rs ++ tRec r0).length : Int) ≤ roomD d) (hr1 : r0.length ≤ 1048576) (he : x.mark.1 < 1000000) (hc : rs.length < 1000000) :
    ∃ X D, commitR d x r0 = (X, D, 0) ∧ Live D X (rs ++ [r0]) ∧ OkP d.n (j + ksL x (tRec r0) + 4) D ∧ D.armed = false ∧ D.n = d.n ∧ X.mark = nextM x (tRec r0) ∧ readD D ((X.mark.1 + 1).tmod 2) = packS x.mark.1 x.mark.2.1 x.mark.2.2 := by
  rcases hC : commitS d x (tRec r0) with ⟨X, D, er⟩
  obtain ⟨ho, ⟨rfl, h1, h2, h3, h4, h5⟩ | ⟨-, h6, -⟩⟩ := commit_cases h hp hr hr1 he hc hC
  · exact ⟨X, D, by rw [commitR_goes h hr, hC], h1, ho, h2.trans harm, h3, h4, h5⟩
  · rw [harm] at h6; cases h6
end Go.Proofs.Ytiighehibiijcaa

namespace Go.Proofs.Ytiighehibiijcaa
open Go.RowKit
set_option linter.unusedSimpArgs false
set_option linter.unnecessarySimpa false
set_option linter.unusedVariables false

theorem OwnS.shape {w : World} {B : Nat} {v : Value} {L : List (List UInt8)} (h : OwnS w B v L) : ∃ p c, v = .slice p L.length c := by
  rcases h.read with ⟨rfl, rfl⟩ | ⟨g, cap, e, -⟩
  · exact ⟨Option.none, 0, rfl⟩
  · exact ⟨_, _, e⟩
theorem packS_named : ∃ s, packS 1 2 3 = s ∧ s.length = 64 ∧ unpackR (s.take 63 ++ [120]) = ((0, 0, 0), false) ∧ unpackR s = ((1, 2, 3), true) := ⟨_, rfl, packS_length _ _ _, aw_cut, aw_mark⟩

set_option maxRecDepth 100000 in
set_option maxHeartbeats 3200000 in
theorem awake07_any (w : World) : Calls Try.prog 35 #[] w fun e w' => e = .returned (.bool true) ∧ Below w.heap.size w w' := by
  obtain ⟨X, D, hC, hL, hO, hA, hN, -, -⟩ := commit_done (r0 := [97]) (Live.new (n := 10) (by omega) (by omega)) (OkP.new 10) rfl (by
    have := tRec_most [97]
    have h2 : ([97] : List UInt8).length = 1 := rfl
    unfold roomD
    show (((recsB [] ++ tRec [97]).length : Nat) : Int) ≤ (10 - 2) * 64
    rw [show recsB [] ++ tRec [97] = tRec [97] from rfl]
    omega) (by simp) (by decide) (by simp)
  obtain ⟨s, hs, hsl, hsc, hsu⟩ := packS_named
  have hop := (hL.crash [] 0 0).open
  have hok2 := hO.crash [] 0 (Nat.zero_le 64)
  have HLL := Lib.hid hL
  have HCC := Lib.hid hC
  have HOP := Lib.hid hop
  have HOK := Lib.hid hO
  have HOK2 := Lib.hid hok2
  have HP := Lib.hid hs
  have HSC := Lib.hid hsc
  have HSU := Lib.hid hsu
  have HN := Lib.hid (show D.n = 10 from hN)
  have hw0 : D.waits = [] := hL.waits
  have HW := Lib.hid hw0
  clear hL hC hop hO hok2 hs hsc hsu hN hA hw0
  go_enter Try.func35, Try.ntmps35
  go_wp2_with fail
  refine (new_any _ 10 (by omega) (by omega)).mono ?_
  rintro e w1 ⟨rfl, hd1, hb1⟩
  obtain ⟨g, hg⟩ : ∃ g, w.heap.size + 1 = g := ⟨_, rfl⟩
  obtain ⟨gm, hgm⟩ : ∃ gm, w.heap.size = gm := ⟨_, rfl⟩
  rw [hg, hgm] at hd1
  rw [hg]
  have z1 : gm ≤ w1.heap.size := by have := hb1.size; omega
  have HD1 := Lib.hid hd1
  have HB1 := Lib.hid (show Below gm w w1 by rw [← hgm]; exact hb1)
  clear hd1 hb1
  go_wp2_with fail
  refine (open_any _ g gm _ _ _ _ HD1.out (by decide) (by decide) (fun k s h => by cases h) (by intro p hp; cases hp) (by decide) _ aw_open).mono ?_
  rintro e w2 ⟨⟨h, va, rfl, hh, hx, ha⟩, hb2⟩
  obtain ⟨pa, ca, rfl⟩ := ha.shape
  have HH := Lib.hid (show gm ≤ h by omega)
  have HX2 := Lib.hid hx
  have HD2 := Lib.hid (HD1.out.step hb2)
  have HB2 := Lib.hid (HB1.out.trans (hb2.mono z1))
  have z2 : gm ≤ w2.heap.size := by have := hb2.size; omega
  clear ha hx hb2 hh
  go_wp2_with fail
  refine (commit_any _ h g gm _ _ _ _ _ [97] HX2.out HD2.out (by decide) (by decide) (by decide) (Live.new (n := 10) (by omega) (by omega)).log_ok 0 (OkP.new 10) (by omega) (by omega) _ HCC.out).mono ?_
  rintro e w3 ⟨v3, cap3, rfl, hc3, hd3, hx3, ht3⟩
  have HD3 := Lib.hid (show IsDev w3 g gm v3 cap3 gm D from hd3)
  have HB3 := Lib.hid (HB2.out.trans (HD2.out.belowL ht3 (Nat.le_refl _) HH.out z2))
  have z3 : gm ≤ w3.heap.size := by have := ht3.size; omega
  have HCA := Lib.hid hc3
  clear hd3 hx3 ht3 hc3
  go_wp2_with fail
  refine (crash_any _ g gm _ _ _ _ _ [] 0 0 HD3.out (KeepIs.none _ _ _ _) HLL.out.disk.safe HLL.out.disk.wait (by rw [HN.out]; decide) (by rw [HW.out]; have := HCA.out; simp only [List.length_nil]; omega)).mono ?_
  rintro e w4 ⟨rfl, cap4, hc4, hd4, ht4⟩
  have HD4 := Lib.hid (show IsDev w4 g gm (.slice none 0 0) cap4 gm (crashD [] 0 0 D) from hd4)
  have HB4 := Lib.hid (HB3.out.trans (HD3.out.below ht4 (Nat.le_refl _) z3))
  have z4 : gm ≤ w4.heap.size := by have := ht4.size; omega
  clear hd4 ht4 hc4
  go_wp2_with fail
  refine (open_any _ g gm _ _ _ _ HD4.out (by rw [HOK2.out.1]; decide) (by rw [HOK2.out.1]; decide) HOK2.out.2.2.2.2.2.2.2 (by rw [HOK2.out.1]; exact HOK2.out.2.2.2.2.2.2.1) (by show (0 : Nat) < _; omega) _ HOP.out).mono ?_
  rintro e w5 ⟨⟨h5, vb, rfl, hh5, hx5, hr5⟩, hb5⟩
  have HB5 := Lib.hid (HB4.out.trans (hb5.mono z4))
  have z5 : gm ≤ w5.heap.size := by have := hb5.size; omega
  rcases hr5.read with ⟨-, h0⟩ | ⟨gb, cb, rfl, hgb, hlt, -, -, hat⟩
  · cases h0
  have cb0 : w5.cell? ⟨gb, 0, none⟩ = some (str [97]) := hat 0 (by decide)
  have HR5 := Lib.hid hr5
  clear hr5 hat hb5 hx5 hh5
  go_wp2_with fail
  refine (pack_any 1 2 3 _).mono ?_
  rw [HP.out]
  rintro e w6 ⟨rfl, hb6⟩
  have cb1 : w6.cell? ⟨gb, 0, none⟩ = some (str [97]) := by rw [hb6.cell (by simpa using hlt)]; exact cb0
  have l6 : gb < w6.heap.size := by have := hb6.size; omega
  have HB6 := Lib.hid (HB5.out.trans (hb6.mono z5))
  have z6 : gm ≤ w6.heap.size := by have := hb6.size; omega
  clear hb6 cb0
  go_wp2_with fail
  refine (unpack_any (s.take 63 ++ [120]) (by simp; omega) _ 0 0 0 false HSC.out).mono ?_
  rintro e w7 ⟨rfl, hb7⟩
  have cb2 : w7.cell? ⟨gb, 0, none⟩ = some (str [97]) := by rw [hb7.cell l6]; exact cb1
  have l7 : gb < w7.heap.size := by have := hb7.size; omega
  have HB7 := Lib.hid (HB6.out.trans (hb7.mono z6))
  have z7 : gm ≤ w7.heap.size := by have := hb7.size; omega
  clear hb7 cb1
  go_wp2_with fail
  have hb8 : Below w7.heap.size w7 (w7.alloc (.cells zeroMark 62)) := (Below.refl _ _).alloc (Nat.le_refl _) _
  have cb3 : (w7.alloc (.cells zeroMark 62)).cell? ⟨gb, 0, none⟩ = some (str [97]) := by rw [hb8.cell l7]; exact cb2
  have l8 : gb < (w7.alloc (.cells zeroMark 62)).heap.size := by simp; omega
  have HB8 := Lib.hid (HB7.out.trans (hb8.mono z7))
  have z8 : gm ≤ (w7.alloc (.cells zeroMark 62)).heap.size := by simp; omega
  change Calls _ _ _ (w7.alloc (.cells zeroMark 62)) _
  clear hb8
  generalize w7.alloc (.cells zeroMark 62) = w8 at cb3 l8 HB8 z8 ⊢
  refine (unpack_any s (by omega) _ 1 2 3 true HSU.out).mono ?_
  rintro e w9 ⟨rfl, hb9⟩
  have cb4 : w9.cell? ⟨gb, 0, none⟩ = some (str [97]) := by rw [hb9.cell l8]; exact cb3
  have l9 : gb < w9.heap.size := by have := hb9.size; omega
  have HB9 := Lib.hid (HB8.out.trans (hb9.mono z8))
  have z9 : gm ≤ w9.heap.size := by have := hb9.size; omega
  clear hb9 cb3 cb2
  go_wp2_with fail
  go_ret
  exact ⟨rfl, by rw [hgm]; exact HB9.out.alloc z9 _⟩
end Go.Proofs.Ytiighehibiijcaa

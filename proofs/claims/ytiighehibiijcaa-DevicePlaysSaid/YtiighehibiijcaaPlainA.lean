/-
  Bytes, strings and a field of text as plain lists; how the walk spells them. No conditions beside those in each theorem.
-/
import Derived.Test.YtiighehibiijcaaRows
import Derived.WalkKit
import Derived.WalkSpells
import Derived.WalkLawsBesides
import Derived.Handy
import Derived.Lib.Hide
namespace Go.Proofs.Ytiighehibiijcaa
open Go.RowKit

/-- The byte of a number. -/
def byt (n : Int) : UInt8 := UInt8.ofNat n.toNat
theorem byt_toNat (n : Int) (h0 : 0 ≤ n) (h1 : n ≤ 255) : ((byt n).toNat : Int) = n := by
  obtain ⟨k, rfl⟩ := Int.eq_ofNat_of_zero_le h0
  unfold byt
  rw [Int.toNat_natCast, UInt8.toNat_ofNat']
  omega
theorem byt_of (b : UInt8) : byt (b.toNat : Int) = b := by
  unfold byt
  rw [Int.toNat_natCast]
  simp

/-- A string of the bytes l. -/
abbrev str (l : List UInt8) : Value := .string ⟨l.toArray⟩

@[go_sem] theorem extract_str (l : List UInt8) (a b : Nat) : (ByteArray.mk l.toArray).extract a b = ByteArray.mk ((l.drop a).take (b - a)).toArray := ByteArray.extract_mk l a b

@[go_sem] theorem index_str (l : List UInt8) (k : Nat) (h : k < (ByteArray.mk l.toArray).size) : (ByteArray.mk l.toArray)[k]'h = l[k]'(by exact h) := by
  show (ByteArray.mk l.toArray).get k h = _
  simp [ByteArray.get]
@[go_sem] theorem append_str (a b : List UInt8) : (ByteArray.mk a.toArray) ++ (ByteArray.mk b.toArray) = ByteArray.mk (a ++ b).toArray := by
  apply ByteArray.ext
  simp [ByteArray.data_append]

/-- A field's head. -/
def hd (c : Int) (n : Int) : List UInt8 := [byt c, byt (n / 65536 % 256), byt (n / 256 % 256), byt (n % 256)]
@[go_sem] theorem hd_length (c n : Int) : (hd c n).length = 4 := rfl
/-- A text's field. -/
def tText (c : Int) (s : List UInt8) : List UInt8 := hd c s.length ++ s
@[go_sem] theorem tText_length (c : Int) (s : List UInt8) : (tText c s).length = 4 + s.length := by simp [tText, hd]; omega

/-- 'string(b)' of a new block of bytes. -/
theorem run_str_new {P : Program} (w : World) (src dst e t : TypeId) (ns : List Int) (n cap : Nat) (hn : n = ns.length) (hb : ∀ x ∈ ns, 0 ≤ x ∧ x ≤ 255)
    (hs : P.underlying src = some (.slice e)) (he : P.underlying e = some (.int .u8)) (hd : P.underlying dst = some .string) :
    (convert src dst (.slice (some ⟨w.heap.size, 0, none⟩) n cap)).run P (w.alloc (.cells (ns.map (Value.int .u8)).toArray t)) = .ok (str (ns.map byt)) (w.alloc (.cells (ns.map (Value.int .u8)).toArray t)) := by
  subst hn
  have := run_convert_bytes_back (P := P) (w.alloc (.cells (ns.map (Value.int .u8)).toArray t)) src dst e ⟨w.heap.size, 0, none⟩ cap (ns.map byt) hs he hd (by
    intro j hj
    have hj' : j < ns.length := by simpa using hj
    have ha : (⟨w.heap.size, 0, none⟩ : Addr).add j = ⟨w.heap.size, j, none⟩ := by
      unfold Addr.add
      split
      · subst_vars; rfl
      · simp
    rw [ha, World.cell?_alloc_mark]
    have hb' := hb ns[j] (List.getElem_mem hj')
    simp [hj', byt_toNat _ hb'.1 hb'.2])
  simpa using this

theorem run_str_head {P : Program} (w : World) (src dst e t : TypeId) (c n : Int) (c0 : 0 ≤ c) (c1 : c ≤ 255)
    (hs : P.underlying src = some (.slice e)) (he : P.underlying e = some (.int .u8)) (hd : P.underlying dst = some .string) :
    (convert src dst (.slice (some ⟨w.heap.size, 0, none⟩) 4 4)).run P (w.alloc (.cells #[.int .u8 c, .int .u8 (n / 65536 % 256), .int .u8 (n / 256 % 256), .int .u8 (n % 256)] t)) =
      .ok (.string ⟨(Proofs.Ytiighehibiijcaa.hd c n).toArray⟩) (w.alloc (.cells #[.int .u8 c, .int .u8 (n / 65536 % 256), .int .u8 (n / 256 % 256), .int .u8 (n % 256)] t)) :=
  run_str_new (P := P) w src dst e t [c, n / 65536 % 256, n / 256 % 256, n % 256] 4 4 rfl (by simp; omega) hs he hd

theorem bcell {W w1 : World} (hb : Below W.heap.size W w1) : (∀ b o, b < W.heap.size → w1.cell? ⟨b, o, none⟩ = W.cell? ⟨b, o, none⟩) ∧ (∀ b o, b < W.heap.size → w1.frozen? ⟨b, o, none⟩ = W.frozen? ⟨b, o, none⟩) :=
  ⟨fun b o h => hb.cell (p := ⟨b, o, none⟩) h, fun b o h => hb.frozen (p := ⟨b, o, none⟩) h⟩
theorem bel_step {w W w1 : World} (h : Below w.heap.size w W) (hb : Below W.heap.size W w1) : Below w.heap.size w w1 := h.trans (hb.mono h.size)

end Go.Proofs.Ytiighehibiijcaa

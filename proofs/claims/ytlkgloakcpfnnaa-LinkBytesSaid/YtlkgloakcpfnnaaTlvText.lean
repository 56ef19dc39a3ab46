/-
  What tlv.heads and tlv.Text return: the field of a text of at most 16777215 bytes. No conditions beside those in each theorem.
-/
import Derived.Test.YtlkgloakcpfnnaaPlainA
namespace Go.Proofs.Ytlkgloakcpfnnaa
open Go.RowKit

set_option maxHeartbeats 400000 in
theorem heads_any (c n : Int) (w : World) (h0 : 0 ≤ n) (h1 : n ≤ 16777215) :
    Calls Try.prog 66 #[.int .u8 c, .int .i64 n] w fun e w' => e = .returned (.agg #[.int .u8 c, .int .u8 (n / 65536 % 256), .int .u8 (n / 256 % 256), .int .u8 (n % 256)]) ∧ Below w.heap.size w w' := by
  have h2 : n / 65536 % 256 = n / 65536 := by omega
  have H2 := Lib.hid h2
  clear h2
  go_enter Try.func66, Try.ntmps66
  go_wp2
  rw [H2.out]
  go_returns
  exact ⟨rfl, by go_grown⟩

set_option maxHeartbeats 400000 in
theorem text_any (c : Int) (s : List UInt8) (w : World) (c0 : 0 ≤ c) (c1 : c ≤ 255) (hs : s.length ≤ 16777215) :
    Calls Try.prog 44 #[.int .u8 c, str s] w fun e w' => e = .returned (str (tText c s)) ∧ Below w.heap.size w w' := by
  go_enter Try.func44, Try.ntmps44
  go_wp2_with (go_at_call 66; refine (heads_any _ _ _ (by omega) (by omega)).mono ?_; rintro e w1 ⟨rfl, hb⟩; have kc := run_str_head (P := Try.prog) w1 24 9 5 88 c s.length c0 c1 Try.underlying24 Try.underlying5 Try.underlying9)
  go_ret
  exact ⟨rfl, hb.alloc hb.size _⟩
end Go.Proofs.Ytlkgloakcpfnnaa

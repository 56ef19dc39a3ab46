/-
  Ends that hands leave fit; what hands that were shaken as they should leave. Plain Lean; no conditions beside those in each theorem.
-/
import Derived.Test.YtlkgloakcpfnnaaLaw15
namespace Go.Proofs.Ytlkgloakcpfnnaa
open Go.RowKit

def FitsE (e : En) : Prop := Fits e.2.1 ∧ Fits e.2.2.1 ∧ Fits e.2.2.2
theorem fits_noEn : FitsE noEn := ⟨Fits.nil, Fits.nil, Fits.nil⟩
theorem initR_fits {o p : List UInt8} {r : En} {er : Int} (h : initR o p = (r, er)) (fo : Fits o) (fp : Fits p) : FitsE r := by
  unfold initR at h
  split at h
  · injection h with h1 h2; subst h1; exact ⟨fo, fp, Fits.nil⟩
  · injection h with h1 h2; subst h1; exact fits_noEn
theorem tryR_fits {o p : List UInt8} {t r : En} {er : Int} (h : tryR o p t = (r, er)) (fo : Fits o) (fp : Fits p) (ft : FitsE t) : FitsE r := by
  unfold tryR at h
  split at h
  · injection h with h1 h2; subst h1; exact fits_noEn
  · split at h
    · injection h with h1 h2; subst h1; exact fits_noEn
    · injection h with h1 h2; subst h1; exact ⟨fo, ft.1, fp⟩
theorem opensR_fits {own t r : En} {k k' er : Int} {id peer : List UInt8} (h : opensR own k id peer t k' = (r, er)) (fo : FitsE own) (fp : Fits peer) : FitsE r := by
  unfold opensR at h
  split at h
  · injection h with h1 h2; subst h1; exact ⟨fo.1, fo.2.1, fp⟩
  · injection h with h1 h2; subst h1; exact fits_noEn
theorem ackR_fits {own t r : En} {er : Int} {id peer : List UInt8} (h : ackR own id peer t = (r, er)) (fo : FitsE own) (fp : Fits peer) : FitsE r := by
  unfold ackR at h
  split at h
  · injection h with h1 h2; subst h1; exact fits_noEn
  · exact opensR_fits h fo fp
theorem confirmR_fits {own t r : En} {er : Int} {id : List UInt8} (h : confirmR own id t = (r, er)) (fo : FitsE own) : FitsE r := opensR_fits h fo fo.2.2
theorem closeR_fits {own r : En} {er : Int} (h : closeR own = (r, er)) (fo : FitsE own) : FitsE r := by
  unfold closeR at h
  split at h
  · injection h with h1 h2; subst h1; exact fo
  · injection h with h1 h2; subst h1; exact fits_noEn

/-- All hands go. -/
theorem pair_yes {x y a b : List UInt8} (hx : partB x = true) (hy : partB y = true) (ha : partB a = true) (hb : partB b = true) :
    initR x y = ((1, x, y, []), 0) ∧ tryR y a (1, x, y, []) = ((2, y, x, a), 0) ∧ ackR (1, x, y, []) a b (2, y, x, a) = ((3, x, y, b), 0) ∧
      confirmR (2, y, x, a) b (3, x, y, b) = ((3, y, x, a), 0) := by
  simp [initR, tryR, ackR, confirmR, opensR, isE, meansE, checkE, hx, hy, ha, hb]
theorem no_of_a {x y a : List UInt8} (b : List UInt8) (h : checkE (3, x, y, a) = false) : ¬ (partB x = true ∧ partB y = true ∧ partB a = true ∧ partB b = true) := by
  intro hh
  rw [checkE_3, hh.1, hh.2.1, hh.2.2.1] at h
  cases h
theorem no_of_b {x y b : List UInt8} (a : List UInt8) (h : checkE (3, x, y, b) = false) : ¬ (partB x = true ∧ partB y = true ∧ partB a = true ∧ partB b = true) := by
  intro hh
  rw [checkE_3, hh.1, hh.2.1, hh.2.2.2] at h
  cases h
/-- One hand is refused. -/
theorem pair_no {x y a b : List UInt8} {p q r s : En} {e f g h : Int} (hn : ¬ (partB x = true ∧ partB y = true ∧ partB a = true ∧ partB b = true))
    (h1 : initR x y = (p, e)) (h2 : tryR y a p = (q, f)) (h3 : ackR p a b q = (r, g)) (_h4 : confirmR q b r = (s, h)) : e ≠ 0 ∨ f ≠ 0 ∨ g ≠ 0 := by
  by_cases he : e = 0
  · by_cases hf : f = 0
    · refine .inr (.inr fun hg => hn ?_)
      subst he hf hg
      have k1 : partB x = true ∧ partB y = true := by
        unfold initR at h1
        split at h1
        · simp_all
        · injection h1 with _ h; cases h
      have k2 : partB a = true := by
        unfold tryR at h2
        split at h2
        · injection h2 with _ h; cases h
        · simp_all
      have k3 : partB b = true := by
        unfold ackR at h3
        split at h3
        · injection h3 with _ h; cases h
        · simp_all
      exact ⟨k1.1, k1.2, k2, k3⟩
    · exact .inr (.inl hf)
  · exact .inl he
end Go.Proofs.Ytlkgloakcpfnnaa

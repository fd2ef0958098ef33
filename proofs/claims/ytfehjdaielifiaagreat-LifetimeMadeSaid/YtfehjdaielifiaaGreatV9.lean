/-
  verdict: uses, cut.
-/
import Derived.Test.YtfehjdaielifiaaGreatV8
set_option linter.unusedSimpArgs false
set_option linter.unusedVariables false
namespace Go.Proofs.YtfehjdaielifiaaGreat.K
open Go.RowKit
/-! uses -/
def belows (l : List Rule) : List Int := l.map fun r => r.2.2.1
def base16 : List Int := [0, 40, 44, 65, 87, 112, 128, 160, 168, 224, 256, 384, 512, 521, 768, 1024]
def sizesP (rs : List Rule) : List Int := Lib.compact (sortI (base16 ++ belows rs))
def usesA (a : Int) (l : List Int) : List Keep := (l.map fun b => ((a, (b, ())) : Keep)).filter validF
def usesZ (l : List Int) : Nat → List Keep
  | 0 => []
  | n + 1 => usesA (22 - (n : Int)) l ++ usesZ l n
def usesF (y : Policy) : List Keep := usesZ (sizesP y.1) 23
def polSmall (y : Policy) : Bool := decide (y.1.length ≤ 10000)
theorem usesA_len (a : Int) (l : List Int) : (usesA a l).length ≤ l.length := by
  unfold usesA
  exact Nat.le_trans (List.length_filter_le _ _) (by simp)
theorem sizes_len (rs : List Rule) : (sizesP rs).length ≤ rs.length + 16 := by
  unfold sizesP
  refine Nat.le_trans (compact_le _) ?_
  unfold sortI
  rw [List.length_mergeSort]
  simp [belows, base16]
/-! cut -/
def cutS (r : Rule) (s : Keep) : List Keep := if imn s.2.1 r.2.2.2.2.2.1 ≤ imx s.1 r.2.2.2.2.1 then [s] else (if s.1 < imx s.1 r.2.2.2.2.1 then [(s.1, imx s.1 r.2.2.2.2.1, ())] else []) ++ (if imn s.2.1 r.2.2.2.2.2.1 < s.2.1 then [(imn s.2.1 r.2.2.2.2.2.1, s.2.1, ())] else [])
def hitS (r : Rule) (s : Keep) : Bool := decide (imx s.1 r.2.2.2.2.1 < imn s.2.1 r.2.2.2.2.2.1)
def cutL (l : List Keep) (r : Rule) : List Keep := l.flatMap (cutS r)
def cutB (l : List Keep) (r : Rule) : Bool := l.any (hitS r)
def cutF (l : List Keep) (r : Rule) : List Keep × Bool := (cutL l r, cutB l r)
def cutOk (l : List Keep) (_r : Rule) : Bool := lenOk5 l
theorem cutS_len (r : Rule) (s : Keep) : (cutS r s).length ≤ 2 := by
  unfold cutS
  split
  · simp
  · split <;> split <;> simp
theorem polOk_len {y : Policy} (h : polOk y = true) : y.1.length ≤ 60 ∧ y.2.1.length ≤ 60 := by
  simp only [polOk, Bool.and_eq_true, decide_eq_true_eq] at h
  exact h.2
theorem pol_len {y : Policy} (h : polOk y = true) : polLen y = true ∧ polSmall y = true := by
  have := polOk_len h
  simp only [polLen, polSmall, lenOk5, Bool.and_eq_true, decide_eq_true_eq]
  omega
end Go.Proofs.YtfehjdaielifiaaGreat.K

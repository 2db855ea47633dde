/- Plain facts about what a node knows of the time: validity, the bound, taking a hint, hearing. No program is in sight here. -/
import Derived.Test.YtfclodgfifbfbaaPlain08b
namespace Go.Proofs.Ytfclodgfifbfbaa

/-- The numbers outside a span are in their ranges. -/
def okN (src he : Int) : Bool := decide (-1 ≤ src ∧ src < 60 ∧ 0 ≤ he ∧ he ≤ 1000000000)
theorem okN_iff {src he : Int} : okN src he = true ↔ -1 ≤ src ∧ src < 60 ∧ 0 ≤ he ∧ he ≤ 1000000000 := by simp [okN]
theorem okN_no {src he : Int} : okN src he = false ↔ ¬(-1 ≤ src ∧ src < 60 ∧ 0 ≤ he ∧ he ≤ 1000000000) := by simp only [okN, decide_eq_false_iff_not]

/-- A state is valid. -/
def vldT (sy : Bool) (l h a k src he : Int) : Bool := okN src he && (if sy = true then k == 0 || (decide (1 ≤ k ∧ k ≤ 60) && vldS l h a) else k == 60)

/-- The bound of the time that a node keeps, and its error. -/
def hafT (l h a n : Int) : Int := (h - l + 2 * gm (n - a) + 1) / 2
def bdE (sy : Bool) (l h a k src he n : Int) : Int :=
  if vldT sy l h a k src he = false then 1 else if sy = false then 16 else if k = 0 then 0 else if grE l h a n = 0 then (if 2000 < hafT l h a n then 16 else 0) else grE l h a n
def bdN (sy : Bool) (l h a k src he n : Int) : Int := if bdE sy l h a k src he n = 0 then (if k = 0 then 0 else hafT l h a n) else 0

end Go.Proofs.Ytfclodgfifbfbaa

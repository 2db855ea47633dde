/- The contract of the reference's True. -/
import Derived.Test.YtfclodgfifbfbaaPlain08
import Derived.Test.YtfclodgfifbfbaaKit
import Derived.Test.YtfclodgfifbfbaaRows
namespace Go.Proofs.Ytfclodgfifbfbaa
open Go.RowKit

def truB (l h a t s : Int) : Bool := decide (a = s ∧ l ≤ t - s ∧ t - s ≤ h)
theorem truB_iff {l h a t s : Int} : truB l h a t s = true ↔ a = s ∧ l ≤ t - s ∧ t - s ≤ h := by simp [truB]

set_option maxHeartbeats 1000000 in
theorem true_any (l h a t s : Int) (w : World) (b1 : -30000000000000 ≤ t) (b2 : t ≤ 30000000000000) (b3 : -30000000000000 ≤ s) (b4 : s ≤ 30000000000000) :
    Calls Try.prog 44 #[.agg #[.int .i64 l, .int .i64 h, .int .i64 a], .int .i64 t, .int .i64 s] w fun q w' => q = .returned (.bool (truB l h a t s)) ∧ Below w.heap.size w w' := by
  go_enter Try.func44, Try.ntmps44
  go_wp2
  all_goals (go_ret; refine ⟨ret_bool ?_, belowNew _ _⟩; refine Bool.eq_iff_iff.2 ?_; rw [truB_iff]; simp only [decide_eq_true_eq, Bool.false_eq_true]; first | omega | (rw [false_iff]; omega))

theorem true_lit (l h a t s : Int) (r : Bool) (w : World) (b1 : -30000000000000 ≤ t) (b2 : t ≤ 30000000000000) (b3 : -30000000000000 ≤ s) (b4 : s ≤ 30000000000000) (k : truB l h a t s = r) :
    Calls Try.prog 44 #[.agg #[.int .i64 l, .int .i64 h, .int .i64 a], .int .i64 t, .int .i64 s] w fun q w' => q = .returned (.bool r) ∧ Below w.heap.size w w' := by
  have := true_any l h a t s w b1 b2 b3 b4
  rwa [k] at this

end Go.Proofs.Ytfclodgfifbfbaa

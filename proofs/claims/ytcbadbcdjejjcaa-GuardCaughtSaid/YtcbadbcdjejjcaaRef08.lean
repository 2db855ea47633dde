/- The contracts of the reference's bound functions (but Meet). -/
import Derived.Test.YtcbadbcdjejjcaaPlain08
import Derived.Test.YtcbadbcdjejjcaaKit
import Derived.Test.YtcbadbcdjejjcaaRows
namespace Go.Proofs.Ytcbadbcdjejjcaa
open Go.RowKit

set_option maxHeartbeats 1000000 in
theorem rsvalid_any (l h a : Int) (w : World) :
    Calls Try.prog 42 #[.agg #[.int .i64 l, .int .i64 h, .int .i64 a]] w fun e w' => e = .returned (.bool (vldS l h a)) ∧ Below w.heap.size w w' := by
  go_enter Try.func42, Try.ntmps42
  go_wp2
  all_goals (go_ret; refine ⟨ret_bool ?_, belowNew _ _⟩; refine Bool.eq_iff_iff.2 ?_; simp only [vldS, decide_eq_true_eq, Bool.false_eq_true]; first | omega | (rw [false_iff]; omega))

theorem rsvalid_lit (l h a : Int) (r : Bool) (w : World) (k : vldS l h a = r) :
    Calls Try.prog 42 #[.agg #[.int .i64 l, .int .i64 h, .int .i64 a]] w fun e w' => e = .returned (.bool r) ∧ Below w.heap.size w w' := by
  have := rsvalid_any l h a w
  rwa [k] at this




set_option maxHeartbeats 400000 in
theorem more_any (e : Int) (w : World) (h1 : 0 ≤ e) (h2 : e ≤ 22000000000000) :
    Calls Try.prog 56 #[.int .i64 e] w fun q w' => q = .returned (.int .i64 (gm e)) ∧ w = w' := by
  go_enter Try.func56, Try.ntmps56
  go_wp2
  go_ret
  exact ⟨ret_int (by unfold gm; omega), rfl⟩

end Go.Proofs.Ytcbadbcdjejjcaa

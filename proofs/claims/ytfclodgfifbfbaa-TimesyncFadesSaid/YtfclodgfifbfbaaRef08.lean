/- The contracts of the reference's bound functions (but Meet). -/
import Derived.Test.YtfclodgfifbfbaaPlain08
import Derived.Test.YtfclodgfifbfbaaKit
import Derived.Test.YtfclodgfifbfbaaRows
namespace Go.Proofs.Ytfclodgfifbfbaa
open Go.RowKit

set_option maxHeartbeats 1000000 in
theorem rsvalid_any (l h a : Int) (w : World) :
    Calls Try.prog 38 #[.agg #[.int .i64 l, .int .i64 h, .int .i64 a]] w fun e w' => e = .returned (.bool (vldS l h a)) ∧ Below w.heap.size w w' := by
  go_enter Try.func38, Try.ntmps38
  go_wp2
  all_goals (go_ret; refine ⟨ret_bool ?_, belowNew _ _⟩; refine Bool.eq_iff_iff.2 ?_; simp only [vldS, decide_eq_true_eq, Bool.false_eq_true]; first | omega | (rw [false_iff]; omega))

theorem rsvalid_lit (l h a : Int) (r : Bool) (w : World) (k : vldS l h a = r) :
    Calls Try.prog 38 #[.agg #[.int .i64 l, .int .i64 h, .int .i64 a]] w fun e w' => e = .returned (.bool r) ∧ Below w.heap.size w w' := by
  have := rsvalid_any l h a w
  rwa [k] at this

set_option maxHeartbeats 1000000 in
theorem rhint_any (f p b s c : Int) (w : World) :
    Calls Try.prog 43 #[.agg #[.int .i64 f, .int .i64 p, .int .i64 b, .int .i64 s, .int .i64 c]] w fun e w' => e = .returned (.bool (vldH s b c)) ∧ Below w.heap.size w w' := by
  go_enter Try.func43, Try.ntmps43
  go_wp2
  all_goals (go_ret; refine ⟨ret_bool ?_, belowNew _ _⟩; refine Bool.eq_iff_iff.2 ?_; simp only [vldH, decide_eq_true_eq, Bool.false_eq_true]; first | omega | (rw [false_iff]; omega))

theorem rhint_lit (f p b s c : Int) (r : Bool) (w : World) (k : vldH s b c = r) :
    Calls Try.prog 43 #[.agg #[.int .i64 f, .int .i64 p, .int .i64 b, .int .i64 s, .int .i64 c]] w fun e w' => e = .returned (.bool r) ∧ Below w.heap.size w w' := by
  have := rhint_any f p b s c w
  rwa [k] at this


set_option maxHeartbeats 400000 in
theorem more_any (e : Int) (w : World) (h1 : 0 ≤ e) (h2 : e ≤ 22000000000000) :
    Calls Try.prog 49 #[.int .i64 e] w fun q w' => q = .returned (.int .i64 (gm e)) ∧ w = w' := by
  go_enter Try.func49, Try.ntmps49
  go_wp2
  go_ret
  exact ⟨ret_int (by unfold gm; omega), rfl⟩

end Go.Proofs.Ytfclodgfifbfbaa

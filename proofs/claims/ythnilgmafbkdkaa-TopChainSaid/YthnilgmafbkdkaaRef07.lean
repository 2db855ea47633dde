/- The contracts of the reference's clock functions. -/
import Derived.Test.YthnilgmafbkdkaaPlain07
import Derived.Test.YthnilgmafbkdkaaRows
import Derived.Test.YthnilgmafbkdkaaKit
namespace Go.Proofs.Ythnilgmafbkdkaa
open Go.RowKit

set_option maxHeartbeats 400000 in
theorem rvalid_any (o d : Int) (w : World) :
    Calls Try.prog 8 #[.agg #[.int .i64 o, .int .i64 d]] w fun e w' => e = .returned (.bool (vldB o d)) ∧ Below w.heap.size w w' := by
  go_enter Try.func8, Try.ntmps8
  go_wp2
  all_goals (go_ret; refine ⟨ret_bool ?_, (Below.refl _ _).alloc (Nat.le_refl _) _⟩; refine Bool.eq_iff_iff.2 ?_; simp only [vldB, decide_eq_true_eq, Bool.false_eq_true]; first | omega | (rw [false_iff]; omega))


end Go.Proofs.Ythnilgmafbkdkaa

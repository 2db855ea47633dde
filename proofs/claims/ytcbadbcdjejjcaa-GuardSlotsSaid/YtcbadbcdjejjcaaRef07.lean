/- The contracts of the reference's clock functions. -/
import Derived.Test.YtcbadbcdjejjcaaPlain07
import Derived.Test.YtcbadbcdjejjcaaRows
import Derived.Test.YtcbadbcdjejjcaaKit
namespace Go.Proofs.Ytcbadbcdjejjcaa
open Go.RowKit

set_option maxHeartbeats 400000 in
theorem rvalid_any (o d : Int) (w : World) :
    Calls Try.prog 26 #[.agg #[.int .i64 o, .int .i64 d]] w fun e w' => e = .returned (.bool (vldB o d)) ∧ Below w.heap.size w w' := by
  go_enter Try.func26, Try.ntmps26
  go_wp2
  all_goals (go_ret; refine ⟨ret_bool ?_, (Below.refl _ _).alloc (Nat.le_refl _) _⟩; refine Bool.eq_iff_iff.2 ?_; simp only [vldB, decide_eq_true_eq, Bool.false_eq_true]; first | omega | (rw [false_iff]; omega))

set_option maxHeartbeats 400000 in
theorem down_any (x : Int) (w : World) (h1 : -1000000000000000 ≤ x) (h2 : x ≤ 1000000000000000) :
    Calls Try.prog 46 #[.int .i64 x] w fun e w' => e = .returned (.int .i64 (x / 1000000)) ∧ w' = w := by
  by_cases h : 0 ≤ x
  · go_enter Try.func46, Try.ntmps46
    go_wp2
    go_ret
    exact ⟨rfl, rfl⟩
  · have h' : x < 0 := by omega
    have hd : 0 ≤ (-x + 999999) := by omega
    go_enter Try.func46, Try.ntmps46
    go_wp2
    go_ret
    exact ⟨ret_int (by omega), rfl⟩

set_option maxHeartbeats 400000 in
theorem rat_any (o d t : Int) (w : World) (h1 : -1000000000 ≤ o) (h2 : o ≤ 1000000000) (h3 : -50 ≤ d) (h4 : d ≤ 50) (h5 : -1 ≤ t) (h6 : t ≤ 19000000000000) :
    Calls Try.prog 31 #[.agg #[.int .i64 o, .int .i64 d], .int .i64 t] w fun e w' => e = .returned (.int .i64 (atI o d t)) ∧ Below w.heap.size w w' := by
  obtain ⟨h7, h8⟩ := mul_bd h3 h4 h5 h6
  have h9 : IntKind.i64.wrap (d * t) = d * t := IntWalk.i64_in _ (by omega)
  go_enter Try.func31, Try.ntmps31
  go_wp2
  go_quiet ((go_at_call 46; exact Calls.quiet_of_same (down_any _ _ h7 h8)))
  clear h9
  go_wp2
  go_ret
  exact ⟨ret_int (by unfold atI; omega), belowN (belowNew _ _)⟩
end Go.Proofs.Ytcbadbcdjejjcaa

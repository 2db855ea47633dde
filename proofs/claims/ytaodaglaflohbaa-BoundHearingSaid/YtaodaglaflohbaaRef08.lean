/- The contracts of the reference's bound functions (but Meet). -/
import Derived.Test.YtaodaglaflohbaaPlain08
import Derived.Test.YtaodaglaflohbaaKit
import Derived.Test.YtaodaglaflohbaaRows
namespace Go.Proofs.Ytaodaglaflohbaa
open Go.RowKit

set_option maxHeartbeats 1000000 in
theorem rsvalid_any (l h a : Int) (w : World) :
    Calls Try.prog 19 #[.agg #[.int .i64 l, .int .i64 h, .int .i64 a]] w fun e w' => e = .returned (.bool (vldS l h a)) ∧ Below w.heap.size w w' := by
  go_enter Try.func19, Try.ntmps19
  go_wp2
  all_goals (go_ret; refine ⟨ret_bool ?_, belowNew _ _⟩; refine Bool.eq_iff_iff.2 ?_; simp only [vldS, decide_eq_true_eq, Bool.false_eq_true]; first | omega | (rw [false_iff]; omega))

theorem rsvalid_lit (l h a : Int) (r : Bool) (w : World) (k : vldS l h a = r) :
    Calls Try.prog 19 #[.agg #[.int .i64 l, .int .i64 h, .int .i64 a]] w fun e w' => e = .returned (.bool r) ∧ Below w.heap.size w w' := by
  have := rsvalid_any l h a w
  rwa [k] at this

set_option maxHeartbeats 1000000 in
theorem rhint_any (f p b s c : Int) (w : World) :
    Calls Try.prog 32 #[.agg #[.int .i64 f, .int .i64 p, .int .i64 b, .int .i64 s, .int .i64 c]] w fun e w' => e = .returned (.bool (vldH s b c)) ∧ Below w.heap.size w w' := by
  go_enter Try.func32, Try.ntmps32
  go_wp2
  all_goals (go_ret; refine ⟨ret_bool ?_, belowNew _ _⟩; refine Bool.eq_iff_iff.2 ?_; simp only [vldH, decide_eq_true_eq, Bool.false_eq_true]; first | omega | (rw [false_iff]; omega))

theorem rhint_lit (f p b s c : Int) (r : Bool) (w : World) (k : vldH s b c = r) :
    Calls Try.prog 32 #[.agg #[.int .i64 f, .int .i64 p, .int .i64 b, .int .i64 s, .int .i64 c]] w fun e w' => e = .returned (.bool r) ∧ Below w.heap.size w w' := by
  have := rhint_any f p b s c w
  rwa [k] at this

set_option maxHeartbeats 1000000 in
theorem rwidth_any (l h a : Int) (w : World) :
    Calls Try.prog 21 #[.agg #[.int .i64 l, .int .i64 h, .int .i64 a]] w fun e w' => e = .returned (.int .i64 (widS l h a)) ∧ Below w.heap.size w w' := by
  rcases Bool.eq_false_or_eq_true (vldS l h a) with k | k
  · obtain ⟨v1, v2, v3, v4, v5⟩ := vldS_iff.1 k
    rw [show widS l h a = h - l from by simp [widS, k]]
    go_enter Try.func21, Try.ntmps21
    go_wp2_with fail
    refine (rsvalid_lit _ _ _ true _ k).mono ?_
    rintro e w1 ⟨rfl, hb⟩
    have oS : Own w1 w.heap.size [.int .i64 l, .int .i64 h, .int .i64 a] 23 := (own_at _ _ rfl).below hb
    obtain ⟨cS0, cS1, cS2, fS, zS⟩ := own3 oS
    go_wp2
    go_ret
    exact ⟨rfl, belowTo (belowNew w _) hb (by simp)⟩
  · rw [show widS l h a = -1 from by simp [widS, k]]
    go_enter Try.func21, Try.ntmps21
    go_wp2_with fail
    refine (rsvalid_lit _ _ _ false _ k).mono ?_
    rintro e w1 ⟨rfl, hb⟩
    go_wp2
    go_ret
    exact ⟨rfl, belowTo (belowNew w _) hb (by simp)⟩

set_option maxHeartbeats 400000 in
theorem more_any (e : Int) (w : World) (h1 : 0 ≤ e) (h2 : e ≤ 22000000000000) :
    Calls Try.prog 29 #[.int .i64 e] w fun q w' => q = .returned (.int .i64 (gm e)) ∧ w = w' := by
  go_enter Try.func29, Try.ntmps29
  go_wp2
  go_ret
  exact ⟨ret_int (by unfold gm; omega), rfl⟩

end Go.Proofs.Ytaodaglaflohbaa

/- The contracts of the program's bound package (but Meet). -/
import Derived.Test.YtfclodgfifbfbaaPlain08
import Derived.Test.YtfclodgfifbfbaaAsc
namespace Go.Proofs.Ytfclodgfifbfbaa
open Go.RowKit

theorem vldS_two (l h a : Int) : vldS l h a = (decide (-20000000000000 ≤ l ∧ l ≤ h ∧ h ≤ 20000000000000) && decide (-2000000000 ≤ a ∧ a ≤ 20000000000000)) := by
  refine Bool.eq_iff_iff.2 ?_
  rw [vldS_iff]
  simp only [Bool.and_eq_true, decide_eq_true_eq]
  omega

set_option maxHeartbeats 1000000 in
theorem spval_any (l h a : Int) (w : World) :
    Calls Try.prog 48 #[.agg #[.int .i64 l, .int .i64 h, .int .i64 a]] w fun e w' => e = .returned (.bool (vldS l h a)) ∧ Below w.heap.size w w' := by
  rw [vldS_two]
  obtain ⟨c1, h1⟩ : ∃ c, decide (-20000000000000 ≤ l ∧ l ≤ h ∧ h ≤ 20000000000000) = c := ⟨_, rfl⟩
  obtain ⟨c2, h2⟩ : ∃ c, decide (-2000000000 ≤ a ∧ a ≤ 20000000000000) = c := ⟨_, rfl⟩
  rw [h1, h2]
  have H1 := Lib.hid h1
  have H2 := Lib.hid h2
  clear h1 h2
  cases c1
  · go_enter Try.func48, Try.ntmps48
    go_wp2_with fail
    refine (asc4_lit _ _ _ _ _ false _ ?_ ?_ ?_ ?_ H1.out).mono ?_
    iterate 4 simp [go_sem]
    rintro e w' ⟨rfl, n, rfl⟩
    go_wp2
    go_ret
    exact ⟨rfl, belowN ((belowNew w _).alloc (by simp) _)⟩
  · go_enter Try.func48, Try.ntmps48
    go_wp2_with fail
    refine (asc4_lit _ _ _ _ _ true _ ?_ ?_ ?_ ?_ H1.out).mono ?_
    iterate 4 simp [go_sem]
    rintro e w' ⟨rfl, n, rfl⟩
    go_wp2_with fail
    refine (asc3_lit _ _ _ _ c2 _ ?_ ?_ ?_ H2.out).mono ?_
    iterate 3 simp [go_sem]
    rintro e w' ⟨rfl, m, rfl⟩
    go_wp2
    go_ret
    exact ⟨by simp, belowN ((belowN ((belowNew w _).alloc (by simp) _)).alloc (by simp; omega) _)⟩

theorem spval_lit (l h a : Int) (r : Bool) (w : World) (k : vldS l h a = r) :
    Calls Try.prog 48 #[.agg #[.int .i64 l, .int .i64 h, .int .i64 a]] w fun e w' => e = .returned (.bool r) ∧ Below w.heap.size w w' := by
  have := spval_any l h a w
  rwa [k] at this

end Go.Proofs.Ytfclodgfifbfbaa

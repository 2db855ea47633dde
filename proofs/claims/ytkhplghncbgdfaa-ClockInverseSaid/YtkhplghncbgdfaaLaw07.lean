/- The helpers of the clock's laws: what they return. -/
import Derived.Test.YtkhplghncbgdfaaClock3
namespace Go.Proofs.Ytkhplghncbgdfaa
open Go.RowKit

theorem shE_iff {o d t : Int} : (shE o d t == 0) = okS o d t := by
  cases h : okS o d t
  · rw [(sh_no h).1]; rfl
  · rw [(sh_yes h).1]; rfl

set_option maxHeartbeats 400000 in
theorem shows_any (o d t s : Int) (w : World) :
    Calls Try.prog 19 #[.agg #[.int .i64 o, .int .i64 d], .int .i64 t, .int .i64 s] w
      fun e w' => e = .returned (.bool (okS o d t && (shN o d t == s))) ∧ Below w.heap.size w w' := by
  rw [← shE_iff]
  go_enter Try.func19, Try.ntmps19
  go_wp2_with (go_at_call 11; refine (show_any _ _ _ _).mono ?_; rintro e w' ⟨rfl, hb⟩)
  all_goals (go_ret; exact ⟨ret_bool (by simp_all), belowTo (belowNew w _) hb (by simp)⟩)

set_option maxHeartbeats 400000 in
theorem parts_any (n m : Int) (w : World) (h5 : 0 ≤ n * m) (h6 : n * m ≤ 1000000000000000) :
    Calls Try.prog 18 #[.int .i64 n, .int .i64 m] w fun e w' => e = .returned (.int .i64 ((n * m + 999999) / 1000000)) ∧ w = w' := by
  go_enter Try.func18, Try.ntmps18
  go_wp2
  go_ret
  exact ⟨rfl, rfl⟩

set_option maxHeartbeats 1600000 in
theorem two_any (o d t u : Int) (w : World) :
    Calls Try.prog 17 #[.agg #[.int .i64 o, .int .i64 d], .int .i64 t, .int .i64 u] w
      fun e w' => e = .returned (.tuple #[.int .i64 (shN o d t), .int .i64 (shN o d u), .bool (okS o d t && okS o d u && decide (t ≤ u))]) ∧ Below w.heap.size w w' := by
  have key : ∀ A B : Int, ∀ a b : Bool, (a = true ↔ A = 0) → (b = true ↔ B = 0) → shE o d t = A → shE o d u = B → okS o d t = a → okS o d u = b →
    Calls Try.prog 17 #[.agg #[.int .i64 o, .int .i64 d], .int .i64 t, .int .i64 u] w
      fun e w' => e = .returned (.tuple #[.int .i64 (shN o d t), .int .i64 (shN o d u), .bool (okS o d t && okS o d u && decide (t ≤ u))]) ∧ Below w.heap.size w w' := by
    intro A B a b iA iB hA hB ha hb'
    rw [ha, hb']
    go_enter Try.func17, Try.ntmps17
    go_wp2_with fail
    refine (show_any o d t _).mono ?_
    rintro e w1 ⟨rfl, hb1⟩
    have oA : Own w1 w.heap.size [.int .i64 o, .int .i64 d] 23 := (own_at _ _ rfl).below hb1
    obtain ⟨cA0, cA1, fA, zA⟩ := own2 oA
    go_wp2_with fail
    refine (show_any o d u _).mono ?_
    rintro e w2 ⟨rfl, hb2⟩
    clear cA0 cA1 fA zA ha hb'
    go_wp2
    all_goals (go_ret3; exact ⟨by simp_all, belowTo (belowTo (belowNew w _) hb1 (by simp)) hb2 (by have := hb1.size; simp at this; omega)⟩)
  rcases Bool.eq_false_or_eq_true (okS o d t) with ht | ht <;> rcases Bool.eq_false_or_eq_true (okS o d u) with hu | hu
  · exact key 0 0 true true (by simp) (by simp) (sh_yes ht).1 (sh_yes hu).1 ht hu
  · exact key 0 1 true false (by simp) (by simp) (sh_yes ht).1 (sh_no hu).1 ht hu
  · exact key 1 0 false true (by simp) (by simp) (sh_no ht).1 (sh_yes hu).1 ht hu
  · exact key 1 1 false false (by simp) (by simp) (sh_no ht).1 (sh_no hu).1 ht hu

end Go.Proofs.Ytkhplghncbgdfaa

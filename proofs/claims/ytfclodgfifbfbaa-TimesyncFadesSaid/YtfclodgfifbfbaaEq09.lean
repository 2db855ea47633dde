/- What '==' gives at two states of a node's time. -/
import Derived.Test.YtfclodgfifbfbaaKit
import Derived.Test.YtfclodgfifbfbaaRows
namespace Go.Proofs.Ytfclodgfifbfbaa
open Go.RowKit

/-- Two states are equal. -/
def tsB (sy : Bool) (l h a k src he : Int) (sy' : Bool) (l' h' a' k' src' he' : Int) : Bool := sy == sy' && (l == l' && (h == h' && (a == a' && (k == k' && (src == src' && he == he')))))

theorem tsB_self (sy : Bool) (l h a k src he : Int) : tsB sy l h a k src he sy l h a k src he = true := by simp [tsB]
theorem tsB_iff {sy sy' : Bool} {l h a k src he l' h' a' k' src' he' : Int} : tsB sy l h a k src he sy' l' h' a' k' src' he' = true ↔ sy = sy' ∧ l = l' ∧ h = h' ∧ a = a' ∧ k = k' ∧ src = src' ∧ he = he' := by simp [tsB]

set_option maxRecDepth 100000 in
set_option maxHeartbeats 400000 in
theorem eq_ts (sy sy' : Bool) (l h a k src he l' h' a' k' src' he' : Int) (w : World) :
    (binOp .eql 25 (.agg #[.bool sy, .int .i64 l, .int .i64 h, .int .i64 a, .int .i64 k, .int .i64 src, .int .i64 he]) (.agg #[.bool sy', .int .i64 l', .int .i64 h', .int .i64 a', .int .i64 k', .int .i64 src', .int .i64 he'])).run Try.prog w =
     .ok (.bool (tsB sy l h a k src he sy' l' h' a' k' src' he')) w := by
  go_simp
  unfold tsB
  by_cases h0 : sy = sy' <;> simp only [h0, if_true, if_false]
  · by_cases h1 : l = l' <;> simp only [h1, if_true, if_false]
    · by_cases h2 : h = h' <;> simp only [h2, if_true, if_false]
      · by_cases h3 : a = a' <;> simp only [h3, if_true, if_false]
        · by_cases h4 : k = k' <;> simp only [h4, if_true, if_false]
          · by_cases h5 : src = src' <;> simp only [h5, if_true, if_false]
            · by_cases h6 : he = he' <;> simp [h6]
            · simp [h5]
          · simp [h4]
        · simp [h3]
      · simp [h2]
    · simp [h1]
  · simp [h0]

theorem eq_ts_lit (sy : Bool) (l h a k src he : Int) (sy' : Bool) (l' h' a' k' src' he' : Int) {r : Bool} (hr : tsB sy l h a k src he sy' l' h' a' k' src' he' = r) : ∀ w : World,
    (binOp .eql 25 (.agg #[.bool sy, .int .i64 l, .int .i64 h, .int .i64 a, .int .i64 k, .int .i64 src, .int .i64 he]) (.agg #[.bool sy', .int .i64 l', .int .i64 h', .int .i64 a', .int .i64 k', .int .i64 src', .int .i64 he'])).run Try.prog w =
     .ok (.bool r) w := by
  intro w
  rw [eq_ts, hr]

set_option maxRecDepth 100000 in
set_option maxHeartbeats 400000 in
theorem ne_ts (sy sy' : Bool) (l h a k src he l' h' a' k' src' he' : Int) (w : World) :
    (binOp .neq 25 (.agg #[.bool sy, .int .i64 l, .int .i64 h, .int .i64 a, .int .i64 k, .int .i64 src, .int .i64 he]) (.agg #[.bool sy', .int .i64 l', .int .i64 h', .int .i64 a', .int .i64 k', .int .i64 src', .int .i64 he'])).run Try.prog w =
     .ok (.bool (!tsB sy l h a k src he sy' l' h' a' k' src' he')) w := by
  go_simp
  unfold tsB
  by_cases h0 : sy = sy' <;> simp only [h0, if_true, if_false]
  · by_cases h1 : l = l' <;> simp only [h1, if_true, if_false]
    · by_cases h2 : h = h' <;> simp only [h2, if_true, if_false]
      · by_cases h3 : a = a' <;> simp only [h3, if_true, if_false]
        · by_cases h4 : k = k' <;> simp only [h4, if_true, if_false]
          · by_cases h5 : src = src' <;> simp only [h5, if_true, if_false]
            · by_cases h6 : he = he' <;> simp [h6]
            · simp [h5]
          · simp [h4]
        · simp [h3]
      · simp [h2]
    · simp [h1]
  · simp [h0]

theorem ne_ts_lit (sy : Bool) (l h a k src he : Int) (sy' : Bool) (l' h' a' k' src' he' : Int) {r : Bool} (hr : tsB sy l h a k src he sy' l' h' a' k' src' he' = r) : ∀ w : World,
    (binOp .neq 25 (.agg #[.bool sy, .int .i64 l, .int .i64 h, .int .i64 a, .int .i64 k, .int .i64 src, .int .i64 he]) (.agg #[.bool sy', .int .i64 l', .int .i64 h', .int .i64 a', .int .i64 k', .int .i64 src', .int .i64 he'])).run Try.prog w =
     .ok (.bool (!r)) w := by
  intro w
  rw [ne_ts, hr]

end Go.Proofs.Ytfclodgfifbfbaa

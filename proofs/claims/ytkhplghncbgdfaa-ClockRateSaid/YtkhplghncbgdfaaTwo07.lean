/- Two true times of one clock, by literals. -/
import Derived.Test.YtkhplghncbgdfaaHead07
namespace Go.Proofs.Ytkhplghncbgdfaa
open Go.RowKit

theorem two_lit (o d t u a b : Int) (c : Bool) (w : World) (h : shN o d t = a ∧ shN o d u = b ∧ (okS o d t && okS o d u && decide (t ≤ u)) = c) :
    Calls Try.prog 17 #[.agg #[.int .i64 o, .int .i64 d], .int .i64 t, .int .i64 u] w
      fun e w' => e = .returned (.tuple #[.int .i64 a, .int .i64 b, .bool c]) ∧ Below w.heap.size w w' := by
  have := two_any o d t u w
  rwa [h.1, h.2.1, h.2.2] at this

/-- What the laws use of two true times in order. -/
theorem two_facts {o d t u : Int} (h : (okS o d t && okS o d u && decide (t ≤ u)) = true) :
    okS o d t = true ∧ okS o d u = true ∧ t ≤ u := by simpa [and_assoc] using h

end Go.Proofs.Ytkhplghncbgdfaa

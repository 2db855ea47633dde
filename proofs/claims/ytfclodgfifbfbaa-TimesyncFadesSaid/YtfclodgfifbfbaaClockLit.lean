/- The clock's contracts, by literals. -/
import Derived.Test.YtfclodgfifbfbaaClock
namespace Go.Proofs.Ytfclodgfifbfbaa
open Go.RowKit

theorem show_lit (o d t a b : Int) (w : World) (h : shN o d t = a ∧ shE o d t = b) :
    Calls Try.prog 24 #[.agg #[.int .i64 o, .int .i64 d], .int .i64 t] w
      fun e w' => e = .returned (.tuple #[.int .i64 a, .int .i64 b]) ∧ Below w.heap.size w w' := by
  have := show_any o d t w
  rwa [h.1, h.2] at this

end Go.Proofs.Ytfclodgfifbfbaa

/- The reference's Valid of a clock, by literals. -/
import Derived.Test.YthnilgmafbkdkaaRef07
namespace Go.Proofs.Ythnilgmafbkdkaa
open Go.RowKit

theorem rvalid_lit (o d : Int) (r : Bool) (w : World) (k : vldB o d = r) :
    Calls Try.prog 8 #[.agg #[.int .i64 o, .int .i64 d]] w fun e w' => e = .returned (.bool r) ∧ Below w.heap.size w w' := by
  have := rvalid_any o d w
  rwa [k] at this

end Go.Proofs.Ythnilgmafbkdkaa

/- Small facts on endings and worlds that both Meets use. -/
import Derived.Test.YtfclodgfifbfbaaKit
namespace Go.Proofs.Ytfclodgfifbfbaa
open Go.RowKit

theorem belowSet {B : Nat} {a w : World} (h : Below B a w) (b i : Nat) (v : Value) (hp : B ≤ b) : Below B a (w.setCell ⟨b, i, none⟩ v) := h.setCell hp v

theorem tup4 {L H A E l h a e : Int} (k : L = l ∧ H = h ∧ A = a ∧ E = e) :
    Ending.returned (.tuple #[.agg #[.int .i64 l, .int .i64 h, .int .i64 a], .int .i64 e]) = Ending.returned (.tuple #[.agg #[.int .i64 L, .int .i64 H, .int .i64 A], .int .i64 E]) := by
  obtain ⟨rfl, rfl, rfl, rfl⟩ := k
  rfl

end Go.Proofs.Ytfclodgfifbfbaa

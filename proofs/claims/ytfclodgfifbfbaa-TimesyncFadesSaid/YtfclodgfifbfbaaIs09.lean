/- What hearing and a tick lead to, as one relation each; the contracts over it. -/
import Derived.Test.YtfclodgfifbfbaaHear
import Derived.Test.YtfclodgfifbfbaaTick
import Derived.Test.YtfclodgfifbfbaaRef09b
import Derived.Test.YtfclodgfifbfbaaEq09
namespace Go.Proofs.Ytfclodgfifbfbaa
open Go.RowKit

/-- Hearing leads to this state, with this error. -/
def HearIs (sy : Bool) (l h a k src he f p b s c : Int) (Y : Bool) (X1 X2 X3 X4 X5 X6 E : Int) : Prop :=
  (hrC sy l h a k src he f p b s c = false ∧ sy = Y ∧ l = X1 ∧ h = X2 ∧ a = X3 ∧ k = X4 ∧ src = X5 ∧ he = X6 ∧ hrE sy l h a k src he f p b s c = E) ∨
  (hrC sy l h a k src he f p b s c = true ∧ true = Y ∧ hrL sy l h a s b c = X1 ∧ hrH sy l h a s b c = X2 ∧ hrA sy l h a s b c = X3 ∧ p + 1 = X4 ∧ f = X5 ∧ s = X6 ∧ 0 = E)
theorem hear_ex (sy : Bool) (l h a k src he f p b s c : Int) : ∃ (Y : Bool) (X1 X2 X3 X4 X5 X6 E : Int), HearIs sy l h a k src he f p b s c Y X1 X2 X3 X4 X5 X6 E := by
  cases hC : hrC sy l h a k src he f p b s c with
  | false => exact ⟨_, _, _, _, _, _, _, _, .inl ⟨hC, rfl, rfl, rfl, rfl, rfl, rfl, rfl, rfl⟩⟩
  | true => exact ⟨_, _, _, _, _, _, _, _, .inr ⟨hC, rfl, rfl, rfl, rfl, rfl, rfl, rfl, rfl⟩⟩

theorem hear_lit (sy : Bool) (l h a k src he f p b s c : Int) (Y : Bool) (X1 X2 X3 X4 X5 X6 E : Int) (w : World) (q : HearIs sy l h a k src he f p b s c Y X1 X2 X3 X4 X5 X6 E) :
    Calls Try.prog 12 #[.agg #[.bool sy, .int .i64 l, .int .i64 h, .int .i64 a, .int .i64 k, .int .i64 src, .int .i64 he], .agg #[.int .i64 f, .int .i64 p, .int .i64 b, .int .i64 s, .int .i64 c]] w
      fun e w' => e = .returned (.tuple #[.agg #[.bool Y, .int .i64 X1, .int .i64 X2, .int .i64 X3, .int .i64 X4, .int .i64 X5, .int .i64 X6], .int .i64 E]) ∧ Below w.heap.size w w' := by
  rcases q with ⟨hC, rfl, rfl, rfl, rfl, rfl, rfl, rfl, hE⟩ | ⟨hC, rfl, h1, h2, h3, rfl, rfl, rfl, rfl⟩
  · exact hear_same sy l h a k src he f p b s c E w hE hC
  · exact hear_new sy l h a k src he f p b s c _ _ _ w hC ⟨h1, h2, h3⟩
theorem rhear_lit (sy : Bool) (l h a k src he f p b s c : Int) (Y : Bool) (X1 X2 X3 X4 X5 X6 E : Int) (w : World) (q : HearIs sy l h a k src he f p b s c Y X1 X2 X3 X4 X5 X6 E) :
    Calls Try.prog 13 #[.agg #[.bool sy, .int .i64 l, .int .i64 h, .int .i64 a, .int .i64 k, .int .i64 src, .int .i64 he], .agg #[.int .i64 f, .int .i64 p, .int .i64 b, .int .i64 s, .int .i64 c]] w
      fun e w' => e = .returned (.tuple #[.agg #[.bool Y, .int .i64 X1, .int .i64 X2, .int .i64 X3, .int .i64 X4, .int .i64 X5, .int .i64 X6], .int .i64 E]) ∧ Below w.heap.size w w' := by
  rcases q with ⟨hC, rfl, rfl, rfl, rfl, rfl, rfl, rfl, hE⟩ | ⟨hC, rfl, h1, h2, h3, rfl, rfl, rfl, rfl⟩
  · exact rhear_same sy l h a k src he f p b s c E w hE hC
  · exact rhear_new sy l h a k src he f p b s c _ _ _ w hC ⟨h1, h2, h3⟩

/-- A tick leads to this state. -/
def TickIs (sy : Bool) (l h a k src he n : Int) (Y : Bool) (X1 X2 X3 X4 X5 X6 : Int) : Prop :=
  (tkL sy l h a k src he n = false ∧ sy = Y ∧ l = X1 ∧ h = X2 ∧ a = X3 ∧ k = X4 ∧ src = X5 ∧ he = X6) ∨ (tkL sy l h a k src he n = true ∧ false = Y ∧ 0 = X1 ∧ 0 = X2 ∧ 0 = X3 ∧ 60 = X4 ∧ -1 = X5 ∧ 0 = X6)
theorem tick_ex (sy : Bool) (l h a k src he n : Int) : ∃ (Y : Bool) (X1 X2 X3 X4 X5 X6 : Int), TickIs sy l h a k src he n Y X1 X2 X3 X4 X5 X6 := by
  cases hC : tkL sy l h a k src he n with
  | false => exact ⟨_, _, _, _, _, _, _, .inl ⟨hC, rfl, rfl, rfl, rfl, rfl, rfl, rfl⟩⟩
  | true => exact ⟨_, _, _, _, _, _, _, .inr ⟨hC, rfl, rfl, rfl, rfl, rfl, rfl, rfl⟩⟩
theorem tick_lit (sy : Bool) (l h a k src he n : Int) (Y : Bool) (X1 X2 X3 X4 X5 X6 : Int) (w : World) (q : TickIs sy l h a k src he n Y X1 X2 X3 X4 X5 X6) :
    Calls Try.prog 16 #[.agg #[.bool sy, .int .i64 l, .int .i64 h, .int .i64 a, .int .i64 k, .int .i64 src, .int .i64 he], .int .i64 n] w
      fun e w' => e = .returned (.agg #[.bool Y, .int .i64 X1, .int .i64 X2, .int .i64 X3, .int .i64 X4, .int .i64 X5, .int .i64 X6]) ∧ Below w.heap.size w w' := by
  rcases q with ⟨hC, rfl, rfl, rfl, rfl, rfl, rfl, rfl⟩ | ⟨hC, rfl, rfl, rfl, rfl, rfl, rfl, rfl⟩
  · exact tick_same sy l h a k src he n w hC
  · exact tick_gone sy l h a k src he n w hC
theorem rtick_lit (sy : Bool) (l h a k src he n : Int) (Y : Bool) (X1 X2 X3 X4 X5 X6 : Int) (w : World) (q : TickIs sy l h a k src he n Y X1 X2 X3 X4 X5 X6) :
    Calls Try.prog 17 #[.agg #[.bool sy, .int .i64 l, .int .i64 h, .int .i64 a, .int .i64 k, .int .i64 src, .int .i64 he], .int .i64 n] w
      fun e w' => e = .returned (.agg #[.bool Y, .int .i64 X1, .int .i64 X2, .int .i64 X3, .int .i64 X4, .int .i64 X5, .int .i64 X6]) ∧ Below w.heap.size w w' := by
  rcases q with ⟨hC, rfl, rfl, rfl, rfl, rfl, rfl, rfl⟩ | ⟨hC, rfl, rfl, rfl, rfl, rfl, rfl, rfl⟩
  · exact rtick_same sy l h a k src he n w hC
  · exact rtick_gone sy l h a k src he n w hC

theorem start_lit (r : Bool) (K : Int) (w : World) (hK : (if r = true then 0 else 60) = K) :
    Calls Try.prog 18 #[.bool r] w fun e w' => e = .returned (.agg #[.bool r, .int .i64 0, .int .i64 0, .int .i64 0, .int .i64 K, .int .i64 (-1), .int .i64 0]) ∧ Below w.heap.size w w' := by
  have := start_any r w
  rwa [hK] at this
theorem rstart_lit (r : Bool) (K : Int) (w : World) (hK : (if r = true then 0 else 60) = K) :
    Calls Try.prog 19 #[.bool r] w fun e w' => e = .returned (.agg #[.bool r, .int .i64 0, .int .i64 0, .int .i64 0, .int .i64 K, .int .i64 (-1), .int .i64 0]) ∧ Below w.heap.size w w' := by
  have := rstart_any r w
  rwa [hK] at this

/-- What a state that takes a hint tells. -/
theorem hr_new {sy : Bool} {l h a k src he f p b s c : Int} (hC : hrC sy l h a k src he f p b s c = true) :
    vldT sy l h a k src he = true ∧ vldH s b c = true ∧ (0 ≤ f ∧ f < 60 ∧ 0 ≤ p ∧ p < 60) ∧ tkB sy k src f p = true ∧ hrE sy l h a k src he f p b s c = 0 := by
  simp only [hrC, hrV, Bool.and_eq_true, decide_eq_true_eq, beq_iff_eq] at hC
  exact ⟨hC.1.1.1.1, hC.1.1.1.2, hC.1.1.2, hC.1.2, hC.2⟩
theorem tk_out {sy : Bool} {k src f p : Int} (h : tkB sy k src f p = true) : (sy = false ∨ k ≠ 0) ∧ (sy = false ∨ p < k ∨ f = src) := by
  simp only [tkB, Bool.and_eq_true, Bool.or_eq_true, decide_eq_true_eq, beq_iff_eq, Bool.not_eq_true', Bool.and_eq_false_iff, beq_eq_false_iff_ne] at h
  cases sy <;> simp_all
end Go.Proofs.Ytfclodgfifbfbaa

/- The contract of timesync.Hear, whole. -/
import Derived.Test.YtfclodgfifbfbaaHearA
import Derived.Test.YtfclodgfifbfbaaHearB
import Derived.Test.YtfclodgfifbfbaaPlain08c
namespace Go.Proofs.Ytfclodgfifbfbaa
open Go.RowKit

/-- State and hint are valid. -/
def hrV (sy : Bool) (l h a k src he f p b s c : Int) : Bool := vldT sy l h a k src he && vldH s b c && decide (0 ≤ f ∧ f < 60 ∧ 0 ≤ p ∧ p < 60)
def hrE (sy : Bool) (l h a k src he f p b s c : Int) : Int :=
  if hrV sy l h a k src he f p b s c = false then 1 else if tkB sy k src f p = false then 0 else if sy = true then mtE l h a (heL s b c) (heH s b c) (heA s b c) else 0
/-- The state changes. -/
def hrC (sy : Bool) (l h a k src he f p b s c : Int) : Bool := hrV sy l h a k src he f p b s c && tkB sy k src f p && (hrE sy l h a k src he f p b s c == 0)
def hrL (sy : Bool) (l h a s b c : Int) : Int := if sy = true then mtL l h a (heL s b c) (heH s b c) (heA s b c) else heL s b c
def hrH (sy : Bool) (l h a s b c : Int) : Int := if sy = true then mtH l h a (heL s b c) (heH s b c) (heA s b c) else heH s b c
def hrA (sy : Bool) (l h a s b c : Int) : Int := if sy = true then mtA l h a (heL s b c) (heH s b c) (heA s b c) else heA s b c

theorem hear_same (sy : Bool) (l h a k src he f p b s c E : Int) (w : World) (hE : hrE sy l h a k src he f p b s c = E) (hC : hrC sy l h a k src he f p b s c = false) :
    Calls Try.prog 12 #[.agg #[.bool sy, .int .i64 l, .int .i64 h, .int .i64 a, .int .i64 k, .int .i64 src, .int .i64 he], .agg #[.int .i64 f, .int .i64 p, .int .i64 b, .int .i64 s, .int .i64 c]] w
      fun e w' => e = .returned (.tuple #[.agg #[.bool sy, .int .i64 l, .int .i64 h, .int .i64 a, .int .i64 k, .int .i64 src, .int .i64 he], .int .i64 E]) ∧ Below w.heap.size w w' := by
  subst hE
  cases hv : vldT sy l h a k src he with
  | false =>
    rw [show hrE sy l h a k src he f p b s c = 1 from by simp [hrE, hrV, hv]]
    exact hear_bad1 sy l h a k src he f p b s c _ _ _ _ w hv ⟨rfl, rfl, rfl, rfl⟩
  | true =>
    cases hh : vldH s b c with
    | false =>
      rw [show hrE sy l h a k src he f p b s c = 1 from by simp [hrE, hrV, hh]]
      exact hear_bad2 sy l h a k src he f p b s c _ _ _ 1 w hv ⟨rfl, rfl, rfl, (he_no hh).1⟩
    | true =>
      have h0 := (he_ok hh).1
      by_cases q : 0 ≤ f ∧ f < 60 ∧ 0 ≤ p ∧ p < 60
      · have hV : hrV sy l h a k src he f p b s c = true := by simp [hrV, hv, hh, q]
        cases hk : tkB sy k src f p with
        | false =>
          rw [show hrE sy l h a k src he f p b s c = 0 from by simp [hrE, hV, hk]]
          exact hear_skip sy l h a k src he f p b s c _ _ _ 0 w hv ⟨rfl, rfl, rfl, h0⟩ q.1 q.2.1 q.2.2.1 q.2.2.2 hk
        | true =>
          cases sy with
          | false => simp [hrC, hrE, hV, hk] at hC
          | true =>
            have e0 : hrE true l h a k src he f p b s c = mtE l h a (heL s b c) (heH s b c) (heA s b c) := by simp [hrE, hV, hk]
            have hE : mtE l h a (heL s b c) (heH s b c) (heA s b c) ≠ 0 := by
              intro z
              simp [hrC, e0, hV, hk, z] at hC
            obtain ⟨z1, z2, z3⟩ := mt_err hE
            rw [e0]
            exact hear_meeterr l h a k src he f p b s c _ _ _ _ w hv ⟨rfl, rfl, rfl, h0⟩ q.1 q.2.1 q.2.2.1 q.2.2.2 hk (by simpa using hE) ⟨z1, z2, z3, rfl⟩
      · rw [show hrE sy l h a k src he f p b s c = 1 from by simp [hrE, hrV, q]]
        rcases Int.lt_or_le f 0 with k1 | k1
        · exact hear_bad3 sy l h a k src he f p b s c _ _ _ 0 w hv ⟨rfl, rfl, rfl, h0⟩ k1
        · rcases Int.lt_or_le f 60 with k2 | k2
          · rcases Int.lt_or_le p 0 with k3 | k3
            · exact hear_bad5 sy l h a k src he f p b s c _ _ _ 0 w hv ⟨rfl, rfl, rfl, h0⟩ k1 k2 k3
            · exact hear_bad6 sy l h a k src he f p b s c _ _ _ 0 w hv ⟨rfl, rfl, rfl, h0⟩ k1 k2 k3 (by omega)
          · exact hear_bad4 sy l h a k src he f p b s c _ _ _ 0 w hv ⟨rfl, rfl, rfl, h0⟩ k1 k2

theorem hear_new (sy : Bool) (l h a k src he f p b s c L H A : Int) (w : World) (hC : hrC sy l h a k src he f p b s c = true) (hL : hrL sy l h a s b c = L ∧ hrH sy l h a s b c = H ∧ hrA sy l h a s b c = A) :
    Calls Try.prog 12 #[.agg #[.bool sy, .int .i64 l, .int .i64 h, .int .i64 a, .int .i64 k, .int .i64 src, .int .i64 he], .agg #[.int .i64 f, .int .i64 p, .int .i64 b, .int .i64 s, .int .i64 c]] w
      fun e w' => e = .returned (.tuple #[.agg #[.bool true, .int .i64 L, .int .i64 H, .int .i64 A, .int .i64 (p + 1), .int .i64 f, .int .i64 s], .int .i64 0]) ∧ Below w.heap.size w w' := by
  obtain ⟨rfl, rfl, rfl⟩ := hL
  simp only [hrC, Bool.and_eq_true] at hC
  obtain ⟨⟨hV, hk⟩, hE⟩ := hC
  have hV' := hV
  simp only [hrV, Bool.and_eq_true, decide_eq_true_eq] at hV
  obtain ⟨⟨hv, hh⟩, q⟩ := hV
  have h0 := (he_ok hh).1
  cases sy with
  | false =>
    simp only [hrL, hrH, hrA]
    exact hear_first l h a k src he f p b s c _ _ _ 0 w hv ⟨rfl, rfl, rfl, h0⟩ q.1 q.2.1 q.2.2.1 q.2.2.2 hk
  | true =>
    have hE' : mtE l h a (heL s b c) (heH s b c) (heA s b c) = 0 := by simpa [hrE, hV', hk] using hE
    simp only [hrL, hrH, hrA, if_true]
    exact hear_meetok l h a k src he f p b s c _ _ _ _ _ _ w hv ⟨rfl, rfl, rfl, h0⟩ q.1 q.2.1 q.2.2.1 q.2.2.2 hk ⟨rfl, rfl, rfl, hE'⟩

end Go.Proofs.Ytfclodgfifbfbaa

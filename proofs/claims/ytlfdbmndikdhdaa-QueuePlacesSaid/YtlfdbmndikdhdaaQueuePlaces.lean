/- QueuePlaces: the walk of the law. It returns true for every input, and leaves old memory alone. -/
import Derived.Test.YtlfdbmndikdhdaaPlaces27
namespace Go.Proofs.Ytlfdbmndikdhdaa
open Go.RowKit

set_option linter.unusedVariables false in
theorem queuePlaces_walk (v : Value) (rs : List Rd) (o n k x a : Int) (me : Int) (w : World) (sl : SlR w v rs) (nk : NilOk v) (ri : ∀ r ∈ rs, RdIn r) (g0 : IntKind.i64.has o) (g1 : IntKind.i64.has n) (g2 : IntKind.i64.has k) (g3 : IntKind.i64.has x) (g4 : IntKind.i64.has a) (g5 : IntKind.i64.has me) :
    Calls Try.prog 6 #[.agg #[v], .agg #[.int .i64 o, .int .i64 n, .int .i64 k, .int .i64 x, .int .i64 a], .int .i64 me] w fun e w' => e = .returned (.bool true) ∧ Below w.heap.size w w' := by
  obtain ⟨r, hr⟩ : ∃ r : Rd, r = ⟨o, n, k, x, a⟩ := ⟨_, rfl⟩
  have key : Calls Try.prog 6 #[.agg #[v], .agg #[.int .i64 r.o, .int .i64 r.n, .int .i64 r.k, .int .i64 r.v, .int .i64 r.a], .int .i64 me] w fun e w' => e = .returned (.bool true) ∧ Below w.heap.size w w' := by
    cases hs : decide (rs.length ≤ 40) with
    | false => exact places_long v rs r me w sl hs
    | true =>
      cases hv : vdB rs with
      | false => exact places_bad v rs r me w sl hs hv
      | true =>
        cases hf : fmB r with
        | false => exact places_form v rs r me w sl hs hv hf
        | true =>
          by_cases m0 : me < 0
          · exact places_neg v rs r me w sl hs hv hf m0
          · by_cases m1 : 60 ≤ me
            · exact places_far v rs r me w sl hs hv hf (by omega) m1
            · have n1 : ¬ (vdB rs = false ∨ fmB r = false ∨ me < 0 ∨ 60 ≤ me) := by simp [hv, hf]; omega
              by_cases hd : 0 ≤ fnd r.o r.n rs
              · exact places_in v rs r me w sl hs hv hf (by omega) (by omega) _ rfl hd
              · have h16 := vd_len hv
                by_cases ho : r.o = me
                · by_cases hl : rs.length < 12
                  · exact places_a v rs r me w sl hs hv hf (by omega) (by omega) _ rfl (by omega) (by simp [ho]) (by omega) (by rw [putE, if_neg n1, if_neg hd, if_neg (by omega)])
                  · exact places_b v rs r me w sl hs hv hf (by omega) (by omega) _ rfl (by omega) (by simp [ho]) (by omega) (by rw [putE, if_neg n1, if_neg hd, if_pos (by omega)])
                · by_cases hl : rs.length < 16
                  · exact places_c v rs r me w sl hs hv hf (by omega) (by omega) _ rfl (by omega) (by simp [ho]) (by omega) (by rw [putE, if_neg n1, if_neg hd, if_neg (by omega)])
                  · exact places_d v rs r me w sl hs hv hf (by omega) (by omega) _ rfl (by omega) (by simp [ho]) (by omega) (by rw [putE, if_neg n1, if_neg hd, if_pos (by omega)])
  rw [hr] at key
  exact key

end Go.Proofs.Ytlfdbmndikdhdaa

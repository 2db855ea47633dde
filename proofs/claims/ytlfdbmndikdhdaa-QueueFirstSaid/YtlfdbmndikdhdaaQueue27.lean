/- The contract of queue.Drop in one; what its answer is. -/
import Derived.Test.YtlfdbmndikdhdaaDrop27
namespace Go.Proofs.Ytlfdbmndikdhdaa
open Go.RowKit

theorem fndFrom_cases {o n : Int} : ∀ (l : List Rd) (i : Nat), (fndFrom o n l i = -1 ∧ ∀ r ∈ l, isB o n r = false) ∨ ∃ k, k < l.length ∧ fndFrom o n l i = ((i + k : Nat) : Int) ∧ l.take k ++ l.drop (k + 1) = l.eraseP (isB o n) ∧ ∃ r, l[k]? = some r ∧ isB o n r = true
  | [], i => Or.inl ⟨rfl, by simp⟩
  | r :: l, i => by
    cases h : isB o n r with
    | true => exact Or.inr ⟨0, by simp, by simp [fndFrom, h], by simp [h], r, rfl, h⟩
    | false =>
      rcases fndFrom_cases (o := o) (n := n) l (i + 1) with ⟨h1, h2⟩ | ⟨k, h1, h2, h3, s, h4, h5⟩
      · refine Or.inl ⟨by simp [fndFrom, h, h1], fun x hx => ?_⟩
        rcases List.mem_cons.1 hx with rfl | hx
        · exact h
        · exact h2 x hx
      · refine Or.inr ⟨k + 1, by simp; omega, ?_, by simp [h, h3], s, by simpa using h4, h5⟩
        simp only [fndFrom, h, h2, if_neg (show ¬ (false = true) by simp)]
        omega
theorem fnd_cases (o n : Int) (l : List Rd) : (fnd o n l = -1 ∧ ∀ r ∈ l, isB o n r = false) ∨ ∃ k, k < l.length ∧ fnd o n l = (k : Int) ∧ l.take k ++ l.drop (k + 1) = l.eraseP (isB o n) ∧ ∃ r, l[k]? = some r ∧ isB o n r = true := by
  simpa [fnd] using fndFrom_cases (o := o) (n := n) l 0

/-- What Drop leaves. -/
def dropL (rs : List Rd) (o n : Int) : List Rd := if vdB rs = true then rs.eraseP (isB o n) else []
theorem drop_any (v : Value) (rs : List Rd) (o n : Int) (w : World) (sl : SlR w v rs) :
    Calls Try.prog 16 #[.agg #[v], .int .i64 o, .int .i64 n] w fun e w' => SPost w (dropL rs o n) e w' := by
  cases hv : vdB rs with
  | false =>
    rw [dropL, hv, if_neg (by simp)]
    exact drop_invalid v rs o n w sl hv
  | true =>
    rw [dropL, hv, if_pos rfl]
    rcases fnd_cases o n rs with ⟨h1, h2⟩ | ⟨k, h1, h2, h3, _⟩
    · rw [List.eraseP_of_forall_not (fun x hx => by rw [h2 x hx]; simp)]
      exact drop_none v rs o n w sl hv _ h1 (by omega)
    · rw [← h3]
      exact drop_some v rs o n w sl hv k h1 h2

theorem put_lit (v : Value) (rs : List Rd) (r : Rd) (me E : Int) (l : List Rd) (w : World) (sl : SlR w v rs) (h : putE rs r me = E ∧ putL rs r me = l) :
    Calls Try.prog 11 #[.agg #[v], .agg #[.int .i64 r.o, .int .i64 r.n, .int .i64 r.k, .int .i64 r.v, .int .i64 r.a], .int .i64 me] w fun e w' => QPost w E l e w' := by
  have := put_any v rs r me w sl
  rwa [h.1, h.2] at this
theorem drop_lit (v : Value) (rs : List Rd) (o n : Int) (l : List Rd) (w : World) (sl : SlR w v rs) (h : dropL rs o n = l) :
    Calls Try.prog 16 #[.agg #[v], .int .i64 o, .int .i64 n] w fun e w' => SPost w l e w' := by
  have := drop_any v rs o n w sl
  rwa [h] at this

set_option linter.unusedVariables false in
set_option maxRecDepth 100000 in
theorem reading_any (o n : Int) (w : World) :
    Calls Try.prog 23 #[.int .i64 o, .int .i64 n] w fun e w' => e = .returned (.agg #[.int .i64 o, .int .i64 n, .int .i64 0, .int .i64 0, .int .i64 0]) ∧ Below w.heap.size w w' := by
  go_enter Try.func23, Try.ntmps23
  go_wp2
  refine bodyPost_ret (v := .agg #[.int .i64 o, .int .i64 n, .int .i64 0, .int .i64 0, .int .i64 0]) (by simp [results, Try.results23, go_sem, *]) rfl ⟨rfl, ?_⟩
  repeat (first | (with_reducible exact Below.refl _ _) | (with_reducible refine belowSet ?_ _ _ _ ?_) | (with_reducible refine Below.drew ?_) | (with_reducible refine belowN ?_) | (with_reducible refine Below.alloc ?_ ?_ _))
  all_goals (first | omega | (simp; omega) | (simp; done))

set_option linter.unusedVariables false in
set_option maxRecDepth 100000 in
theorem short_any (v : Value) (rs : List Rd) (w : World) (sl : SlR w v rs) :
    Calls Try.prog 10 #[.agg #[v]] w fun e w' => e = .returned (.bool (decide (rs.length ≤ 40))) ∧ Below w.heap.size w w' := by
  obtain ⟨p, cap, rfl, hlc, hcm, parts⟩ := sl
  unfold maxLen at hcm
  clear parts
  go_enter Try.func10, Try.ntmps10
  go_wp2
  all_goals (go_ret; exact ⟨ret_bool (by simp; try omega), belowNew w _⟩)

end Go.Proofs.Ytlfdbmndikdhdaa

/- Plain facts for DownOrder: two learnings about different targets. No program is in sight here. -/
import Derived.Test.YtheifmdaladfdaaLaw21p
namespace Go.Proofs.Ytheifmdaladfdaa

theorem lrOf_congr {ls ls' be : List Dn} {c s f t : Int} (h : getD' ls t = getD' ls' t) : lrOf ls be c s f t = lrOf ls' be c s f t := by
  rw [lrOf, lrOf, h]
theorem lrOf_out {ls be : List Dn} {c s f t : Int} (h : lrIn be c t = false) : lrOf ls be c s f t = getD' ls t := by
  rw [lrOf, h, if_neg (by simp)]
theorem lrnB_ls {ls ls' be : List Dn} {c s f : Int} (h : lrnB ls be c s f = true) (h' : vldD ls' = true) : lrnB ls' be c s f = true := by
  simp only [lrnB, Bool.and_eq_true] at h ⊢
  exact ⟨h', h.2⟩
theorem order_eq {l x y : List Dn} {a b s t f : Int} (hab : a ≠ b) (h1 : getD' x b = none) (h2 : getD' y a = none) (h3 : ∀ d ∈ x, getD' y d.t = none) :
    lrL (lrL l x a s f) y b t f = lrL (lrL l y b t f) x a s f := by
  refine asc_ext lrL_asc lrL_asc fun τ => ?_
  rw [lrL_get, lrL_get]
  by_cases hr : 0 ≤ τ ∧ τ < 60
  · rw [if_pos hr, if_pos hr]
    have gp : getD' (lrL l x a s f) τ = lrOf l x a s f τ := by rw [lrL_get, if_pos hr]
    have gq : getD' (lrL l y b t f) τ = lrOf l y b t f τ := by rw [lrL_get, if_pos hr]
    cases hy : lrIn y b τ with
    | true =>
      have hx : lrIn x a τ = false := by
        rw [← Bool.not_eq_true]
        intro hx
        simp only [lrIn, Bool.or_eq_true, beq_iff_eq] at hx hy
        rcases hx with hx | hx
        · obtain ⟨d, hd⟩ := Option.isSome_iff_exists.1 hx
          obtain ⟨e, hm⟩ := getD_t hd
          rcases hy with hy | hy
          · have := h3 d hm
            rw [e] at this; rw [this] at hy; cases hy
          · rw [hy, h1] at hd; cases hd
        · rcases hy with hy | hy
          · rw [hx, h2] at hy; cases hy
          · exact hab (hx.symm.trans hy)
      rw [lrOf_congr (gp.trans (lrOf_out hx)), lrOf_out hx, gq]
    | false =>
      rw [lrOf_out hy, gp, lrOf_congr (be := x) (gq.trans (lrOf_out hy))]
  · rw [if_neg hr, if_neg hr]

end Go.Proofs.Ytheifmdaladfdaa

/- Plain facts for the laws of chapter 21: what is learnt. No program is in sight here. -/
import Derived.Test.YtheifmdaladfdaaCon21
namespace Go.Proofs.Ytheifmdaladfdaa

theorem toldF_mk : ∀ {l : List Dn} {last : Int}, AscD l → (∀ d ∈ l, last < d.t ∧ (0 ≤ d.t ∧ d.t < 60) ∧ 0 ≤ d.s ∧ d.s ≤ 1000000000) → toldF last l = true
  | [], _, _, _ => rfl
  | d :: l, last, ha, h => by
    have ha' := List.pairwise_cons.1 ha
    obtain ⟨h1, h2, h3, h4⟩ := h d List.mem_cons_self
    have ih := toldF_mk (last := d.t) ha'.2 fun e he => ⟨ha'.1 e he, (h e (List.mem_cons_of_mem _ he)).2⟩
    simp [toldF, nodB_iff.2 h2, h1, h3, h4, ih]
theorem god_spec {d : Dn} (h : godB d = true) : (0 ≤ d.n ∧ d.n < 60) ∧ 0 ≤ d.u ∧ d.u ≤ 1000000000 := by
  simp only [godB, Bool.and_eq_true, decide_eq_true_eq] at h
  exact ⟨nodB_iff.1 h.1.1, h.1.2, h.2⟩
theorem god_mk {d : Dn} (h : (0 ≤ d.n ∧ d.n < 60) ∧ 0 ≤ d.u ∧ d.u ≤ 1000000000) : godB d = true := by
  simp [godB, nodB_iff.2 h.1, h.2.1, h.2.2]
theorem vld_spec {l : List Dn} (h : vldD l = true) : AscD l ∧ ∀ d ∈ l, (0 ≤ d.t ∧ d.t < 60) ∧ (0 ≤ d.s ∧ d.s ≤ 1000000000) ∧ (0 ≤ d.n ∧ d.n < 60) ∧ 0 ≤ d.u ∧ d.u ≤ 1000000000 := by
  obtain ⟨h1, h2⟩ := vldD_told h
  obtain ⟨k1, k2⟩ := toldB_spec h1
  exact ⟨k1, fun d hd => ⟨(k2 d hd).1, (k2 d hd).2, god_spec (List.all_eq_true.1 h2 d hd)⟩⟩
theorem vld_mk {l : List Dn} (ha : AscD l) (h : ∀ d ∈ l, (0 ≤ d.t ∧ d.t < 60) ∧ (0 ≤ d.s ∧ d.s ≤ 1000000000) ∧ (0 ≤ d.n ∧ d.n < 60) ∧ 0 ≤ d.u ∧ d.u ≤ 1000000000) : vldD l = true := by
  rw [vldD, toldB, toldF_mk ha fun d hd => ⟨by have := (h d hd).1; omega, (h d hd).1, (h d hd).2.1⟩]
  exact List.all_eq_true.2 fun d hd => god_mk (h d hd).2.2
theorem idx_nonneg {l : List Dn} {t : Int} : 0 ≤ idxD (fun d => d.t == t) l ↔ (getD' l t).isSome = true := by
  rcases idx_get l t with ⟨h1, h2⟩ | ⟨k, r, _, h1, h2⟩
  · rw [h1, h2]; simp
  · rw [h1, h2]; simp
theorem idx_neg {l : List Dn} {t : Int} (h : getD' l t = none) : idxD (fun d => d.t == t) l = -1 := by
  rcases idx_get l t with ⟨h1, _⟩ | ⟨k, r, _, _, h2⟩
  · exact h1
  · rw [h] at h2; cases h2
variable {ls be : List Dn} {c s f : Int}
theorem lrX_good (h : lrnB ls be c s f = true) : lrX ls be c s f = lrL ls be c s f ∧ lrE ls be c s f = 0 := by simp [lrX, lrE, h]
theorem lrX_bad (h : lrnB ls be c s f = false) : lrX ls be c s f = [] ∧ lrE ls be c s f = 1 := by simp [lrX, lrE, h]
theorem lrL_get (t : Int) : getD' (lrL ls be c s f) t = if 0 ≤ t ∧ t < 60 then lrOf ls be c s f t else none := tgt_get (fun _ _ hd => lrOf_t hd) 60 t
theorem lrL_mem {d : Dn} (h : d ∈ lrL ls be c s f) : 0 ≤ d.t ∧ d.t < 60 ∧ lrOf ls be c s f d.t = some d := tgt_lt (fun _ _ hd => lrOf_t hd) h
theorem lrL_asc : AscD (lrL ls be c s f) := tgt_asc (fun _ _ hd => lrOf_t hd) 60
theorem lrOf_some {t : Int} (h : lrIn be c t = true ∨ (getD' ls t).isSome = true) : (lrOf ls be c s f t).isSome = true := by
  unfold lrOf
  by_cases hi : lrIn be c t = true
  · rw [if_pos hi]
    cases getD' ls t with
    | none => rfl
    | some o => dsimp only; split <;> rfl
  · rw [if_neg hi]
    exact h.resolve_left hi
/-- No target is lost. -/
theorem lrL_keeps (h : lrnB ls be c s f = true) {d : Dn} (hd : d ∈ ls) : 0 ≤ idxD (fun e => e.t == d.t) (lrL ls be c s f) := by
  obtain ⟨h1, _⟩ := lrnB_spec h
  obtain ⟨a1, a2⟩ := vld_spec h1
  rw [idx_nonneg, lrL_get, if_pos (a2 d hd).1]
  refine lrOf_some ?_
  exact .inr (by rw [getD_mem a1 hd]; rfl)
/-- Only the child and what it tells come in addition. -/
theorem lrL_new {d : Dn} (hd : d ∈ lrL ls be c s f) (h1 : idxD (fun e => e.t == d.t) ls < 0) (h2 : d.t ≠ c) : 0 ≤ idxD (fun e => e.t == d.t) be := by
  have h := (lrL_mem hd).2.2
  rw [idx_nonneg]
  cases hb : getD' be d.t with
  | some _ => rfl
  | none =>
    exfalso
    have hi : lrIn be c d.t = false := by simp [lrIn, hb, h2]
    rw [lrOf, hi, if_neg (by simp)] at h
    have : 0 ≤ idxD (fun e => e.t == d.t) ls := idx_nonneg.2 (by rw [h]; rfl)
    omega
theorem lrN_ok (h : lrnB ls be c s f = true) {t : Int} : (0 ≤ (lrN be c s f t).s ∧ (lrN be c s f t).s ≤ 1000000000) ∧ (0 ≤ (lrN be c s f t).n ∧ (lrN be c s f t).n < 60) ∧ 0 ≤ (lrN be c s f t).u ∧ (lrN be c s f t).u ≤ 1000000000 := by
  obtain ⟨_, h2, h3, h4, h5, _⟩ := lrnB_spec h
  refine ⟨?_, h2, by simp only [lrN]; omega, by simp only [lrN]; omega⟩
  simp only [lrN]
  cases hb : getD' be t with
  | none => exact h3
  | some d => exact ((toldB_spec h5).2 d (getD_t hb).2).2
theorem lrL_valid (h : lrnB ls be c s f = true) : vldD (lrL ls be c s f) = true := by
  obtain ⟨h1, _⟩ := lrnB_spec h
  obtain ⟨a1, a2⟩ := vld_spec h1
  refine vld_mk lrL_asc fun d hd => ?_
  obtain ⟨t0, t1, e⟩ := lrL_mem hd
  refine ⟨⟨t0, t1⟩, ?_⟩
  have old : ∀ {o : Dn}, getD' ls d.t = some o → (0 ≤ o.s ∧ o.s ≤ 1000000000) ∧ (0 ≤ o.n ∧ o.n < 60) ∧ 0 ≤ o.u ∧ o.u ≤ 1000000000 := fun ho => (a2 _ (getD_t ho).2).2
  have new := lrN_ok h (t := d.t)
  rw [lrOf] at e
  split at e
  · split at e
    · rename_i o ho
      split at e
      · cases e; exact old ho
      · rw [← Option.some.inj e]; exact new
    · rw [← Option.some.inj e]; exact new
  · exact old e
theorem lrL_child (h : lrnB ls be c s f = true) : 0 ≤ idxD (fun e => e.t == c) (lrL ls be c s f) := by
  obtain ⟨_, h2, _⟩ := lrnB_spec h
  rw [idx_nonneg, lrL_get, if_pos h2]
  exact lrOf_some (.inl (by simp [lrIn]))

end Go.Proofs.Ytheifmdaladfdaa

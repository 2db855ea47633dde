/- What is merged is what is learnt. No program is in sight here. -/
import Derived.Test.YtheifmdaladfdaaMerge21
import Derived.Test.YtheifmdaladfdaaRLearn21
namespace Go.Proofs.Ytheifmdaladfdaa

/-- What a list that a node can tell says of its elements. -/
theorem toldF_spec : ∀ {l : List Dn} {last : Int}, toldF last l = true → AscD l ∧ ∀ d ∈ l, last < d.t ∧ (0 ≤ d.t ∧ d.t < 60) ∧ 0 ≤ d.s ∧ d.s ≤ 1000000000
  | [], _, _ => ⟨List.Pairwise.nil, fun d h => by cases h⟩
  | d :: l, last, h => by
    simp only [toldF, Bool.and_eq_true, decide_eq_true_eq] at h
    obtain ⟨⟨⟨⟨h1, h2⟩, h3⟩, h4⟩, h5⟩ := h
    obtain ⟨k1, k2⟩ := toldF_spec h5
    refine ⟨List.pairwise_cons.2 ⟨fun a ha => (k2 a ha).1, k1⟩, fun a ha => ?_⟩
    rcases List.mem_cons.1 ha with rfl | ha
    · exact ⟨h2, nodB_iff.1 h1, h3, h4⟩
    · have := k2 a ha
      exact ⟨by omega, this.2⟩
theorem toldB_spec {l : List Dn} (h : toldB l = true) : AscD l ∧ ∀ d ∈ l, (0 ≤ d.t ∧ d.t < 60) ∧ 0 ≤ d.s ∧ d.s ≤ 1000000000 :=
  ⟨(toldF_spec h).1, fun d hd => ((toldF_spec h).2 d hd).2⟩
theorem vldD_told {l : List Dn} (h : vldD l = true) : toldB l = true ∧ l.all godB = true := by
  simpa [vldD] using h
/-- What a merge says of a target. -/
def mOf (c f : Int) (xs r : List Dn) (t : Int) : Option Dn := match getD' xs t with
  | some x => (match getD' r t with
    | some o => if lrKeep o c (nwD c f x) = true then some o else some (nwD c f x)
    | none => some (nwD c f x))
  | none => getD' r t
variable {c f : Int}
theorem get_none_lt {l : List Dn} {t : Int} (h : ∀ d ∈ l, t < d.t) : getD' l t = none := getD_none.2 fun d hd => by have := h d hd; omega
theorem mrg_get : ∀ (xs : List Dn), AscD xs → ∀ (r : List Dn), AscD r → ∀ t, getD' (mrg c f xs r) t = mOf c f xs r t
  | [], _, r, _, t => rfl
  | x :: xs, hx, r, hr, t => by
    have hx' := List.pairwise_cons.1 hx
    induction r with
    | nil =>
      rw [mrg_nil, getD_cons, mrg_get xs hx'.2 [] List.Pairwise.nil]
      simp only [mOf, getD_cons]
      by_cases e : x.t = t
      · simp [e, nwD, getD']
      · simp [e, nwD]
    | cons y ys ih =>
      have hr' := List.pairwise_cons.1 hr
      rcases Int.lt_trichotomy y.t x.t with e | e | e
      · rw [mrg_skip e, getD_cons, ih hr'.2]
        by_cases k : y.t = t
        · have h1 : getD' (x :: xs) t = none := get_none_lt fun d hd => by
            rcases List.mem_cons.1 hd with rfl | hd
            · omega
            · have := hx'.1 d hd; omega
          simp [mOf, h1, k, getD_cons]
        · simp only [mOf, if_neg k, getD_cons (x := y)]
      · have hys : getD' ys x.t = none := get_none_lt fun d hd => by have := hr'.1 d hd; omega
        cases hk : lrKeep y c (nwD c f x) with
        | true =>
          rw [mrg_keep e hk, getD_cons, mrg_get xs hx'.2 ys hr'.2]
          by_cases k : y.t = t
          · have : x.t = t := by omega
            simp [mOf, getD_cons, k, this, hk]
          · have : ¬ x.t = t := by omega
            simp [mOf, getD_cons, k, this]
        | false =>
          rw [mrg_new e hk, getD_cons, mrg_get xs hx'.2 ys hr'.2]
          by_cases k : x.t = t
          · have : y.t = t := by omega
            have hn : (nwD c f x).t = t := k
            simp [mOf, getD_cons, hn, k, this, hk]
          · have : ¬ y.t = t := by omega
            simp [mOf, getD_cons, k, this, nwD]
      · rw [mrg_lt e, getD_cons, mrg_get xs hx'.2 (y :: ys) hr]
        by_cases k : x.t = t
        · have h1 : getD' (y :: ys) t = none := get_none_lt fun d hd => by
            rcases List.mem_cons.1 hd with rfl | hd
            · omega
            · have := hr'.1 d hd; omega
          simp [mOf, getD_cons (x := x), k, h1, nwD]
        · simp [mOf, getD_cons (x := x), k, nwD]
theorem mrg_lower : ∀ (xs : List Dn), AscD xs → ∀ (r : List Dn), AscD r → AscD (mrg c f xs r) ∧ ∀ b : Int, (∀ d ∈ xs, b < d.t) → (∀ d ∈ r, b < d.t) → ∀ d ∈ mrg c f xs r, b < d.t
  | [], _, r, hr => ⟨hr, fun b _ h => h⟩
  | x :: xs, hx, r, hr => by
    have hx' := List.pairwise_cons.1 hx
    induction r with
    | nil =>
      obtain ⟨k1, k2⟩ := mrg_lower xs hx'.2 [] List.Pairwise.nil
      rw [mrg_nil]
      refine ⟨List.pairwise_cons.2 ⟨fun d hd => k2 x.t hx'.1 (fun d h => by cases h) d hd, k1⟩, fun b h1 _ d hd => ?_⟩
      rcases List.mem_cons.1 hd with rfl | hd
      · exact h1 x List.mem_cons_self
      · exact k2 b (fun d h => h1 d (List.mem_cons_of_mem _ h)) (fun d h => by cases h) d hd
    | cons y ys ih =>
      have hr' := List.pairwise_cons.1 hr
      rcases Int.lt_trichotomy y.t x.t with e | e | e
      · obtain ⟨k1, k2⟩ := ih hr'.2
        rw [mrg_skip e]
        refine ⟨List.pairwise_cons.2 ⟨fun d hd => k2 y.t (fun d h => ?_) hr'.1 d hd, k1⟩, fun b h1 h2 d hd => ?_⟩
        · rcases List.mem_cons.1 h with rfl | h
          · exact e
          · have := hx'.1 d h; omega
        · rcases List.mem_cons.1 hd with rfl | hd
          · exact h2 _ List.mem_cons_self
          · exact k2 b h1 (fun d h => h2 d (List.mem_cons_of_mem _ h)) d hd
      · obtain ⟨k1, k2⟩ := mrg_lower xs hx'.2 ys hr'.2
        have key : ∀ z : Dn, z.t = x.t → AscD (z :: mrg c f xs ys) ∧ ∀ b : Int, (∀ d ∈ x :: xs, b < d.t) → (∀ d ∈ y :: ys, b < d.t) → ∀ d ∈ z :: mrg c f xs ys, b < d.t := fun z hz => by
          refine ⟨List.pairwise_cons.2 ⟨fun d hd => k2 z.t (fun d h => by rw [hz]; exact hx'.1 d h) (fun d h => by rw [hz, ← e]; exact hr'.1 d h) d hd, k1⟩, fun b h1 h2 d hd => ?_⟩
          rcases List.mem_cons.1 hd with rfl | hd
          · rw [hz]; exact h1 x List.mem_cons_self
          · exact k2 b (fun d h => h1 d (List.mem_cons_of_mem _ h)) (fun d h => h2 d (List.mem_cons_of_mem _ h)) d hd
        cases hk : lrKeep y c (nwD c f x) with
        | true => rw [mrg_keep e hk]; exact key y e
        | false => rw [mrg_new e hk]; exact key _ rfl
      · obtain ⟨k1, k2⟩ := mrg_lower xs hx'.2 (y :: ys) hr
        rw [mrg_lt e]
        refine ⟨List.pairwise_cons.2 ⟨fun d hd => k2 x.t hx'.1 (fun d h => ?_) d hd, k1⟩, fun b h1 h2 d hd => ?_⟩
        · rcases List.mem_cons.1 h with rfl | h
          · exact e
          · have := hr'.1 d h; omega
        · rcases List.mem_cons.1 hd with rfl | hd
          · exact h1 x List.mem_cons_self
          · exact k2 b (fun d h => h1 d (List.mem_cons_of_mem _ h)) h2 d hd
theorem nwF_false {own : Dn} : ∀ {l : List Dn}, (∀ d ∈ l, own.t < d.t) → nwF own false l = l
  | [], _ => rfl
  | d :: l, h => by
    have h1 := h d List.mem_cons_self
    have h2 : decide (d.t < own.t) = false := decide_eq_false (by omega)
    rw [nwF, h2, nwF_false fun e he => h e (List.mem_cons_of_mem _ he)]
    simp
theorem nwF_spec {own : Dn} : ∀ {l : List Dn}, AscD l → (∀ d ∈ l, d.t ≠ own.t) → AscD (nwF own true l) ∧ (∀ t, getD' (nwF own true l) t = if own.t = t then some own else getD' l t) ∧ ∀ d ∈ nwF own true l, d = own ∨ d ∈ l
  | [], _, _ => ⟨by simp [nwF, AscD], fun t => by simp [nwF, getD_cons], fun d h => by simp [nwF] at h; exact .inl h⟩
  | d :: l, ha, hn => by
    have ha' := List.pairwise_cons.1 ha
    have hd := hn d List.mem_cons_self
    by_cases h1 : own.t < d.t
    · have hall : ∀ e ∈ l, own.t < e.t := fun e he => by have := ha'.1 e he; omega
      have e : nwF own true (d :: l) = own :: d :: l := by
        have h2 : decide (d.t < own.t) = false := decide_eq_false (by omega)
        rw [nwF, h2, nwF_false hall]; simp [h1]
      rw [e]
      refine ⟨List.pairwise_cons.2 ⟨fun e he => ?_, ha⟩, fun t => by rw [getD_cons], fun e he => ?_⟩
      · rcases List.mem_cons.1 he with rfl | he
        · exact h1
        · exact hall e he
      · rcases List.mem_cons.1 he with rfl | he
        · exact .inl rfl
        · exact .inr he
    · obtain ⟨k1, k2, k3⟩ := nwF_spec ha'.2 (fun e he => hn e (List.mem_cons_of_mem _ he))
      have e : nwF own true (d :: l) = d :: nwF own true l := by
        have h2 : decide (d.t < own.t) = true := decide_eq_true (by omega)
        rw [nwF, h2]; simp [h1]
      rw [e]
      refine ⟨List.pairwise_cons.2 ⟨fun e he => ?_, k1⟩, fun t => ?_, fun e he => ?_⟩
      · rcases k3 e he with rfl | he
        · omega
        · exact ha'.1 e he
      · rw [getD_cons, k2, getD_cons]
        by_cases c1 : d.t = t
        · rw [if_pos c1, if_pos c1, if_neg (by omega)]
        · rw [if_neg c1, if_neg c1]
      · rcases List.mem_cons.1 he with rfl | he
        · exact .inr List.mem_cons_self
        · exact (k3 e he).imp id (List.mem_cons_of_mem _)
theorem lrnB_spec {ls be : List Dn} {c s f : Int} (h : lrnB ls be c s f = true) : vldD ls = true ∧ (0 ≤ c ∧ c < 60) ∧ (0 ≤ s ∧ s ≤ 1000000000) ∧ (0 ≤ f ∧ f ≤ 999999997) ∧ toldB be = true ∧ ∀ d ∈ be, d.t ≠ c := by
  simp only [lrnB, toldC, Bool.and_eq_true, decide_eq_true_eq] at h
  obtain ⟨h1, h2, h3, h4, h5, h6, h7, h8⟩ := h
  exact ⟨h1, nodB_iff.1 h2, ⟨h3, h4⟩, ⟨h5, h6⟩, h7, fun d hd => by have := List.all_eq_true.1 h8 d hd; simpa using this⟩
/-- What is merged is what is learnt. -/
theorem mrg_lrL {ls be : List Dn} {c s f : Int} (h : lrnB ls be c s f = true) : mrg c f (newsL c s be) ls = lrL ls be c s f := by
  obtain ⟨h1, h2, _, _, h5, h6⟩ := lrnB_spec h
  obtain ⟨a1, a2⟩ := toldB_spec (vldD_told h1).1
  obtain ⟨b1, b2⟩ := toldB_spec h5
  obtain ⟨n1, n2, _⟩ := nwF_spec (own := ⟨c, 0, s, 0⟩) b1 h6
  replace n1 : AscD (newsL c s be) := n1
  refine asc_ext (mrg_lower _ n1 _ a1).1 (tgt_asc (fun t d hd => lrOf_t hd) 60) fun t => ?_
  rw [lrL, tgt_get (fun t d hd => lrOf_t hd), mrg_get _ n1 _ a1]
  have hbc : getD' be c = none := getD_none.2 h6
  have hN : getD' (newsL c s be) t = if c = t then some ⟨c, 0, s, 0⟩ else getD' be t := n2 t
  by_cases hr : 0 ≤ t ∧ t < (60 : Nat)
  · rw [if_pos hr, mOf, hN, lrOf]
    by_cases e : c = t
    · subst e
      cases hl : getD' ls c with
      | none => simp [lrIn, lrN, nwD, hbc]
      | some o => simp [lrIn, lrN, nwD, hbc]; rfl
    · have e' : (t == c) = false := beq_eq_false_iff_ne.2 (Ne.symm e)
      rw [if_neg e]
      cases hb : getD' be t with
      | none => simp [lrIn, hb, e']
      | some d =>
        have hdt := (getD_t hb).1
        cases hl : getD' ls t with
        | none => simp [lrIn, hb, lrN, nwD, hdt]
        | some o => simp [lrIn, hb, lrN, nwD, hdt]
  · rw [if_neg hr, mOf, hN, if_neg (by omega)]
    have hb : getD' be t = none := getD_none.2 fun d hd => by have := (b2 d hd).1; omega
    have hl : getD' ls t = none := getD_none.2 fun d hd => by have := (a2 d hd).1; omega
    simp [hb, hl]

end Go.Proofs.Ytheifmdaladfdaa

/- Plain facts about trees whose nodes learn routes from their children. No program is in sight here. -/
import Derived.Test.YtheifmdaladfdaaDownTells
namespace Go.Proofs.Ytheifmdaladfdaa
open Go.RowKit

/-- c is the child of a on the way from a down to k. -/
inductive Anc (par : Nat → Nat) (a : Nat) : Nat → Nat → Prop
  | here {k : Nat} : 0 < k → par k = a → Anc par a k k
  | up {c k : Nat} : 0 < k → Anc par a c (par k) → Anc par a c k
section
variable {par : Nat → Nat}
def Tre (par : Nat → Nat) : Prop := ∀ j, 0 < j → par j < j
theorem Anc.le (ht : Tre par) {a c k : Nat} (h : Anc par a c k) : 0 < c ∧ par c = a ∧ c ≤ k := by
  induction h with
  | here h0 h1 => exact ⟨h0, h1, Nat.le_refl _⟩
  | up h0 _ ih => exact ⟨ih.1, ih.2.1, by have := ht _ h0; omega⟩
theorem Anc.lt (ht : Tre par) {a c k : Nat} (h : Anc par a c k) : a < c := by
  obtain ⟨h0, h1, _⟩ := h.le ht
  have := ht c h0; omega
theorem Anc.pos {a c k : Nat} (h : Anc par a c k) : 0 < k := by cases h <;> assumption
theorem Anc.uniq (ht : Tre par) {a c c' k : Nat} (h : Anc par a c k) (h' : Anc par a c' k) : c = c' := by
  induction h with
  | here h0 h1 =>
    cases h' with
    | here => rfl
    | up _ h2 =>
      rw [h1] at h2
      have h3 := (h2.le ht).2.2
      have h4 := h2.lt ht
      omega
  | up h0 h1 ih =>
    cases h' with
    | here _ h2 =>
      rw [h2] at h1
      have h3 := (h1.le ht).2.2
      have h4 := h1.lt ht
      omega
    | up _ h2 => exact ih h2
theorem Anc.comp {p i c k : Nat} (h : Anc par i c k) (hi : 0 < i) (hp : par i = p) : Anc par p i k := by
  induction h with
  | here h0 h1 => exact .up h0 (by rw [h1]; exact .here hi hp)
  | up h0 _ ih => exact .up h0 ih
theorem Anc.split {p i k : Nat} (h : Anc par p i k) : k = i ∨ ∃ c, Anc par i c k := by
  induction h with
  | here h0 h1 => exact Or.inl rfl
  | up h0 _ ih =>
    rcases ih with e | ⟨c, hc⟩
    · exact Or.inr ⟨_, .here h0 e⟩
    · exact Or.inr ⟨c, .up h0 hc⟩
/-- The routes when all nodes above i have told. -/
structure TInv (par : Nat → Nat) (n i : Nat) (ρ : Nat → List Dn) : Prop where
  v : ∀ j, j < n → vldD (ρ j) = true
  m : ∀ j, j < n → ∀ t d, getD' (ρ j) t = some d → ∃ c k : Nat, t = (k : Int) ∧ Anc par j c k ∧ i < c ∧ k < n ∧ d.n = (c : Int)
  c : ∀ j, j < n → ∀ c k : Nat, Anc par j c k → i < c → k < n → ∃ d, getD' (ρ j) (k : Int) = some d ∧ d.n = (c : Int)
theorem tinv_start {n : Nat} (ht : Tre par) : TInv par n (n - 1) (fun _ => []) where
  v := fun _ _ => rfl
  m := fun _ _ t d h => by simp [getD'] at h
  c := fun _ _ c k h h1 h2 => by have := (h.le ht).2.2; omega
theorem tel_get {l : List Dn} (h : vldD l = true) (t : Int) : (getD' (telL l) t).isSome = (getD' l t).isSome := by
  rw [telL, if_pos h]
  induction l with
  | nil => rfl
  | cons x l ih =>
    have hv : ∀ y : List Dn, (getD' (y.map telD) t).isSome = (getD' y t).isSome := fun y => by
      induction y with
      | nil => rfl
      | cons a y ih2 =>
        rw [List.map_cons, getD_cons, getD_cons]
        by_cases e : a.t = t
        · rw [if_pos (show (telD a).t = t from e), if_pos e]; rfl
        · rw [if_neg (show ¬ (telD a).t = t from e), if_neg e]; exact ih2
    exact hv _
theorem tinv_learn {n i : Nat} {ρ : Nat → List Dn} {s f : Int} (ht : Tre par) (hI : TInv par n i ρ) (hn : n ≤ 20) (h0 : 0 < i) (hi : i < n) (hs : 0 ≤ s ∧ s ≤ 1000000000) (hf : 0 ≤ f ∧ f ≤ 999999997) : lrnB (ρ (par i)) (telL (ρ i)) i s f = true := by
  have hp := ht i h0
  have h1 : lrnB [] (telL (ρ i)) i s f = true := tel_lrn (hI.v i hi) (fun d hd e => by
    have hg : getD' (ρ i) d.t = some d := getD_mem (vld_spec (hI.v i hi)).1 hd
    obtain ⟨c, k, e1, ha, hc, _⟩ := hI.m i hi _ _ hg
    have := (ha.le ht).2.2
    omega) ⟨by omega, by omega⟩ hs hf
  have hv := hI.v (par i) (by omega)
  unfold lrnB at h1 ⊢
  rw [Bool.and_eq_true] at h1 ⊢
  exact ⟨hv, h1.2⟩
theorem tinv_step {n i : Nat} {ρ : Nat → List Dn} {s f : Int} (ht : Tre par) (hI : TInv par n i ρ) (hn : n ≤ 20) (h0 : 0 < i) (hi : i < n) (h : lrnB (ρ (par i)) (telL (ρ i)) i s f = true) :
    TInv par n (i - 1) (fun j => if j = par i then lrL (ρ (par i)) (telL (ρ i)) i s f else ρ j) := by
  have hp := ht i h0
  have hpn : par i < n := by omega
  have hin : ∀ k : Nat, lrIn (telL (ρ i)) i k = true → k < n → Anc par (par i) i k := fun k hk _ => by
    simp only [lrIn, Bool.or_eq_true, beq_iff_eq] at hk
    rcases hk with hk | hk
    · rw [tel_get (hI.v i hi)] at hk
      obtain ⟨d, hd⟩ := Option.isSome_iff_exists.1 hk
      obtain ⟨c, k', e, ha, _⟩ := hI.m i hi _ _ hd
      obtain rfl : k = k' := by omega
      exact ha.comp h0 rfl
    · obtain rfl : k = i := by omega
      exact .here h0 rfl
  have hold : ∀ k : Nat, Anc par (par i) i k → getD' (ρ (par i)) (k : Int) = none := fun k ha => by
    cases hg : getD' (ρ (par i)) (k : Int) with
    | none => rfl
    | some d =>
      obtain ⟨c, k', e, ha', hc, _⟩ := hI.m _ hpn _ _ hg
      obtain rfl : k = k' := by omega
      have := ha.uniq ht ha'
      omega
  refine ⟨fun j hj => ?_, fun j hj t d hd => ?_, fun j hj c k ha hc hk => ?_⟩
  · by_cases e : j = par i
    · simp only [e, if_true]; exact lrL_valid h
    · simp only [e, if_false]; exact hI.v j hj
  · by_cases e : j = par i
    · subst e
      simp only [if_true] at hd
      rw [lrL_get] at hd
      split at hd
      · rename_i h60
        unfold lrOf at hd
        by_cases hl : lrIn (telL (ρ i)) i t = true
        · rw [if_pos hl] at hd
          -- t is i or a target below i
          have hkn : ∃ k : Nat, t = (k : Int) ∧ k < n := by
            simp only [lrIn, Bool.or_eq_true, beq_iff_eq] at hl
            rcases hl with hk | hk
            · rw [tel_get (hI.v i hi)] at hk
              obtain ⟨d', hd'⟩ := Option.isSome_iff_exists.1 hk
              obtain ⟨c, k', e, _, _, hk', _⟩ := hI.m i hi _ _ hd'
              exact ⟨k', e, hk'⟩
            · exact ⟨i, hk, hi⟩
          obtain ⟨k, rfl, hkn⟩ := hkn
          have ha := hin k hl hkn
          rw [hold k ha] at hd
          obtain rfl := Option.some.inj hd
          exact ⟨i, k, rfl, ha, by omega, hkn, rfl⟩
        · rw [if_neg hl] at hd
          obtain ⟨c, k, e1, ha, hc, hk, hn'⟩ := hI.m _ hpn _ _ hd
          exact ⟨c, k, e1, ha, by omega, hk, hn'⟩
      · cases hd
    · simp only [e, if_false] at hd
      obtain ⟨c, k, e1, ha, hc, hk, hn'⟩ := hI.m j hj _ _ hd
      exact ⟨c, k, e1, ha, by omega, hk, hn'⟩
  · by_cases e : j = par i
    · subst e
      simp only [if_true]
      rw [lrL_get, if_pos (show (0 : Int) ≤ (k : Int) ∧ (k : Int) < 60 by omega)]
      by_cases hci : c = i
      · subst hci
        have hl : lrIn (telL (ρ c)) c k = true := by
          simp only [lrIn, Bool.or_eq_true, beq_iff_eq]
          rcases ha.split with e2 | ⟨c', hc'⟩
          · right; omega
          · left
            rw [tel_get (hI.v c hi)]
            obtain ⟨d, hd, _⟩ := hI.c c hi c' k hc' (hc'.lt ht) hk
            rw [hd]; rfl
        refine ⟨lrN (telL (ρ c)) c s f k, ?_, rfl⟩
        rw [lrOf, if_pos hl, hold k ha]
      · obtain ⟨d, hd, hn'⟩ := hI.c _ hpn c k ha (by omega) hk
        have hl : ¬ lrIn (telL (ρ i)) i k = true := fun hl => hci (ha.uniq ht (hin k hl hk))
        exact ⟨d, by rw [lrOf, if_neg hl]; exact hd, hn'⟩
    · simp only [e, if_false]
      refine hI.c j hj c k ha ?_ hk
      have h1 := ha.le ht
      rcases Nat.lt_or_ge i c with h2 | h2
      · exact h2
      · have : c = i := by omega
        subst this
        exact absurd h1.2.1.symm e
/-- What Next answers at the end. -/
theorem nxtT_yes {ls : List Dn} {x : Int} {d : Dn} (hv : vldD ls = true) (h : getD' ls x = some d) : nxtN ls x = d.n ∧ nxtB ls x = true := by
  have hb : nxtB ls x = true := by
    rw [nxtB, hv, Bool.true_and, List.any_eq_true]
    exact ⟨d, (getD_t h).2, by simpa using (getD_t h).1⟩
  refine ⟨?_, hb⟩
  rw [nxtN, if_pos hb]
  have h' : ls.find? (fun d => d.t == x) = some d := h
  rw [h']; rfl
theorem nxtT_no {ls : List Dn} {x : Int} (h : getD' ls x = none) : nxtN ls x = 0 ∧ nxtB ls x = false := by
  have hb : nxtB ls x = false := by
    rw [nxtB, Bool.and_eq_false_iff]
    right
    rw [List.any_eq_false]
    intro d hd hq
    exact getD_none.1 h d hd (by simpa using hq)
  exact ⟨by rw [nxtN, hb, if_neg (by simp)], hb⟩
/-- The marks when the way up from i has come to x. -/
def MInv (par : Nat → Nat) (i x : Nat) (ab : Nat → Bool) : Prop :=
  (∀ a c, Anc par a c x → Anc par a c i) ∧ (∀ a c, Anc par a c i → c ≤ x → Anc par a c x) ∧ ∀ a, ab a = true ↔ ∃ c, Anc par a c i ∧ x < c
theorem minv_start (ht : Tre par) {i : Nat} : MInv par i i (fun _ => false) :=
  ⟨fun _ _ h => h, fun _ _ h _ => h, fun a => ⟨fun h => (by cases h), fun ⟨c, h, h1⟩ => by have := (h.le ht).2.2; omega⟩⟩
theorem minv_step (ht : Tre par) {i x : Nat} {ab : Nat → Bool} (h : MInv par i x ab) (h0 : 0 < x) : MInv par i (par x) (fun a => if a = par x then true else ab a) := by
  obtain ⟨h1, h2, h3⟩ := h
  have hp := ht x h0
  refine ⟨fun a c ha => h1 a c (.up h0 ha), fun a c ha hc => ?_, fun a => ?_⟩
  · have := h2 a c ha (by omega)
    cases this with
    | here => omega
    | up _ h4 => exact h4
  · constructor
    · intro h
      by_cases e : a = par x
      · subst e
        exact ⟨x, h1 _ _ (.here h0 rfl), hp⟩
      · simp only [e, if_false] at h
        obtain ⟨c, hc, hx⟩ := (h3 a).1 h
        exact ⟨c, hc, by omega⟩
    · rintro ⟨c, hc, hx⟩
      by_cases e : a = par x
      · simp [e]
      · simp only [e, if_false]
        rcases Nat.lt_or_ge x c with h4 | h4
        · exact (h3 a).2 ⟨c, hc, h4⟩
        · have h5 := h2 a c hc h4
          cases h5 with
          | here _ h6 => exact absurd h6.symm e
          | up _ h6 => have := (h6.le ht).2.2; omega
/-- The check at a node. -/
theorem tree_check {n i at' : Nat} {ρ : Nat → List Dn} {ab : Nat → Bool} (ht : Tre par) (hI : TInv par n 0 ρ) (hM : MInv par i 0 ab) (hi : i < n) (ha : at' < n) :
    (nxtN (ρ at') i = 0 ∧ nxtB (ρ at') i = false ∧ ab at' = false) ∨ ∃ c : Nat, nxtN (ρ at') i = (c : Int) ∧ nxtB (ρ at') i = true ∧ ab at' = true ∧ 0 < c ∧ c < n ∧ par c = at' ∧ (c = i ∨ ab c = true) := by
  cases hg : getD' (ρ at') (i : Int) with
  | none =>
    left
    obtain ⟨h1, h2⟩ := nxtT_no hg
    refine ⟨h1, h2, ?_⟩
    rw [← Bool.not_eq_true]
    intro hb
    obtain ⟨c, hc, hx⟩ := (hM.2.2 at').1 hb
    obtain ⟨d, hd, _⟩ := hI.c at' ha c i hc hx hi
    rw [hg] at hd; cases hd
  | some d =>
    right
    obtain ⟨h1, h2⟩ := nxtT_yes (hI.v at' ha) hg
    obtain ⟨c, k, e, hc, hx, hk, hn⟩ := hI.m at' ha _ _ hg
    obtain rfl : i = k := by omega
    have hl := hc.le ht
    refine ⟨c, by rw [h1, hn], h2, (hM.2.2 at').2 ⟨c, hc, hx⟩, hl.1, by omega, hl.2.1, ?_⟩
    rcases hc.split with e2 | ⟨c', hc'⟩
    · exact Or.inl e2.symm
    · exact Or.inr ((hM.2.2 c).2 ⟨c', hc', (hc'.le ht).1⟩)
end
end Go.Proofs.Ytheifmdaladfdaa

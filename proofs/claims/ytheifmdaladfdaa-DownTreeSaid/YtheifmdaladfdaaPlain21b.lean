/- Plain facts about learning routes. No program is in sight here. -/
import Derived.Test.YtheifmdaladfdaaPlain21
namespace Go.Proofs.Ytheifmdaladfdaa

/-- Targets ascend. -/
abbrev AscD (l : List Dn) : Prop := l.Pairwise (fun a b => a.t < b.t)
def atD (t : Int) (d : Dn) : Bool := d.t == t
def getD' (l : List Dn) (t : Int) : Option Dn := l.find? (atD t)
theorem getD_t {l : List Dn} {t : Int} {d : Dn} (h : getD' l t = some d) : d.t = t ∧ d ∈ l := by
  have h1 := List.find?_some h
  exact ⟨by simpa [atD] using h1, List.mem_of_find?_eq_some h⟩
theorem getD_none {l : List Dn} {t : Int} : getD' l t = none ↔ ∀ d ∈ l, d.t ≠ t := by
  simp [getD', List.find?_eq_none, atD]
theorem getD_mem {l : List Dn} (h : AscD l) {d : Dn} (hd : d ∈ l) : getD' l d.t = some d := by
  induction l with
  | nil => simp at hd
  | cons x l ih =>
    rw [AscD, List.pairwise_cons] at h
    rcases List.mem_cons.1 hd with rfl | hd
    · simp [getD', atD]
    · have := h.1 d hd
      rw [getD', List.find?_cons, show atD d.t x = false from beq_eq_false_iff_ne.2 (by omega)]
      exact ih h.2 hd
theorem getD_cons {l : List Dn} {x : Dn} {t : Int} : getD' (x :: l) t = if x.t = t then some x else getD' l t := by
  rw [getD', List.find?_cons]
  by_cases h : x.t = t
  · simp [atD, h]
  · rw [if_neg h, show atD t x = false from beq_eq_false_iff_ne.2 h]; rfl
theorem getD_append {a b : List Dn} {t : Int} : getD' (a ++ b) t = (getD' a t).or (getD' b t) := by
  rw [getD', List.find?_append]; rfl
/-- Ascending lists that say the same of every target are equal. -/
theorem asc_ext : ∀ {a b : List Dn}, AscD a → AscD b → (∀ t, getD' a t = getD' b t) → a = b
  | [], [], _, _, _ => rfl
  | [], y :: b, _, _, h => by have := h y.t; simp [getD', atD] at this
  | x :: a, [], _, _, h => by have := h x.t; simp [getD', atD] at this
  | x :: a, y :: b, ha, hb, h => by
    rw [AscD, List.pairwise_cons] at ha hb
    have hxy : x.t = y.t := by
      rcases Int.lt_trichotomy x.t y.t with c | c | c
      · have := h x.t
        rw [getD_cons, if_pos rfl, getD_cons, if_neg (by omega)] at this
        obtain ⟨e, m⟩ := getD_t this.symm
        have := hb.1 x m; omega
      · exact c
      · have := h y.t
        rw [getD_cons, if_neg (by omega), getD_cons, if_pos rfl] at this
        obtain ⟨e, m⟩ := getD_t this
        have := ha.1 y m; omega
    have e : x = y := by
      have := h x.t
      rw [getD_cons, if_pos rfl, getD_cons, if_pos hxy.symm] at this
      exact Option.some.inj this
    subst e
    rw [asc_ext ha.2 hb.2 fun t => by
      by_cases c : x.t = t
      · have e1 : getD' a t = none := getD_none.2 fun d hd => by have := ha.1 d hd; omega
        have e2 : getD' b t = none := getD_none.2 fun d hd => by have := hb.1 d hd; omega
        rw [e1, e2]
      · have := h t
        rwa [getD_cons, if_neg c, getD_cons, if_neg c] at this]

/-- What is said of a target after learning. -/
def lrN (be : List Dn) (c s f t : Int) : Dn := ⟨t, c, ((getD' be t).map Dn.s).getD s, f + 3⟩
def lrIn (be : List Dn) (c t : Int) : Bool := (getD' be t).isSome || t == c
def lrKeep (o : Dn) (c : Int) (n : Dn) : Bool := o.n != c && decide (n.s ≤ o.s)
def lrOf (ls be : List Dn) (c s f t : Int) : Option Dn :=
  if lrIn be c t = true then
    match getD' ls t with
    | some o => if lrKeep o c (lrN be c s f t) = true then some o else some (lrN be c s f t)
    | none => some (lrN be c s f t)
  else getD' ls t
theorem lrOf_t {ls be : List Dn} {c s f t : Int} {d : Dn} (h : lrOf ls be c s f t = some d) : d.t = t := by
  unfold lrOf at h
  split at h
  · split at h
    · rename_i o ho
      split at h
      · obtain rfl := Option.some.inj h; exact (getD_t ho).1
      · obtain rfl := Option.some.inj h; rfl
    · obtain rfl := Option.some.inj h; rfl
  · exact (getD_t h).1
/-- What is learnt: target by target. -/
def tgtL (g : Int → Option Dn) : Nat → List Dn
  | 0 => []
  | n + 1 => tgtL g n ++ (g n).toList
theorem tgt_lt {g : Int → Option Dn} (hg : ∀ t d, g t = some d → d.t = t) : ∀ {n : Nat} {d : Dn}, d ∈ tgtL g n → 0 ≤ d.t ∧ d.t < n ∧ g d.t = some d
  | 0, d, h => by simp [tgtL] at h
  | n + 1, d, h => by
    rw [tgtL, List.mem_append] at h
    rcases h with h | h
    · have := tgt_lt hg h; exact ⟨this.1, by omega, this.2.2⟩
    · have e : g n = some d := by simpa using h
      have := hg _ _ e
      exact ⟨by omega, by omega, by rw [this]; exact e⟩
theorem tgt_asc {g : Int → Option Dn} (hg : ∀ t d, g t = some d → d.t = t) : ∀ n : Nat, AscD (tgtL g n)
  | 0 => List.Pairwise.nil
  | n + 1 => by
    rw [tgtL, AscD, List.pairwise_append]
    refine ⟨tgt_asc hg n, ?_, fun a ha b hb => ?_⟩
    · cases g n <;> simp
    · have h1 := tgt_lt hg ha
      have := hg _ _ (show g n = some b by simpa using hb)
      omega
theorem tgt_get {g : Int → Option Dn} (hg : ∀ t d, g t = some d → d.t = t) : ∀ (n : Nat) (t : Int), getD' (tgtL g n) t = if 0 ≤ t ∧ t < n then g t else none
  | 0, t => by rw [if_neg (by omega)]; rfl
  | n + 1, t => by
    rw [tgtL, getD_append, tgt_get hg n t]
    by_cases c : t = n
    · subst c
      rw [if_neg (by omega), if_pos (by omega), Option.none_or]
      cases e : g n with
      | none => rfl
      | some d => simp [getD', atD, hg _ _ e]
    · have e : getD' (g n).toList t = none := getD_none.2 fun d hd => by
        have := hg _ _ (show g n = some d by simpa using hd); omega
      rw [e, Option.or_none]
      by_cases c2 : 0 ≤ t ∧ t < n
      · rw [if_pos c2, if_pos (by omega)]
      · rw [if_neg c2, if_neg (by omega)]
def lrL (ls be : List Dn) (c s f : Int) : List Dn := tgtL (lrOf ls be c s f) 60

end Go.Proofs.Ytheifmdaladfdaa

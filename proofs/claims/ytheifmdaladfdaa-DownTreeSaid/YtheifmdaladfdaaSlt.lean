/- Typed slices of flat structs: how they read, the call's own ones, parts of them. No program is in sight here. -/
import Derived.Test.YtheifmdaladfdaaFlat
import Derived.Lib.SmallJoins
import Derived.Lib.BufferWrite
namespace Go.Proofs.Ytheifmdaladfdaa
open Go.RowKit

/-- How the elements of a type lie in memory. -/
structure Lay (α : Type) where
  f : α → List Value
  k : Nat
  pos : 0 < k
  len : ∀ a, (f a).length = k
  one : ∀ a, ∀ u ∈ f a, u.oneCell' = true
variable {α : Type} (L : Lay α)

def SlT (w : World) (v : Value) (as : List α) : Prop := SlV w v L.k (as.map L.f)
variable {L}
theorem SlT.below {w w' : World} {v : Value} {as : List α} (h : SlT L w v as) (hb : Below w.heap.size w w') : SlT L w' v as := SlV.below h hb
theorem slt_nil (w : World) : SlT L w (.slice none 0 0) [] := ⟨none, 0, rfl, Nat.le_refl _, Nat.zero_le _, fun _ => rfl, fun i cs h => by simp at h⟩
theorem slt_zero {w : World} {p : Option Addr} {as : List α} (h : as = []) (c : Nat) (hc : c ≤ maxLen) (hp : p = none → c = 0) : SlT L w (.slice p 0 c) as := by
  subst h
  exact ⟨p, c, rfl, Nat.zero_le _, hc, hp, fun i cs h => by simp at h⟩
/-- The form of the value. -/
theorem SlT.form {w : World} {v : Value} {as : List α} (n : Nat) (h : SlT L w v as) (hn : as.length = n) : ∃ p cap, v = .slice p n cap ∧ n ≤ cap ∧ cap ≤ maxLen ∧ (p = none → cap = 0) := by
  obtain ⟨p, cap, h1, h2, h3, h4, _⟩ := h
  rw [List.length_map, hn] at h1 h2
  exact ⟨p, cap, h1, h2, h3, h4⟩
theorem SlT.none_len {w : World} {p : Option Addr} {n cap : Nat} {as : List α} (h : SlT L w (.slice p n cap) as) : p = none → as = [] := by
  intro hp
  obtain ⟨p', cap', e, h2, h3, h4, _⟩ := h
  rw [List.length_map] at e h2
  injection e with e1 e2 e3
  subst e1 e3
  have := h4 hp
  exact List.eq_nil_of_length_eq_zero (by omega)
/-- The cells of element i. -/
theorem SlT.at {w w' : World} {p : Option Addr} {n cap : Nat} {as : List α} (h : SlT L w (.slice p n cap) as) (bel : Below w.heap.size w w') {i : Nat} (hi : i < as.length) :
    ∃ a b off, as[i]? = some a ∧ p = some ⟨b, off, none⟩ ∧ b < w'.heap.size ∧ b < w.heap.size ∧ ∀ j x, (L.f a)[j]? = some x → w'.cell? ⟨b, off + i * L.k + j, none⟩ = some x := by
  obtain ⟨p', cap', e, h2, h3, h4, h5⟩ := h
  injection e with e1 e2 e3
  subst e1 e3
  obtain ⟨b, off, hp, hb, hc⟩ := h5 i (L.f as[i]) (by rw [List.getElem?_map, List.getElem?_eq_getElem hi]; rfl)
  exact ⟨as[i], b, off, List.getElem?_eq_getElem hi, hp, Nat.lt_of_lt_of_le hb bel.size, hb, fun j x hx => by rw [← hc j x hx]; exact bel.cell (p := ⟨b, off + i * L.k + j, none⟩) hb⟩

variable (L)
def flatT (as : List α) : List Value := as.flatMap L.f
variable {L}
theorem flatT_len (as : List α) : (flatT L as).length = as.length * L.k := by
  unfold flatT
  induction as with
  | nil => simp
  | cons r rs ih => rw [List.flatMap_cons, List.length_append, ih, L.len, List.length_cons, Nat.succ_mul]; omega
theorem flatT_append (rs ss : List α) : flatT L (rs ++ ss) = flatT L rs ++ flatT L ss := by simp [flatT]
theorem flatT_one (r : α) : flatT L [r] = L.f r := by simp [flatT]
theorem flatT_nil : flatT L ([] : List α) = [] := rfl
theorem flatT_cell {as : List α} : ∀ u ∈ flatT L as, u.oneCell' = true := by
  intro u hu
  simp only [flatT, List.mem_flatMap] at hu
  obtain ⟨a, _, ha⟩ := hu
  exact L.one a u ha
theorem flatT_at : ∀ {rs : List α} {i : Nat} {r : α} {j : Nat} {x : Value}, rs[i]? = some r → (L.f r)[j]? = some x → (flatT L rs)[i * L.k + j]? = some x
  | [], i, r, j, x, h, _ => by simp at h
  | s :: rs, 0, r, j, x, h, hx => by
    obtain rfl : s = r := by simpa using h
    have hj : j < (L.f s).length := (List.getElem?_eq_some_iff.1 hx).1
    rw [flatT, List.flatMap_cons, List.getElem?_append_left (by omega)]
    simpa using hx
  | s :: rs, i + 1, r, j, x, h, hx => by
    rw [flatT, List.flatMap_cons, List.getElem?_append_right (by rw [L.len, Nat.succ_mul]; omega), L.len, show (i + 1) * L.k + j - L.k = i * L.k + j by rw [Nat.succ_mul]; omega]
    exact flatT_at (rs := rs) (by simpa using h) hx
theorem flatT_inv : ∀ {rs : List α} {j : Nat} {x : Value}, (flatT L rs)[j]? = some x → ∃ i r k, rs[i]? = some r ∧ (L.f r)[k]? = some x ∧ j = i * L.k + k
  | [], j, x, h => by simp [flatT] at h
  | s :: rs, j, x, h => by
    rw [flatT, List.flatMap_cons] at h
    by_cases hj : j < L.k
    · rw [List.getElem?_append_left (by rw [L.len]; exact hj)] at h
      exact ⟨0, s, j, rfl, h, by omega⟩
    · rw [List.getElem?_append_right (by rw [L.len]; omega), L.len] at h
      obtain ⟨i, r, k, h1, h2, h3⟩ := flatT_inv (rs := rs) h
      exact ⟨i + 1, r, k, by simpa using h1, h2, by rw [Nat.succ_mul]; omega⟩
/-- What the call owns reads as its elements. -/
theorem slt_of_own {w : World} {base : Nat} {t : TypeId} {v : Value} {as : List α} (h : w.ownsRow base t L.k v as.length (flatT L as)) : SlT L w v as := by
  obtain ⟨hl, h⟩ := h
  rcases h with ⟨rfl, h0⟩ | ⟨g, cap, cur, rfl, hb, hg, hle, hcap, hsz, htk⟩
  · have : as = [] := List.eq_nil_of_length_eq_zero h0
    subst this
    exact slt_nil w
  · refine ⟨_, cap, by rw [List.length_map], by rwa [List.length_map], hcap, (fun e => (by cases e)), fun i cs hi => ?_⟩
    rw [List.getElem?_map] at hi
    cases e : as[i]? with
    | none => rw [e] at hi; cases hi
    | some a =>
      rw [e] at hi
      obtain rfl : L.f a = cs := by simpa using hi
      refine ⟨g, 0, rfl, (Array.getElem?_eq_some_iff.1 hg).1, fun j x hx => ?_⟩
      have hat := flatT_at e hx
      rw [← htk] at hat
      have hlt : i * L.k + j < as.length * L.k := by
        have := (List.getElem?_eq_some_iff.1 hat).1
        rw [List.length_take] at this
        omega
      rw [List.getElem?_take_of_lt hlt] at hat
      simp only [World.cell?, hg]
      simpa using hat
/-- The cells of a slice, one behind the other. -/
theorem SlT.olds {w : World} {p : Option Addr} {n cap : Nat} {as : List α} (h : SlT L w (.slice p n cap) as) : ∀ b, p = some b → ∀ j u, (flatT L as)[j]? = some u → w.cell? (b.add j) = some u := by
  intro b hb j u hu
  obtain ⟨i, r, k, hi, hk, rfl⟩ := flatT_inv hu
  obtain ⟨a, b', off, ha, hp, _, _, hc⟩ := h.at (Below.refl _ _) (i := i) (List.getElem?_eq_some_iff.1 hi).1
  obtain rfl : a = r := by rw [hi] at ha; exact (Option.some.inj ha).symm
  have : b = ⟨b', off, none⟩ := by rw [hp] at hb; exact (Option.some.inj hb).symm
  subst this
  rw [Go.WideShapes.add_plain, show off + (i * L.k + k) = off + i * L.k + k by omega]
  exact hc k u hk
/-- The first k elements. -/
theorem SlT.front {w : World} {p : Option Addr} {n cap k c : Nat} {as : List α} (h : SlT L w (.slice p n cap) as) (hk : k ≤ as.length) (hc : k ≤ c) (hcc : c ≤ cap) : SlT L w (.slice p k c) (as.take k) := by
  obtain ⟨p', cap', e, h2, h3, h4, h5⟩ := h
  rw [List.length_map] at e h2
  injection e with e1 e2 e3
  subst e1 e3
  refine ⟨p, c, by rw [List.length_map, List.length_take, Nat.min_eq_left hk], by rw [List.length_map, List.length_take, Nat.min_eq_left hk]; exact hc, by omega, fun hp => by have := h4 hp; omega, fun i cs hi => ?_⟩
  rw [List.getElem?_map] at hi
  rcases Nat.lt_or_ge i k with hik | hik
  · rw [List.getElem?_take_of_lt hik] at hi
    exact h5 i cs (by rw [List.getElem?_map]; exact hi)
  · rw [List.getElem?_take_eq_none hik] at hi; cases hi
/-- The elements from k on. -/
theorem SlT.back {w : World} {b off n cap k : Nat} {as : List α} (h : SlT L w (.slice (some ⟨b, off, none⟩) n cap) as) : SlT L w (.slice (some ⟨b, off + k * L.k, none⟩) (n - k) (cap - k)) (as.drop k) := by
  obtain ⟨p', cap', e, h2, h3, h4, h5⟩ := h
  rw [List.length_map] at e h2
  injection e with e1 e2 e3
  subst e1 e2 e3
  refine ⟨_, cap - k, by rw [List.length_map, List.length_drop], by rw [List.length_map, List.length_drop]; omega, by omega, (fun e => (by cases e)), fun i cs hi => ?_⟩
  rw [List.getElem?_map, List.getElem?_drop] at hi
  obtain ⟨b', off', e', hlt, hc⟩ := h5 (k + i) cs (by rw [List.getElem?_map]; exact hi)
  cases e'
  exact ⟨b, _, rfl, hlt, fun j x hx => by rw [show off + k * L.k + i * L.k + j = off + (k + i) * L.k + j by rw [Nat.add_mul]; omega]; exact hc j x hx⟩
/-- An element appended to what the call owns. -/
theorem ownT_app {w : World} {B n : Nat} {t : TypeId} {v : Value} {as : List α} {a : α} (h : w.ownsRow B t L.k v n (flatT L as ++ L.f a)) : w.ownsRow B t L.k v n (flatT L (as ++ [a])) := by rwa [flatT_append, flatT_one]
theorem newsT (w : World) (a : α) (t : TypeId) : ∀ j u, (L.f a)[j]? = some u → (w.alloc (.cells (L.f a).toArray t)).cell? ((⟨w.heap.size, 0, none⟩ : Addr).add j) = some u := fun j u h => by
  rw [Go.WideShapes.add_plain, Nat.zero_add]
  exact (own_new w _ t).cell (by simpa using h)
theorem past_slt {w : World} {x : Past w} {v : Value} {as : List α} (h : SlT L w v as) : SlT L (past w x) v as := h.below x.h
theorem belowSet' {B : Nat} {a w : World} (h : Below B a w) (b i : Nat) (v : Value) (hp : B ≤ b) : Below B a (w.setCell ⟨b, i, none⟩ v) := h.setCell hp v
theorem below_of_grown' {w w' : World} (hg : w.grownBy w' none) : Below w.heap.size w w' := (Below.refl _ w).grown hg (Nat.le_refl _) (fun j hj => by cases hj)

end Go.Proofs.Ytheifmdaladfdaa

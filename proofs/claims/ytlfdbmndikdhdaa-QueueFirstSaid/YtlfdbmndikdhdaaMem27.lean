/- Slices of readings of the call's own, and how they read. No program is in sight here. -/
import Derived.Test.YtlfdbmndikdhdaaPlain27
import Derived.Laws.AppendOwn
namespace Go.Proofs.Ytlfdbmndikdhdaa
open Go.RowKit

def flat (rs : List Rd) : List Value := rs.flatMap Rd.cells
theorem cells_len (r : Rd) : r.cells.length = 5 := rfl
theorem flat_len (rs : List Rd) : (flat rs).length = rs.length * 5 := by
  unfold flat
  induction rs with
  | nil => rfl
  | cons r rs ih => simp [List.flatMap_cons, cells_len, ih]; omega
theorem flat_append (rs ss : List Rd) : flat (rs ++ ss) = flat rs ++ flat ss := by simp [flat]
theorem flat_one (r : Rd) : flat [r] = r.cells := by simp [flat]
theorem flat_at : ∀ {rs : List Rd} {i : Nat} {r : Rd} {j : Nat} {x : Value}, rs[i]? = some r → r.cells[j]? = some x → (flat rs)[i * 5 + j]? = some x
  | [], i, r, j, x, h, _ => by simp at h
  | s :: rs, 0, r, j, x, h, hx => by
    obtain rfl : s = r := by simpa using h
    have hj : j < s.cells.length := (List.getElem?_eq_some_iff.1 hx).1
    rw [flat, List.flatMap_cons, List.getElem?_append_left (by omega)]
    simpa using hx
  | s :: rs, i + 1, r, j, x, h, hx => by
    rw [flat, List.flatMap_cons, List.getElem?_append_right (by rw [cells_len]; omega), cells_len, show (i + 1) * 5 + j - 5 = i * 5 + j by omega]
    exact flat_at (rs := rs) (by simpa using h) hx
theorem flat_inv : ∀ {rs : List Rd} {j : Nat} {x : Value}, (flat rs)[j]? = some x → ∃ i r k, rs[i]? = some r ∧ r.cells[k]? = some x ∧ j = i * 5 + k
  | [], j, x, h => by simp [flat] at h
  | s :: rs, j, x, h => by
    rw [flat, List.flatMap_cons] at h
    by_cases hj : j < 5
    · rw [List.getElem?_append_left (by rw [cells_len]; exact hj)] at h
      exact ⟨0, s, j, rfl, h, by omega⟩
    · rw [List.getElem?_append_right (by rw [cells_len]; omega), cells_len] at h
      obtain ⟨i, r, k, h1, h2, h3⟩ := flat_inv (rs := rs) h
      exact ⟨i + 1, r, k, by simpa using h1, h2, by omega⟩

/-- A nil slice has no capacity. -/
def NilOk (v : Value) : Prop := ∀ n cap, v = .slice none n cap → cap = 0

/-- What the call owns reads as its readings. -/
theorem slr_of_own {w : World} {base : Nat} {t : TypeId} {v : Value} {n : Nat} {rs : List Rd} (hn : n = rs.length) (h : w.ownsRow base t 5 v n (flat rs)) : SlR w v rs ∧ NilOk v := by
  subst hn
  obtain ⟨hl, h⟩ := h
  rcases h with ⟨rfl, h0⟩ | ⟨g, cap, cur, rfl, hb, hg, hle, hcap, hsz, htk⟩
  · have : rs = [] := List.eq_nil_of_length_eq_zero h0
    subst this
    exact ⟨⟨none, 0, rfl, Nat.le_refl _, by unfold maxLen; omega, fun i r hi => by simp at hi⟩, fun n cap e => by cases e; rfl⟩
  · refine ⟨⟨_, cap, rfl, hle, hcap, fun i r hi => ⟨g, 0, rfl, (Array.getElem?_eq_some_iff.1 hg).1, fun j x hx => ?_⟩⟩, fun n cap e => by cases e⟩
    have hat := flat_at hi hx
    rw [← htk] at hat
    have hlt : i * 5 + j < rs.length * 5 := by
      have := (List.getElem?_eq_some_iff.1 hat).1
      rw [List.length_take] at this
      omega
    rw [List.getElem?_take_of_lt hlt] at hat
    simp only [World.cell?, hg]
    simpa using hat

/-- The cells of a slice of readings, one behind the other. -/
theorem SlR.olds {w : World} {p : Option Addr} {n cap : Nat} {rs : List Rd} (h : SlR w (.slice p n cap) rs) : ∀ b, p = some b → ∀ j u, (flat rs)[j]? = some u → w.cell? (b.add j) = some u := by
  obtain ⟨p', cap', e, h2, h3, h4⟩ := h
  obtain ⟨rfl, _, _⟩ : p = p' ∧ n = rs.length ∧ cap = cap' := by injection e with e1 e2 e3; exact ⟨e1, e2, e3⟩
  intro b hb j u hu
  obtain ⟨i, r, k, hi, hk, rfl⟩ := flat_inv hu
  obtain ⟨b', off, hp, hlt, hc⟩ := h4 i r hi
  have : b = ⟨b', off, none⟩ := by rw [hp] at hb; exact (Option.some.inj hb).symm
  subst this
  rw [Go.WideShapes.add_plain, show off + (i * 5 + k) = off + i * 5 + k by omega]
  exact hc k u hk

theorem below_of_grown {w w' : World} (hg : w.grownBy w' none) : Below w.heap.size w w' := (Below.refl _ w).grown hg (Nat.le_refl _) (fun j hj => by cases hj)

end Go.Proofs.Ytlfdbmndikdhdaa

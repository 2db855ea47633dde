/- Plain facts about routes: lists of targets with next nodes, numbers and times. No program is in sight here. -/
import Derived.Test.YtheifmdaladfdaaSlt
namespace Go.Proofs.Ytheifmdaladfdaa
open Go.RowKit

/-- A route: target, next node, number, time. -/
structure Dn where
  t : Int
  n : Int
  s : Int
  u : Int
def Dn.cells (d : Dn) : List Value := [.int .i64 d.t, .int .i64 d.n, .int .i64 d.s, .int .i64 d.u]
def dnL : Lay Dn := ⟨Dn.cells, 4, by decide, fun _ => rfl, fun a u h => by simp only [Dn.cells, List.mem_cons, List.not_mem_nil, or_false] at h; rcases h with rfl | rfl | rfl | rfl <;> rfl⟩
abbrev SlD (w : World) (v : Value) (as : List Dn) : Prop := SlT dnL w v as
theorem dn_of {cs : List Value} (h : okCells [some .i64, some .i64, some .i64, some .i64] cs) : ∃ d : Dn, cs = d.cells ∧ True := by
  simp only [okCells] at h
  obtain ⟨a, _, rfl, _, b, _, rfl, _, c, _, rfl, _, d, _, rfl, _, rfl⟩ := h
  exact ⟨⟨a, b, c, d⟩, rfl, trivial⟩
/-- The four cells of element i. -/
theorem SlT.at4 {w w' : World} {p : Option Addr} {n cap : Nat} {as : List Dn} (h : SlD w (.slice p n cap) as) (bel : Below w.heap.size w w') {i : Nat} (hi : i < as.length) :
    ∃ a b off, as[i]? = some a ∧ p = some ⟨b, off, none⟩ ∧ b < w'.heap.size ∧ b < w.heap.size ∧ w'.cell? ⟨b, off + i * 4, none⟩ = some (.int .i64 a.t) ∧ w'.cell? ⟨b, off + i * 4 + 1, none⟩ = some (.int .i64 a.n) ∧ w'.cell? ⟨b, off + i * 4 + 2, none⟩ = some (.int .i64 a.s) ∧ w'.cell? ⟨b, off + i * 4 + 3, none⟩ = some (.int .i64 a.u) := by
  obtain ⟨a, b, off, h1, h2, h3, h4, h5⟩ := h.at bel hi
  exact ⟨a, b, off, h1, h2, h3, h4, h5 0 _ rfl, h5 1 _ rfl, h5 2 _ rfl, h5 3 _ rfl⟩

def nodB (n : Int) : Bool := decide (0 ≤ n ∧ n < 60)
theorem nodB_iff {n : Int} : nodB n = true ↔ 0 ≤ n ∧ n < 60 := by simp [nodB]
theorem nodB_false {n : Int} : nodB n = false ↔ n < 0 ∨ 60 ≤ n := by
  rw [← Bool.not_eq_true, nodB_iff]; omega
def seqB (s : Int) : Bool := decide (0 ≤ s ∧ s ≤ 1000000000)
/-- A list that a node can tell, behind a last target. -/
def toldF : Int → List Dn → Bool
  | _, [] => true
  | last, d :: l => nodB d.t && decide (last < d.t) && decide (0 ≤ d.s) && decide (d.s ≤ 1000000000) && toldF d.t l
def toldB (l : List Dn) : Bool := toldF (-1) l
def godB (d : Dn) : Bool := nodB d.n && decide (0 ≤ d.u) && decide (d.u ≤ 1000000000)
def vldD (l : List Dn) : Bool := toldB l && l.all godB
/-- The place of the first element that a test finds, or -1. -/
def idxF (q : Dn → Bool) : List Dn → Nat → Int
  | [], _ => -1
  | d :: l, i => if q d = true then i else idxF q l (i + 1)
def idxD (q : Dn → Bool) (l : List Dn) : Int := idxF q l 0
theorem idxF_hit {q : Dn → Bool} {rs : List Dn} {k : Nat} {r : Dn} (h : rs[k]? = some r) (hb : q r = true) : idxF q (rs.drop k) k = k := by
  have hl : k < rs.length := (List.getElem?_eq_some_iff.1 h).1
  rw [List.drop_eq_getElem_cons hl, show rs[k] = r from (List.getElem?_eq_some_iff.1 h).2]
  simp [idxF, hb]
theorem idxF_miss {q : Dn → Bool} {rs : List Dn} {k : Nat} {r : Dn} (h : rs[k]? = some r) (hb : q r = false) : idxF q (rs.drop k) k = idxF q (rs.drop (k + 1)) (k + 1) := by
  have hl : k < rs.length := (List.getElem?_eq_some_iff.1 h).1
  rw [List.drop_eq_getElem_cons hl, show rs[k] = r from (List.getElem?_eq_some_iff.1 h).2]
  simp [idxF, hb]
theorem idxF_end {q : Dn → Bool} {rs : List Dn} {k : Nat} (h : rs.length ≤ k) : idxF q (rs.drop k) k = -1 := by
  rw [List.drop_of_length_le h]; rfl
theorem idxF_cases {q : Dn → Bool} : ∀ (l : List Dn) (i : Nat), (idxF q l i = -1 ∧ l.any q = false) ∨ ∃ k r, l[k]? = some r ∧ q r = true ∧ idxF q l i = ((i + k : Nat) : Int) ∧ l.any q = true ∧ l.find? q = some r ∧ (l.take k).any q = false
  | [], i => Or.inl ⟨rfl, rfl⟩
  | r :: l, i => by
    cases h : q r with
    | true => exact Or.inr ⟨0, r, rfl, h, by simp [idxF, h], by simp [h], by simp [h], by simp⟩
    | false =>
      rcases idxF_cases (q := q) l (i + 1) with ⟨h1, h2⟩ | ⟨k, s, h1, h2, h3, h4, h5, h6⟩
      · exact Or.inl ⟨by simp [idxF, h, h1], by simp [h, h2]⟩
      · exact Or.inr ⟨k + 1, s, by simpa using h1, h2, by simp only [idxF, h, h3, if_neg (show ¬ (false = true) by simp)]; omega, by simp [h, h4], by simp [h, h5], by simp [h, h6]⟩
theorem idx_cases (q : Dn → Bool) (l : List Dn) : (idxD q l = -1 ∧ l.any q = false) ∨ ∃ (k : Nat) (r : Dn), l[k]? = some r ∧ q r = true ∧ idxD q l = (k : Int) ∧ l.any q = true ∧ l.find? q = some r ∧ (l.take k).any q = false := by
  simpa [idxD] using idxF_cases (q := q) l 0
theorem idx_any (q : Dn → Bool) (l : List Dn) : decide (0 ≤ idxD q l) = l.any q := by
  rcases idx_cases q l with ⟨h1, h2⟩ | ⟨k, r, _, _, h1, h2, _⟩
  · rw [h1, h2]; rfl
  · rw [h1, h2]; simp
theorem toldF_step {rs : List Dn} {k : Nat} {r : Dn} {last : Int} (h : rs[k]? = some r) : toldF last (rs.drop k) = (nodB r.t && decide (last < r.t) && decide (0 ≤ r.s) && decide (r.s ≤ 1000000000) && toldF r.t (rs.drop (k + 1))) := by
  have hl : k < rs.length := (List.getElem?_eq_some_iff.1 h).1
  rw [List.drop_eq_getElem_cons hl, show rs[k] = r from (List.getElem?_eq_some_iff.1 h).2]
  rfl
theorem toldF_end {rs : List Dn} {k : Nat} {last : Int} (h : rs.length ≤ k) : toldF last (rs.drop k) = true := by
  rw [List.drop_of_length_le h]; rfl
/-- Two routes are equal. -/
def eqD (r s : Dn) : Bool := r.t == s.t && (r.n == s.n && (r.s == s.s && r.u == s.u))
theorem eqD_iff {r s : Dn} : eqD r s = true ↔ r = s := by
  obtain ⟨a, b, c, d⟩ := r
  obtain ⟨a', b', c', d'⟩ := s
  simp [eqD]
def sameD : List Dn → List Dn → Bool
  | r :: rs, s :: ss => eqD r s && sameD rs ss
  | [], [] => true
  | _, _ => false
theorem sameD_iff : ∀ {rs ss : List Dn}, sameD rs ss = true ↔ rs = ss
  | [], [] => by simp [sameD]
  | [], _ :: _ => by simp [sameD]
  | _ :: _, [] => by simp [sameD]
  | r :: rs, s :: ss => by simp [sameD, eqD_iff, sameD_iff (rs := rs) (ss := ss)]
theorem sameD_len {rs ss : List Dn} (h : rs.length ≠ ss.length) : sameD rs ss = false := by
  cases e : sameD rs ss with
  | false => rfl
  | true => exact absurd (congrArg List.length (sameD_iff.1 e)) h

end Go.Proofs.Ytheifmdaladfdaa

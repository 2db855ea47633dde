/- Plain facts about queues of readings: forms, finding, validity. No program is in sight here. -/
import Derived.Test.YtlfdbmndikdhdaaKit
namespace Go.Proofs.Ytlfdbmndikdhdaa
open Go.RowKit

/-- A reading: origin, number, kind, value, time. -/
structure Rd where
  o : Int
  n : Int
  k : Int
  v : Int
  a : Int
def Rd.cells (r : Rd) : List Value := [.int .i64 r.o, .int .i64 r.n, .int .i64 r.k, .int .i64 r.v, .int .i64 r.a]

def fmB (r : Rd) : Bool := decide (0 ≤ r.o ∧ r.o < 60 ∧ 1 ≤ r.n ∧ r.n ≤ 1000000000 ∧ (r.k = 0 ∨ r.k = 1) ∧ 0 ≤ r.a ∧ r.a ≤ 1000000000)
theorem fmB_iff {r : Rd} : fmB r = true ↔ 0 ≤ r.o ∧ r.o < 60 ∧ 1 ≤ r.n ∧ r.n ≤ 1000000000 ∧ (r.k = 0 ∨ r.k = 1) ∧ 0 ≤ r.a ∧ r.a ≤ 1000000000 := by simp [fmB]

/-- The reading has this name. -/
def isB (o n : Int) (r : Rd) : Bool := r.o == o && r.n == n
/-- The place of the first reading with this name, or -1. -/
def fndFrom (o n : Int) : List Rd → Nat → Int
  | [], _ => -1
  | r :: rs, i => if isB o n r = true then i else fndFrom o n rs (i + 1)
def fnd (o n : Int) (rs : List Rd) : Int := fndFrom o n rs 0
theorem fndFrom_hit {o n : Int} {rs : List Rd} {k : Nat} {r : Rd} (h : rs[k]? = some r) (hb : isB o n r = true) : fndFrom o n (rs.drop k) k = k := by
  have hl : k < rs.length := (List.getElem?_eq_some_iff.1 h).1
  rw [List.drop_eq_getElem_cons hl, show rs[k] = r from (List.getElem?_eq_some_iff.1 h).2]
  simp [fndFrom, hb]
theorem fndFrom_miss {o n : Int} {rs : List Rd} {k : Nat} {r : Rd} (h : rs[k]? = some r) (hb : isB o n r = false) : fndFrom o n (rs.drop k) k = fndFrom o n (rs.drop (k + 1)) (k + 1) := by
  have hl : k < rs.length := (List.getElem?_eq_some_iff.1 h).1
  rw [List.drop_eq_getElem_cons hl, show rs[k] = r from (List.getElem?_eq_some_iff.1 h).2]
  simp [fndFrom, hb]
theorem fndFrom_end {o n : Int} {rs : List Rd} {k : Nat} (h : rs.length ≤ k) : fndFrom o n (rs.drop k) k = -1 := by
  rw [List.drop_of_length_le h]; rfl

/-- From place i on every reading is formed, and the first one of its name. -/
def vdFrom (rs : List Rd) : List Rd → Nat → Bool
  | [], _ => true
  | r :: l, i => fmB r && (fnd r.o r.n rs == (i : Int)) && vdFrom rs l (i + 1)
def vdB (rs : List Rd) : Bool := vdFrom rs rs 0 && decide (rs.length ≤ 16)
theorem vdFrom_step {rs : List Rd} {k : Nat} {r : Rd} (h : rs[k]? = some r) : vdFrom rs (rs.drop k) k = (fmB r && (fnd r.o r.n rs == (k : Int)) && vdFrom rs (rs.drop (k + 1)) (k + 1)) := by
  have hl : k < rs.length := (List.getElem?_eq_some_iff.1 h).1
  rw [List.drop_eq_getElem_cons hl, show rs[k] = r from (List.getElem?_eq_some_iff.1 h).2]
  rfl
theorem vdFrom_end {rs : List Rd} {k : Nat} (h : rs.length ≤ k) : vdFrom rs (rs.drop k) k = true := by
  rw [List.drop_of_length_le h]; rfl

/-- A slice of readings: its value, and its cells. -/
def SlR (w : World) (v : Value) (rs : List Rd) : Prop :=
  ∃ p cap, v = .slice p rs.length cap ∧ rs.length ≤ cap ∧ cap ≤ maxLen ∧ ∀ i r, rs[i]? = some r → ∃ b off, p = some ⟨b, off, none⟩ ∧ b < w.heap.size ∧ ∀ j x, r.cells[j]? = some x → w.cell? ⟨b, off + i * 5 + j, none⟩ = some x
theorem SlR.below {w w' : World} {v : Value} {rs : List Rd} (h : SlR w v rs) (hb : Below w.heap.size w w') : SlR w' v rs := by
  obtain ⟨p, cap, h1, h2, h3, h4⟩ := h
  refine ⟨p, cap, h1, h2, h3, fun i r hi => ?_⟩
  obtain ⟨b, off, e, hlt, hc⟩ := h4 i r hi
  exact ⟨b, off, e, Nat.lt_of_lt_of_le hlt hb.size, fun j x hx => by rw [← hc j x hx]; exact hb.cell (p := ⟨b, off + i * 5 + j, none⟩) hlt⟩
/-- The cells of one reading. -/
theorem SlR.row {w : World} {b off i : Nat} {r : Rd} (h : ∀ j x, r.cells[j]? = some x → w.cell? ⟨b, off + i * 5 + j, none⟩ = some x) :
    w.cell? ⟨b, off + i * 5, none⟩ = some (.int .i64 r.o) ∧ w.cell? ⟨b, off + i * 5 + 1, none⟩ = some (.int .i64 r.n) ∧ w.cell? ⟨b, off + i * 5 + 2, none⟩ = some (.int .i64 r.k) ∧ w.cell? ⟨b, off + i * 5 + 3, none⟩ = some (.int .i64 r.v) ∧ w.cell? ⟨b, off + i * 5 + 4, none⟩ = some (.int .i64 r.a) :=
  ⟨h 0 _ rfl, h 1 _ rfl, h 2 _ rfl, h 3 _ rfl, h 4 _ rfl⟩

end Go.Proofs.Ytlfdbmndikdhdaa

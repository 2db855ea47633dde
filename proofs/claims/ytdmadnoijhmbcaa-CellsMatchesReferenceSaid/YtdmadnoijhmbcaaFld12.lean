/- A row that lies in a field of a block; rows of cells. -/
import Derived.Test.YtdmadnoijhmbcaaDrp12
namespace Go.Proofs.Ytdmadnoijhmbcaa
open Go.RowKit

theorem own_grown {w w' : World} {b : Nat} {cs : List Value} {t : TypeId} {row : Option Nat} (h : Own w b cs t) (hg : w.grownBy w' row) (hne : ∀ k, row = some k → b < k) : Own w' b cs t :=
  (hg.block b h.lt (fun e => by have := hne b e.symm; omega)).trans h
theorem row_set {w : World} {B k n : Nat} {t : TypeId} {v : Value} {xs : List Value} (h : w.ownsRow B t k v n xs) {b : Nat} (hb : b < B) (i : Nat) (x : Value) : (w.setCell ⟨b, i, none⟩ x).ownsRow B t k v n xs := by
  refine ⟨h.1, ?_⟩
  rcases h.2 with h2 | ⟨g, cap, cur, h1, h2, h3, h4⟩
  · exact Or.inl h2
  · refine Or.inr ⟨g, cap, cur, h1, h2, ?_, h4⟩
    rw [Below.heap_setCell _ ⟨b, i, none⟩ x g (by simp; omega)]; exact h3
theorem own_slc {w : World} {B k n : Nat} {t : TypeId} {v : Value} {xs : List Value} (h : w.ownsRow B t k v n xs) : ∃ p m c, v = .slice p m c := by
  rcases h.2 with ⟨rfl, _⟩ | ⟨g, cap, cur, rfl, _⟩
  · exact ⟨_, _, _, rfl⟩
  · exact ⟨_, _, _, rfl⟩
theorem own_belowB {B : Nat} {w w' : World} {b : Nat} {cs : List Value} {t : TypeId} (h : Own w b cs t) (hb : Below B w w') (hlt : b < B) : Own w' b cs t := (hb.block b hlt).trans h
/-- A slice that lies below B reads on when only the blocks from B on change. -/
theorem slt_belowB {α : Type} {L : Lay α} {w w1 w' : World} {v : Value} {l : List α} {B : Nat} (h : SlT L w v l) (h1 : Below w.heap.size w w1) (hb : Below B w1 w') (hB : w.heap.size ≤ B) : SlT L w' v l := h.below (h1.trans (hb.mono hB))

/-- A cell. -/
structure Ce where
  s : Int
  o : Int
def Ce.cells (d : Ce) : List Value := [.int .i64 d.s, .int .i64 d.o]
def ceL : Lay Ce := ⟨Ce.cells, 2, by decide, fun _ => rfl, fun a u h => by simp only [Ce.cells, List.mem_cons, List.not_mem_nil, or_false] at h; rcases h with rfl | rfl <;> rfl⟩
theorem SlT.atC {w w' : World} {p : Option Addr} {n cap : Nat} {ls : List Ce} (h : SlT ceL w (.slice p n cap) ls) (bel : Below w.heap.size w w') {i : Nat} (hi : i < ls.length) :
    ∃ a b off, ls[i]? = some a ∧ p = some ⟨b, off, none⟩ ∧ b < w'.heap.size ∧ b < w.heap.size ∧ w'.cell? ⟨b, off + i * 2, none⟩ = some (.int .i64 a.s) ∧ w'.cell? ⟨b, off + i * 2 + 1, none⟩ = some (.int .i64 a.o) := by
  obtain ⟨a, b, off, h1, h2, h3, h4, h5⟩ := h.at bel hi
  exact ⟨a, b, off, h1, h2, h3, h4, h5 0 _ rfl, h5 1 _ rfl⟩
theorem info_ce : (Try.prog.info? 30).map (fun i => (i.zero, i.size, i.bytes)) = some (some (.agg #[.int .i64 0, .int .i64 0]), 2, 16) := by kernel_rfl
def ceU (d : Us) : Ce := ⟨d.s, d.o⟩
def ceG (d : Gr) : Ce := ⟨d.s, d.o⟩

end Go.Proofs.Ytdmadnoijhmbcaa

/- What a round of Learn's loop keeps for the iterator, and what the iterator yields. No program is in sight here. -/
import Derived.Test.YtheifmdaladfdaaRound21
namespace Go.Proofs.Ytheifmdaladfdaa
open Go.RowKit

/-- The row that the slice in the box bo points to. -/
def RowAt (W : World) (bo g : Nat) : Prop := ∃ v, W.cell? ⟨bo, 0, none⟩ = some v ∧ v.ownBlock = some g
def RowOk (bo : Nat) (W : World) : Prop := ∀ g, RowAt W bo g → g < W.heap.size
/-- As before, or a route of which only the next node and the time were written. -/
def Sim (c c' : Obj) : Prop := c' = c ∨ ∃ t n s u n' u' : Int, c = .cells #[.int .i64 t, .int .i64 n, .int .i64 s, .int .i64 u] 35 (0, 0) ∧ c' = .cells #[.int .i64 t, .int .i64 n', .int .i64 s, .int .i64 u'] 35 (0, 0)
theorem Sim.cells {c c' : Obj} (h : Sim c c') (hc : c.isCells = true) : c'.isCells = true := by
  rcases h with rfl | ⟨_, _, _, _, _, _, _, rfl⟩
  · exact hc
  · rfl
theorem Sim.trans {a b c : Obj} (h : Sim a b) (k : Sim b c) : Sim a c := by
  rcases h with rfl | ⟨t, n, s, u, n', u', rfl, rfl⟩
  · exact k
  · rcases k with rfl | ⟨t2, n2, s2, u2, n3, u3, h1, rfl⟩
    · exact .inr ⟨t, n, s, u, n', u', rfl, rfl⟩
    · simp at h1
      obtain ⟨rfl, rfl, rfl, rfl⟩ := h1
      exact .inr ⟨t, n, s, u, n3, u3, rfl, rfl⟩
/-- What a round keeps: all that lay below nE; every block of cells but the two boxes and the row. -/
structure KpL (nE bo br : Nat) (W W' : World) : Prop where
  bel : Below nE W W'
  ok : RowOk bo W → RowOk bo W'
  rows : ∀ g, RowAt W' bo g → RowAt W bo g ∨ W.heap.size ≤ g
  keep : ∀ b c, b ≠ bo → b ≠ br → ¬ RowAt W bo b → W.heap[b]? = some c → c.isCells = true → ∃ c', W'.heap[b]? = some c' ∧ Sim c c'
theorem KpL.refl (nE bo br : Nat) (W : World) : KpL nE bo br W W := ⟨Below.refl _ _, id, fun _ h => .inl h, fun _ c _ _ _ h _ => ⟨c, h, .inl rfl⟩⟩
theorem KpL.trans {nE bo br : Nat} {A B C : World} (h : KpL nE bo br A B) (k : KpL nE bo br B C) : KpL nE bo br A C :=
  ⟨h.bel.trans k.bel, fun a => k.ok (h.ok a), fun g hg => by
    rcases k.rows g hg with h1 | h1
    · exact h.rows g h1
    · exact .inr (Nat.le_trans h.bel.size h1), fun b c h1 h2 h3 h4 h5 => by
    obtain ⟨c1, g1, g2⟩ := h.keep b c h1 h2 h3 h4 h5
    obtain ⟨c2, g3, g4⟩ := k.keep b c1 h1 h2 (fun e => by
      rcases h.rows b e with e | e
      · exact h3 e
      · have := (Array.getElem?_eq_some_iff.1 h4).1; omega) g1 (g2.cells h5)
    exact ⟨c2, g3, g2.trans g4⟩⟩
theorem rowAt_of {W W' : World} {bo : Nat} (h : W'.heap[bo]? = W.heap[bo]?) (g : Nat) : RowAt W' bo g ↔ RowAt W bo g := by
  unfold RowAt
  rw [World.cell?_of_block (w := W) (w' := W') (a := ⟨bo, 0, none⟩) h]
theorem KpL.put {nE bo br : Nat} {w : World} (hn : nE ≤ w.heap.size) (hb : bo < w.heap.size) (W : World) (l : Nat) (o o' : Obj) (hl : w.heap.size ≤ l) (h : W.heap[l]? = some o) (hc : o.isCells = false) (hw : o.isWalk = false) : KpL nE bo br W (W.putObj l o') := by
  have e : ∀ k, k ≠ l → (W.putObj l o').heap[k]? = W.heap[k]? := fun k hk => World.putObj_heap_other hk
  refine ⟨belowK_b hn W l o o' hl h hc hw, fun ok g hg => ?_, fun g hg => .inl ((rowAt_of (e bo (by omega)) g).1 hg), fun b c _ _ _ h4 h5 => ?_⟩
  · rw [World.putObj_size]; exact ok g ((rowAt_of (e bo (by omega)) g).1 hg)
  · exact ⟨c, by rw [e b (fun e => by subst e; rw [h] at h4; cases h4; rw [hc] at h5; cases h5)]; exact h4, .inl rfl⟩
/-- A block of cells that the rounds leave alone. -/
def Saf (bo br : Nat) (W : World) (b : Nat) (cs : List Value) (t : TypeId) : Prop := Own W b cs t ∧ b ≠ bo ∧ b ≠ br ∧ ¬ RowAt W bo b
theorem Saf.notrow {nE bo br : Nat} {W W' : World} {b : Nat} {cs : List Value} {t : TypeId} (h : Saf bo br W b cs t) (k : KpL nE bo br W W') : ¬ RowAt W' bo b := fun e => by
  rcases k.rows b e with e | e
  · exact h.2.2.2 e
  · have := h.1.lt; omega
theorem Saf.kept {nE bo br : Nat} {W W' : World} {b : Nat} {cs : List Value} {t : TypeId} (h : Saf bo br W b cs t) (hl : cs.length = 1) (k : KpL nE bo br W W') : Saf bo br W' b cs t := by
  refine ⟨?_, h.2.1, h.2.2.1, h.notrow k⟩
  obtain ⟨c', g1, rfl | ⟨_, _, _, _, _, _, g3, _⟩⟩ := k.keep b _ h.2.1 h.2.2.1 h.2.2.2 h.1 rfl
  · exact g1
  · have := congrArg (fun o => match o with | Obj.cells cs _ _ => cs.size | _ => 0) g3
    simp [hl] at this
/-- A route's target and number lie in a block that the rounds leave alone otherwise. -/
def Saf2 (bo br : Nat) (W : World) (b : Nat) (t s : Int) : Prop := ∃ n u : Int, Saf bo br W b [.int .i64 t, .int .i64 n, .int .i64 s, .int .i64 u] 35
theorem Saf2.kept {nE bo br : Nat} {W W' : World} {b : Nat} {t s : Int} (h : Saf2 bo br W b t s) (k : KpL nE bo br W W') : Saf2 bo br W' b t s := by
  obtain ⟨n, u, h⟩ := h
  obtain ⟨c', g1, rfl | ⟨t2, n2, s2, u2, n3, u3, g3, rfl⟩⟩ := k.keep b _ h.2.1 h.2.2.1 h.2.2.2 h.1 rfl
  · exact ⟨n, u, g1, h.2.1, h.2.2.1, h.notrow k⟩
  · simp at g3
    obtain ⟨rfl, rfl, rfl, rfl⟩ := g3
    exact ⟨n3, u3, g1, h.2.1, h.2.2.1, h.notrow k⟩
theorem Saf.below {bo br : Nat} {W W' : World} {b : Nat} {cs : List Value} {t : TypeId} (h : Saf bo br W b cs t) (hb : bo < W.heap.size) (k : Below W.heap.size W W') : Saf bo br W' b cs t :=
  ⟨h.1.below k, h.2.1, h.2.2.1, fun e => h.2.2.2 ((rowAt_of (k.block bo hb) b).1 e)⟩
theorem Saf2.below {bo br : Nat} {W W' : World} {b : Nat} {t s : Int} (h : Saf2 bo br W b t s) (hb : bo < W.heap.size) (k : Below W.heap.size W W') : Saf2 bo br W' b t s := by
  obtain ⟨n, u, h⟩ := h
  exact ⟨n, u, h.below hb k⟩
theorem RowOk.below {bo : Nat} {W W' : World} (h : RowOk bo W) (hb : bo < W.heap.size) (k : Below W.heap.size W W') : RowOk bo W' := fun g hg => Nat.lt_of_lt_of_le (h g ((rowAt_of (k.block bo hb) g).1 hg)) k.size
theorem Saf.new {bo br : Nat} {W : World} (ok : RowOk bo W) (hb : bo < W.heap.size) (hr : br < W.heap.size) (cs : List Value) (t : TypeId) {n : Nat} (hn : n = W.heap.size) : Saf bo br (W.alloc (.cells cs.toArray t)) n cs t :=
  ⟨own_at cs t hn, by omega, by omega, fun e => by
    have := ok n ((rowAt_of ((belowNew W _).block bo hb) n).1 e); omega⟩

/-- What the iterator yields. -/
def nwF (own : Dn) : Bool → List Dn → List Dn
  | b, [] => if b then [own] else []
  | b, d :: l => (if decide (own.t < d.t) && b then [own, d] else [d]) ++ nwF own (decide (d.t < own.t)) l
def newsL (c s : Int) (be : List Dn) : List Dn := nwF ⟨c, 0, s, 0⟩ true be
theorem nwF_at {own : Dn} {b : Bool} {l : List Dn} {i : Nat} {d : Dn} (h : l[i]? = some d) : nwF own b (l.drop i) = (if decide (own.t < d.t) && b then [own, d] else [d]) ++ nwF own (decide (d.t < own.t)) (l.drop (i + 1)) := by
  have hl := (List.getElem?_eq_some_iff.1 h).1
  rw [List.drop_eq_getElem_cons hl, show l[i] = d from (List.getElem?_eq_some_iff.1 h).2]; rfl
theorem nwF_end {own : Dn} {b : Bool} {l : List Dn} {i : Nat} (h : l.length ≤ i) : nwF own b (l.drop i) = if b then [own] else [] := by
  rw [List.drop_of_length_le h]; rfl
def keyD (d : Dn) : Int × Int := (d.t, d.s)
theorem pre_lt {pre : List Dn} {rest : List (Int × Int)} {xs : List Dn} {x : Int × Int} (h : xs.map keyD = pre.map keyD ++ x :: rest) : pre.length < xs.length := by
  have := congrArg List.length h
  simp at this; omega
theorem nwF_len (own : Dn) : ∀ (b : Bool) (l : List Dn), (nwF own b l).length ≤ 2 * l.length + 1
  | b, [] => by cases b <;> simp [nwF]
  | b, d :: l => by
    have := nwF_len own (decide (d.t < own.t)) l
    rw [nwF, List.length_append, List.length_cons]
    split <;> simp <;> omega

end Go.Proofs.Ytheifmdaladfdaa

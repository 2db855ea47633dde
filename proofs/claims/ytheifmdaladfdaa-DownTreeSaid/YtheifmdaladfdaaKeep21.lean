/- What the body of Learn's loop keeps, step by step. No program is in sight here. -/
import Derived.Test.YtheifmdaladfdaaMerge21
namespace Go.Proofs.Ytheifmdaladfdaa
open Go.RowKit

theorem own_kept {W W' : World} {row : Option Nat} {b : Nat} {cs : List Value} {t : TypeId} (h : Own W b cs t) (hg : W.grownBy W' row) (hr : ∀ r, row = some r → ∃ o : Obj, W.heap[r]? = some o ∧ o.isCells = false) : Own W' b cs t := by
  refine (hg.block b h.lt fun e => ?_).trans h
  obtain ⟨o, ho, hc⟩ := hr b e.symm
  rw [show W.heap[b]? = _ from h] at ho
  cases ho; cases hc
theorem row_kept {W W' : World} {row : Option Nat} {base n : Nat} {t : TypeId} {k : Nat} {v : Value} {xs : List Value} (h : W.ownsRow base t k v n xs) (hg : W.grownBy W' row) (hr : ∀ r, row = some r → ∃ o : Obj, W.heap[r]? = some o ∧ o.isCells = false) : W'.ownsRow base t k v n xs := by
  refine h.kept hg ?_
  rcases h.2 with ⟨rfl, _⟩ | ⟨g, cap, cur, rfl, _, hgb, _⟩
  · exact .inl rfl
  · refine .inr fun e => ?_
    obtain ⟨o, ho, hc⟩ := hr g (by rw [← e]; rfl)
    rw [hgb] at ho; cases ho; cases hc
theorem rowAt_own {W : World} {bo g : Nat} {v : Value} {t : TypeId} (h : Own W bo [v] t) : RowAt W bo g ↔ v.ownBlock = some g := by
  have hc : W.cell? ⟨bo, 0, none⟩ = some v := h.cell (i := 0) rfl
  unfold RowAt
  rw [hc]
  exact ⟨fun ⟨u, e1, e2⟩ => by cases e1; exact e2, fun e => ⟨v, rfl, e⟩⟩
/-- What a round has kept since its body began. -/
structure KB (B nE bo br : Nat) (W W' : World) : Prop where
  kf : KeepsFrom B W W'
  kp : KpL nE bo br W W'
variable {B nE bo br : Nat} {W W' : World}
theorem KB.refl : KB B nE bo br W W := ⟨KeepsFrom.refl _ _, KpL.refl _ _ _ _⟩
theorem KB.alloc (h : KB B nE bo br W W') (hb : bo < W.heap.size) (hn : nE ≤ W.heap.size) (o : Obj) : KB B nE bo br W (W'.alloc o) := by
  have hs := h.kp.bel.size
  refine ⟨h.kf.trans ((KeepsOthers.alloc W' o).from _), h.kp.trans ⟨(Below.refl nE W').alloc (by omega) o, fun ok => ok.below (by omega) (belowNew W' o), fun g hg => .inl ((rowAt_of ((belowNew W' o).block bo (by omega)) g).1 hg), fun b c _ _ _ h4 _ => ⟨c, ((belowNew W' o).block b (Array.getElem?_eq_some_iff.1 h4).1).trans h4, .inl rfl⟩⟩⟩
theorem KB.drewN (h : KB B nE bo br W W') (n : Nat) : KB B nE bo br W (W'.drewN n) := ⟨⟨h.kf.size, h.kf.same⟩, ⟨h.kp.bel.trans ⟨rfl, rfl, rfl, Nat.le_refl _, fun _ _ => rfl⟩, h.kp.ok, h.kp.rows, h.kp.keep⟩⟩
theorem KB.drew (h : KB B nE bo br W W') : KB B nE bo br W W'.drew := h.drewN 1
theorem heap_set_ne (w : World) (b i k : Nat) (v : Value) (hk : k ≠ b) : (w.setCell ⟨b, i, none⟩ v).heap[k]? = w.heap[k]? := by
  simp only [World.setCell]
  rw [Array.getElem?_modify, if_neg (Ne.symm hk)]
theorem heap_set_size (w : World) (b i : Nat) (v : Value) : (w.setCell ⟨b, i, none⟩ v).heap.size = w.heap.size := by
  simp [World.setCell]
/-- A store into the box br. -/
theorem KB.setR (h : KB B nE bo br W W') (hne : bo ≠ br) (hn : nE ≤ br) (v : Value) : KB B nE bo br W (W'.setCell ⟨br, 0, none⟩ v) := by
  refine ⟨h.kf.trans ((KeepsOthers.setCell W' _ v).from _), h.kp.trans ⟨(Below.refl nE W').setCell (p := ⟨br, 0, none⟩) hn v, fun ok g hg => ?_, fun g hg => .inl ((rowAt_of (heap_set_ne _ _ _ _ _ hne) g).1 hg), fun b c _ h2 _ h4 _ => ⟨c, by rw [heap_set_ne _ _ _ _ _ h2]; exact h4, .inl rfl⟩⟩⟩
  rw [heap_set_size]
  exact ok g ((rowAt_of (heap_set_ne _ _ _ _ _ hne) g).1 hg)
/-- A store into a route's next node or time. -/
theorem KB.setX {b : Nat} {t n s u n' u' : Int} {w2 : World} (h : KB B nE bo br W W') (hne : bo ≠ b) (hn : nE ≤ b) (o1 : Own W' b [.int .i64 t, .int .i64 n, .int .i64 s, .int .i64 u] 35)
    (he : w2 = (W'.setCell ⟨b, 1, none⟩ (.int .i64 n')).setCell ⟨b, 3, none⟩ (.int .i64 u') ∨ w2 = (W'.setCell ⟨b, 3, none⟩ (.int .i64 u')).setCell ⟨b, 1, none⟩ (.int .i64 n')) :
    KB B nE bo br W w2 ∧ Own w2 b [.int .i64 t, .int .i64 n', .int .i64 s, .int .i64 u'] 35 := by
  have o2 : Own w2 b [.int .i64 t, .int .i64 n', .int .i64 s, .int .i64 u'] 35 := by
    rcases he with rfl | rfl
    · exact (o1.set 1 (.int .i64 n')).set 3 (.int .i64 u')
    · exact (o1.set 3 (.int .i64 u')).set 1 (.int .i64 n')
  have ho : ∀ k, k ≠ b → w2.heap[k]? = W'.heap[k]? := fun k hk => by
    rcases he with rfl | rfl <;> rw [heap_set_ne _ _ _ _ _ hk, heap_set_ne _ _ _ _ _ hk]
  have hsz : w2.heap.size = W'.heap.size := by rcases he with rfl | rfl <;> rw [heap_set_size, heap_set_size]
  have hb : Below nE W' w2 := by
    rcases he with rfl | rfl
    · exact ((Below.refl nE W').setCell (p := ⟨b, 1, none⟩) hn _).setCell (p := ⟨b, 3, none⟩) hn _
    · exact ((Below.refl nE W').setCell (p := ⟨b, 3, none⟩) hn _).setCell (p := ⟨b, 1, none⟩) hn _
  have hk : KeepsOthers W' w2 := by
    rcases he with rfl | rfl
    · exact (KeepsOthers.setCell _ _ _).trans (KeepsOthers.setCell _ _ _)
    · exact (KeepsOthers.setCell _ _ _).trans (KeepsOthers.setCell _ _ _)
  refine ⟨⟨h.kf.trans (hk.from _), h.kp.trans ⟨hb, fun ok g hg => by rw [hsz]; exact ok g ((rowAt_of (ho bo hne) g).1 hg), fun g hg => .inl ((rowAt_of (ho bo hne) g).1 hg), fun k c _ _ _ h4 _ => ?_⟩⟩, o2⟩
  rcases Nat.decEq k b with e | e
  · exact ⟨c, (ho k e).trans h4, .inl rfl⟩
  · subst e
    rw [show W'.heap[k]? = _ from o1] at h4
    cases h4
    exact ⟨_, o2, .inr ⟨t, n, s, u, n', u', rfl, rfl⟩⟩
/-- An append to the row, and the store of the new slice into the box bo. -/
theorem KB.app {v : Value} {g n cap n0 k : Nat} {xs : List Value} {t tb : TypeId} {sz : Nat} {w1 : World} (h : KB B nE bo br W W') (ho : Own W' bo [v] tb) (hown : W'.ownsRow n0 t sz v k xs) (hg : W'.grownBy w1 v.ownBlock) (hat : v.ownBlock = some g ∨ g = W'.heap.size) (hlt : g < w1.heap.size)
    (hne : nE ≤ bo) (hb0 : bo < n0) : KB B nE bo br W (w1.setCell ⟨bo, 0, none⟩ (.slice (some ⟨g, 0, none⟩) n cap)) := by
  have hrow : ∀ r, v.ownBlock = some r → n0 ≤ r ∧ r < W'.heap.size := hown.lt
  have hbo : some bo ≠ v.ownBlock := fun e => by have := hrow bo e.symm; omega
  have o1 : Own w1 bo [v] tb := (hg.block bo ho.lt hbo).trans ho
  have o2 : Own (w1.setCell ⟨bo, 0, none⟩ (.slice (some ⟨g, 0, none⟩) n cap)) bo [.slice (some ⟨g, 0, none⟩) n cap] tb := o1.set 0 _
  have hR : ∀ g', RowAt (w1.setCell ⟨bo, 0, none⟩ (.slice (some ⟨g, 0, none⟩) n cap)) bo g' → g' = g := fun g' h' => by
    have := (rowAt_own o2).1 h'
    simpa [Value.ownBlock] using this.symm
  have hcells : KeepsOthers W' w1 := KeepsOthers.of_grownBy hg fun j o hj ho' => by
    rcases hown.2 with ⟨rfl, _⟩ | ⟨g', cap', cur, rfl, _, hgb, _⟩
    · cases hj
    · obtain rfl : g' = j := by simpa [Value.ownBlock] using hj
      rw [hgb] at ho'; cases ho'; rfl
  have hbel : Below nE W' w1 := (Below.refl nE W').grown hg (by have := ho.lt; omega) (fun j hj => by have := (hrow j hj).1; omega)
  refine ⟨h.kf.trans ((hcells.trans (KeepsOthers.setCell _ _ _)).from _), h.kp.trans ⟨hbel.trans ((Below.refl nE w1).setCell (p := ⟨bo, 0, none⟩) hne _), fun ok g' hg' => ?_, fun g' hg' => ?_, fun b c h1 h2 h3 h4 h5 => ?_⟩⟩
  · rw [heap_set_size, hR g' hg']; exact hlt
  · rw [hR g' hg']
    rcases hat with e | e
    · exact .inl ((rowAt_own ho).2 e)
    · exact .inr (by omega)
  · refine ⟨c, ?_, .inl rfl⟩
    rw [heap_set_ne _ _ _ _ _ h1]
    exact (hg.block b (Array.getElem?_eq_some_iff.1 h4).1 (fun e => h3 ((rowAt_own ho).2 e.symm))).trans h4

end Go.Proofs.Ytheifmdaladfdaa

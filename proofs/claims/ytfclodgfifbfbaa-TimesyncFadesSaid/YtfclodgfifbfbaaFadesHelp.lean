/- probe -/
import Derived.Test.YtfclodgfifbfbaaHead09
import Derived.Test.YtfclodgfifbfbaaIs09
import Derived.Test.YtfclodgfifbfbaaHolds09
import Derived.Test.YtfclodgfifbfbaaPlain10
import Derived.Deep.RegionHeld3
import Derived.Deep.DeepCutAuto
import Derived.Deep.MidRow
set_option linter.unusedVariables false
set_option linter.unusedSimpArgs false
namespace Go.Proofs.Ytfclodgfifbfbaa
open Go.RowKit

theorem cell_new {w : World} {O : Obj} {b o : Nat} (h : b < w.heap.size) : (w.alloc O).cell? ⟨b, o, none⟩ = w.cell? ⟨b, o, none⟩ := by
  simp only [World.cell?, show (w.alloc O).heap[b]? = w.heap[b]? from by
    show (w.heap.push O)[b]? = _
    rw [Array.getElem?_push, if_neg (by omega)]]
theorem alloc_lt {w : World} {O : Obj} {b : Nat} (h : b < w.heap.size) : b < (w.alloc O).heap.size := by simp; omega
theorem cell_other {w : World} {a : Addr} {v : Value} {b o : Nat} (h : b ≠ a.block) : (w.setCell a v).cell? ⟨b, o, none⟩ = w.cell? ⟨b, o, none⟩ := by
  simp only [World.cell?, show (w.setCell a v).heap[b]? = w.heap[b]? from Below.heap_setCell w a v b h]
theorem own_lastd {w w' : World} {cs : Array Value} {t : TypeId} (hb : Below (w.alloc (.cells cs t)).drew.heap.size (w.alloc (.cells cs t)).drew w') : Own w' w.heap.size cs.toList t := ((own_new w cs t).drew).below hb
theorem own_last {w w' : World} {cs : Array Value} {t : TypeId} (hb : Below (w.alloc (.cells cs t)).heap.size (w.alloc (.cells cs t)) w') : Own w' w.heap.size cs.toList t := (own_new w cs t).below hb
theorem own_last2d {w w' : World} {O : Obj} {cs : Array Value} {t : TypeId} (hb : Below ((w.alloc (.cells cs t)).alloc O).drew.heap.size ((w.alloc (.cells cs t)).alloc O).drew w') : Own w' w.heap.size cs.toList t := (((own_new w cs t).alloc O).drew).below hb
theorem own_last2 {w w' : World} {O : Obj} {cs : Array Value} {t : TypeId} (hb : Below ((w.alloc (.cells cs t)).alloc O).heap.size ((w.alloc (.cells cs t)).alloc O) w') : Own w' w.heap.size cs.toList t := ((own_new w cs t).alloc O).below hb

theorem store_own {w : World} {b : Nat} {cs : List Value} {t : TypeId} (h : Own w b cs t) (vs : Array Value) (hl : cs.length = vs.size) (hi : (Try.prog.info? 25).map (·.size) = some vs.size) (h1 : vs.all (·.oneCell') = true) :
    (Instr.storeAt 25 (.pointer (some ⟨b, 0, none⟩)) (.agg vs)).run Try.prog w = .ok () (w.setCells b 0 vs.toList) :=
  run_storeAt_mid w b 0 _ vs (fun j hj => by
    rw [Nat.zero_add]
    exact ⟨by rw [h.cell (List.getElem?_eq_getElem (by omega))]; rfl, h.frozen j⟩) hi h1
theorem own_setCells_at {b : Nat} {t : TypeId} : ∀ (vs old pre : List Value) (w : World), Own w b (pre ++ old) t → old.length = vs.length → Own (w.setCells b pre.length vs) b (pre ++ vs) t
  | [], old, pre, w, h, hl => by obtain rfl : old = [] := List.eq_nil_of_length_eq_zero hl; exact h
  | v :: vs, x :: old, pre, w, h, hl => by
    have h1 := h.set pre.length v
    rw [show (pre ++ x :: old).set pre.length v = (pre ++ [v]) ++ old by simp] at h1
    have h2 := own_setCells_at vs old (pre ++ [v]) _ h1 (by simpa using hl)
    rw [List.length_append, List.length_singleton, List.append_assoc] at h2
    exact h2
theorem own_whole {b : Nat} {t : TypeId} {vs old : List Value} {w : World} (h : Own w b old t) (hl : old.length = vs.length) : Own (w.setCells b 0 vs) b vs t := own_setCells_at vs old [] w h hl
theorem own_apart {b b' : Nat} {t : TypeId} (hne : b' ≠ b) : ∀ (vs : List Value) (o : Nat) (w : World) (cs : List Value), Own w b' cs t → Own (w.setCells b o vs) b' cs t
  | [], _, _, _, h => h
  | v :: vs, o, w, cs, h => own_apart hne vs (o + 1) _ _ (h.other (a := ⟨b, o, none⟩) hne v)
theorem below_setCells {B b : Nat} {a : World} (hb : B ≤ b) : ∀ (vs : List Value) (o : Nat) (w : World), Below B a w → Below B a (w.setCells b o vs)
  | [], _, _, h => h
  | v :: vs, o, w, h => below_setCells hb vs (o + 1) _ (h.setCell (p := ⟨b, o, none⟩) hb v)
theorem size_setCells (b : Nat) : ∀ (vs : List Value) (o : Nat) (w : World), (w.setCells b o vs).heap.size = w.heap.size
  | [], _, _ => rfl
  | v :: vs, o, w => by rw [World.setCells, size_setCells b vs]; simp
theorem cell_setCells {b n i : Nat} (h : b < n) (vs : List Value) (o : Nat) (w : World) : (w.setCells n o vs).cell? ⟨b, i, none⟩ = w.cell? ⟨b, i, none⟩ :=
  World.cell?_setCells_out n vs o w _ (fun e => by simp only at e; omega)
theorem size_alloc {w : World} {o : Obj} : (w.alloc o).heap.size = w.heap.size + 1 := by simp
theorem cell_drewC {w : World} {a : Addr} : w.drew.cell? a = w.cell? a := rfl
theorem size_drewC {w : World} : w.drew.heap.size = w.heap.size := rfl
theorem own_apart2 {w : World} {b b' : Nat} {cs cs0 : List Value} {t t' : TypeId} (vs : List Value) (hx : Own w b cs0 t') (hy : Own w b' cs t) (hne : b' ≠ b) : Own (w.setCells b 0 vs) b' cs t := own_apart hne vs 0 _ _ hy
theorem info_ts : (Try.prog.info? 25).map (·.size) = some 7 := by kernel_rfl
theorem upon_store {op : Oper} {a : Act} {K : Act → World → Prop} {Q : Exit → Act → World → Prop} {r : Result Unit} {f : Unit → World → Result Next} {w : World} {b : Nat} {cs : List Value} {t : TypeId} (vs : Array Value) (ho : Own w b cs t) (hl : cs.length = 7) (hv : vs.size = 7) (h1 : vs.all (·.oneCell') = true)
    (hr : (Instr.storeAt 25 (.pointer (some ⟨b, 0, none⟩)) (.agg vs)).run Try.prog w = r) (g : Oper.upon Try.prog op a K Q (f () (w.setCells b 0 vs.toList))) : Oper.upon Try.prog op a K Q (r.andThen f) := by
  rw [← hr, store_own ho vs (hl.trans hv.symm) (by rw [hv]; exact info_ts) h1]; exact g
theorem fin3 {X w : World} {S n by' : Nat} {cs zy cx cy : List Value} {t : TypeId} (hS : Own X S cs t) (hy : Own X by' zy t) (hn : n = X.heap.size) (gy : S < by') (ly : zy.length = cy.length) (hB : Below S w X) :
    Own ((X.alloc (.cells cx.toArray t)).setCells by' 0 cy) S cs t ∧ Own ((X.alloc (.cells cx.toArray t)).setCells by' 0 cy) n cx t ∧ Own ((X.alloc (.cells cx.toArray t)).setCells by' 0 cy) by' cy t ∧ Below S w ((X.alloc (.cells cx.toArray t)).setCells by' 0 cy) :=
  ⟨own_apart (Nat.ne_of_lt gy) _ _ _ _ (hS.alloc _), own_apart (by rw [hn]; exact (Nat.ne_of_lt hy.lt).symm) _ _ _ _ (own_at _ _ hn), own_whole (hy.alloc _) ly, below_setCells (Nat.le_of_lt gy) _ _ _ (hB.alloc (Nat.le_of_lt hS.lt) _)⟩
theorem fin2 {X w : World} {S bx by' : Nat} {cs zx zy cx cy : List Value} {t : TypeId} (hS : Own X S cs t) (hx : Own X bx zx t) (hy : Own X by' zy t) (hne : by' ≠ bx) (gx : S < bx) (gy : S < by') (lx : zx.length = cx.length) (ly : zy.length = cy.length) (hB : Below S w X) :
    Own ((X.setCells bx 0 cx).setCells by' 0 cy) S cs t ∧ Own ((X.setCells bx 0 cx).setCells by' 0 cy) bx cx t ∧ Own ((X.setCells bx 0 cx).setCells by' 0 cy) by' cy t ∧ Below S w ((X.setCells bx 0 cx).setCells by' 0 cy) :=
  ⟨own_apart (Nat.ne_of_lt gy) _ _ _ _ (own_apart (Nat.ne_of_lt gx) _ _ _ _ hS), own_apart hne.symm _ _ _ _ (own_whole hx lx), own_whole (own_apart hne _ _ _ _ hy) ly, below_setCells (Nat.le_of_lt gy) _ _ _ (below_setCells (Nat.le_of_lt gx) _ _ _ hB)⟩

end Go.Proofs.Ytfclodgfifbfbaa

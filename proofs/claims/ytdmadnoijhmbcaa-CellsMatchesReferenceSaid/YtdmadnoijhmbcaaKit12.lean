/- Rows of the call's own at the kinds of entries; maps. -/
import Derived.Test.YtdmadnoijhmbcaaBase12
import Derived.Deep.MidRow
import Derived.Laws.OwnMore
import Derived.Lib.SliceRun
import Derived.Maps.OwnOps
import Derived.Maps.RangeWalk
import Derived.Maps.Views
namespace Go.Proofs.Ytdmadnoijhmbcaa
open Go.RowKit

theorem ownsRow_setCells {base : Nat} {t : TypeId} {k n cap g : Nat} : ∀ (vs : List Value) (o : Nat) (w : World) (xs : List Value), w.ownsRow base t k (.slice (some ⟨g, 0, none⟩) n cap) n xs →
    ∃ ys, (w.setCells g o vs).ownsRow base t k (.slice (some ⟨g, 0, none⟩) n cap) n ys ∧ ys.length = xs.length ∧ (∀ j, ys[j]? = if o ≤ j ∧ j < o + vs.length ∧ j < xs.length then vs[j - o]? else xs[j]?) := by
  intro vs
  induction vs with
  | nil => exact fun o w xs h => ⟨xs, h, rfl, fun j => by rw [if_neg (by simp; omega)]⟩
  | cons v vs ih =>
    intro o w xs h
    obtain ⟨ys, h0, h1, h2⟩ := ih (o + 1) _ _ (h.stored o v).1
    refine ⟨ys, h0, by rw [h1, List.length_set], fun j => ?_⟩
    rw [h2 j, List.length_set]
    by_cases e : o = j
    · subst e
      rw [if_neg (by omega)]
      by_cases hj : o < xs.length
      · rw [if_pos (by simp; omega), List.getElem?_set_self hj]; simp
      · rw [if_neg (by omega), List.getElem?_eq_none (by rw [List.length_set]; omega), List.getElem?_eq_none (by omega)]
    · by_cases c : o + 1 ≤ j ∧ j < o + 1 + vs.length ∧ j < xs.length
      · rw [if_pos c, if_pos (by simp; omega), show j - o = (j - (o + 1)) + 1 by omega, List.getElem?_cons_succ]
      · rw [if_neg c, if_neg (by simp; omega), List.getElem?_set_ne e]
theorem flatT_set {α : Type} {L : Lay α} : ∀ (ls : List α) (i : Nat) (a : α), i < ls.length → ∀ j, (flatT L (ls.set i a))[j]? = if i * L.k ≤ j ∧ j < i * L.k + (L.f a).length ∧ j < (flatT L ls).length then (L.f a)[j - i * L.k]? else (flatT L ls)[j]?
  | [], i, a, h, j => by simp at h
  | s :: ls, 0, a, h, j => by
    rw [List.set_cons_zero, flatT, flatT, List.flatMap_cons, List.flatMap_cons]
    simp only [Nat.zero_mul, Nat.zero_le, true_and, Nat.zero_add, Nat.sub_zero, List.length_append, L.len]
    by_cases c : j < L.k
    · rw [if_pos ⟨c, by omega⟩, List.getElem?_append_left (by rw [L.len]; exact c)]
    · rw [if_neg (by omega), List.getElem?_append_right (by rw [L.len]; omega), List.getElem?_append_right (by rw [L.len]; omega), L.len, L.len]
  | s :: ls, i + 1, a, h, j => by
    have ih := flatT_set (L := L) ls i a (by simpa using h) (j - L.k)
    rw [List.set_cons_succ, flatT, flatT, List.flatMap_cons, List.flatMap_cons]
    rw [flatT, flatT] at ih
    have hk : (i + 1) * L.k = i * L.k + L.k := Nat.succ_mul i L.k
    by_cases c : j < L.k
    · rw [if_neg (by omega), List.getElem?_append_left (by rw [L.len]; exact c), List.getElem?_append_left (by rw [L.len]; exact c)]
    · rw [List.getElem?_append_right (by rw [L.len]; omega), List.getElem?_append_right (by rw [L.len]; omega), L.len, ih, L.len, List.length_append, L.len]
      by_cases d : i * L.k ≤ j - L.k ∧ j - L.k < i * L.k + L.k ∧ j - L.k < (List.flatMap L.f ls).length
      · rw [if_pos d, if_pos (by omega), show j - L.k - i * L.k = j - (i + 1) * L.k by omega]
      · rw [if_neg d, if_neg (by omega)]
theorem ownT_set {α : Type} {L : Lay α} {w : World} {base : Nat} {t : TypeId} {g cap n : Nat} {ls : List α} {i : Nat} (a : α) (h : w.ownsRow base t L.k (.slice (some ⟨g, 0, none⟩) n cap) n (flatT L ls)) (hi : i < ls.length) :
    (w.setCells g (0 + i * L.k) (L.f a)).ownsRow base t L.k (.slice (some ⟨g, 0, none⟩) n cap) n (flatT L (ls.set i a)) := by
  rw [Nat.zero_add]
  obtain ⟨ys, h0, h1, h2⟩ := ownsRow_setCells (L.f a) (i * L.k) w _ h
  have : ys = flatT L (ls.set i a) := List.ext_getElem? fun j => by rw [h2 j, flatT_set ls i a hi j]
  rw [← this]; exact h0
theorem ownT_there {α : Type} {L : Lay α} {w : World} {base : Nat} {t : TypeId} {g cap n : Nat} {ls : List α} {i : Nat} (h : w.ownsRow base t L.k (.slice (some ⟨g, 0, none⟩) n cap) n (flatT L ls)) (hi : i < ls.length) : w.there g (0 + i * L.k) L.k := fun j hj => by
  have h0 := h.1
  rw [flatT_len] at h0
  have h1 : (i + 1) * L.k ≤ ls.length * L.k := Nat.mul_le_mul_right _ hi
  rw [Nat.succ_mul] at h1
  refine ⟨?_, h.frozenAt _⟩
  rw [h.cellAt _ (by omega), List.getElem?_eq_getElem (by rw [flatT_len]; omega)]
  rfl
theorem below_setCells {B : Nat} {a : World} (b : Nat) (hb : B ≤ b) : ∀ (vs : List Value) (o : Nat) (w : World), Below B a w → Below B a (w.setCells b o vs)
  | [], _, _, h => h
  | _ :: vs, o, _, h => below_setCells b hb vs (o + 1) _ (belowSet' h _ _ _ hb)

theorem ownsRow_front {w : World} {B k n m cap g : Nat} {t : TypeId} {xs : List Value} (h : w.ownsRow B t k (.slice (some ⟨g, 0, none⟩) n cap) n xs) (hm : m ≤ n) : w.ownsRow B t k (.slice (some ⟨g, 0, none⟩) m cap) m (xs.take (m * k)) := by
  obtain ⟨hl, h⟩ := h
  have hmk : m * k ≤ n * k := Nat.mul_le_mul_right _ hm
  rcases h with ⟨h, _⟩ | ⟨g', cap', cur, hv, hbg, hg, h1, h2, h3, h4⟩
  · cases h
  · injection hv with e1 e2 e3
    injection e1 with e1
    injection e1 with e1 _ _
    subst e1 e3
    exact ⟨by rw [List.length_take]; omega, .inr ⟨g, cap, cur, rfl, hbg, hg, by omega, h2, h3, by rw [← h4, List.take_take, Nat.min_eq_left hmk]⟩⟩
theorem ownsRow_belowD {w w' : World} {B k n : Nat} {t : TypeId} {v : Value} {xs : List Value} (h : w.ownsRow B t k v n xs) (hb : Below w.heap.size w w') : w'.ownsRow B t k v n xs := by
  obtain ⟨hl, h⟩ := h
  refine ⟨hl, ?_⟩
  rcases h with h | ⟨g, cap, cur, hv, hbg, hg, h1, h2, h3, h4⟩
  · exact .inl h
  · exact .inr ⟨g, cap, cur, hv, hbg, by rw [hb.block g (Array.getElem?_eq_some_iff.1 hg).1]; exact hg, h1, h2, h3, h4⟩
theorem newsTn {α : Type} {L : Lay α} {w : World} {n : Nat} (hn : n = w.heap.size) (a : α) (t : TypeId) : ∀ j u, (L.f a)[j]? = some u → (w.alloc (.cells (L.f a).toArray t)).cell? ((⟨n, 0, none⟩ : Addr).add j) = some u := fun j u h => by
  subst hn; exact newsT (L := L) w a t j u h
theorem newsT1 {α : Type} {L : Lay α} (w : World) (O : Obj) (a : α) (t : TypeId) : ∀ j u, (L.f a)[j]? = some u → ((w.alloc O).alloc (.cells (L.f a).toArray t)).cell? ((⟨w.heap.size + 1, 0, none⟩ : Addr).add j) = some u := fun j u h => by
  have := newsT (L := L) (w.alloc O) a t j u h
  rwa [show (w.alloc O).heap.size = w.heap.size + 1 by simp] at this

theorem info_u : (Try.prog.info? 32).map (fun i => (i.zero, i.size, i.bytes)) = some (some (.agg #[.int .i64 0, .int .i64 0, .int .i64 0, .int .i64 0]), 4, 32) := by kernel_rfl
theorem info_uP : (Try.prog.info? 66).map (fun i => (i.zero, i.size, i.bytes)) = some (some (.agg #[.int .i64 0, .int .i64 0, .int .i64 0, .int .i64 0]), 4, 32) := by kernel_rfl
theorem info_uS : (Try.prog.info? 32).map (·.size) = some 4 := by kernel_rfl
theorem storeU {ops : Array Oper} {rest : List Oper} {op : Oper} {a : Act} {w : World} {Q : Exit → Act → World → Prop} (z : Us) (b o : Nat) (hgd : op.guard = none)
    (hs : ∃ x y : Operand, op.op = .store 32 x y ∧ a.eval x = .pointer (some ⟨b, o, none⟩) ∧ a.eval y = .agg #[.int .i64 z.s, .int .i64 z.o, .int .i64 z.p, .int .i64 z.m]) (ht : w.there b o 4)
    (h : wpList Try.prog ops Q rest (a.put op.dst undef) (w.setCells b o (usL.f z))) : wpList Try.prog ops Q (op :: rest) a w := by
  obtain ⟨x, y, ho, hx, hy⟩ := hs
  exact wpList_store_mid hgd 32 x y ho b o #[.int .i64 z.s, .int .i64 z.o, .int .i64 z.p, .int .i64 z.m] hx hy ht info_uS (by simp [Value.oneCell']) h
/-- A slice of the call's own, or some slice, is returned. -/
def OwnU (w : World) (l : List Us) (e : Ending) (w' : World) : Prop := ∃ v', e = .returned v' ∧ w'.ownsRow w.heap.size 32 4 v' l.length (flatT usL l) ∧ Below w.heap.size w w'
def RetU (w : World) (l : List Us) (e : Ending) (w' : World) : Prop := ∃ v', e = .returned v' ∧ SlU w' v' l ∧ Below w.heap.size w w'
theorem OwnU.ret {w w' : World} {l : List Us} {e : Ending} (h : OwnU w l e w') : RetU w l e w' := by
  obtain ⟨v', e, o, b⟩ := h
  exact ⟨v', e, slt_of_own (L := usL) o, b⟩
theorem info_g : (Try.prog.info? 34).map (fun i => (i.zero, i.size, i.bytes)) = some (some (.agg #[.int .i64 0, .int .i64 0, .int .i64 0, .int .i64 0, .int .i64 0]), 5, 40) := by kernel_rfl
theorem info_gP : (Try.prog.info? 73).map (fun i => (i.zero, i.size, i.bytes)) = some (some (.agg #[.int .i64 0, .int .i64 0, .int .i64 0, .int .i64 0, .int .i64 0]), 5, 40) := by kernel_rfl
theorem info_gS : (Try.prog.info? 34).map (·.size) = some 5 := by kernel_rfl
theorem storeG {ops : Array Oper} {rest : List Oper} {op : Oper} {a : Act} {w : World} {Q : Exit → Act → World → Prop} (z : Gr) (b o : Nat) (hgd : op.guard = none)
    (hs : ∃ x y : Operand, op.op = .store 34 x y ∧ a.eval x = .pointer (some ⟨b, o, none⟩) ∧ a.eval y = .agg #[.int .i64 z.s, .int .i64 z.o, .int .i64 z.p, .int .i64 z.m, .int .i64 z.u]) (ht : w.there b o 5)
    (h : wpList Try.prog ops Q rest (a.put op.dst undef) (w.setCells b o (grL.f z))) : wpList Try.prog ops Q (op :: rest) a w := by
  obtain ⟨x, y, ho, hx, hy⟩ := hs
  exact wpList_store_mid hgd 34 x y ho b o #[.int .i64 z.s, .int .i64 z.o, .int .i64 z.p, .int .i64 z.m, .int .i64 z.u] hx hy ht info_gS (by simp [Value.oneCell']) h
/-- A slice of the call's own, or some slice, is returned. -/
def OwnG (w : World) (l : List Gr) (e : Ending) (w' : World) : Prop := ∃ v', e = .returned v' ∧ w'.ownsRow w.heap.size 34 5 v' l.length (flatT grL l) ∧ Below w.heap.size w w'
def RetG (w : World) (l : List Gr) (e : Ending) (w' : World) : Prop := ∃ v', e = .returned v' ∧ SlG w' v' l ∧ Below w.heap.size w w'
theorem OwnG.ret {w w' : World} {l : List Gr} {e : Ending} (h : OwnG w l e w') : RetG w l e w' := by
  obtain ⟨v', e, o, b⟩ := h
  exact ⟨v', e, slt_of_own (L := grL) o, b⟩
theorem info_a : (Try.prog.info? 51).map (fun i => (i.zero, i.size, i.bytes)) = some (some (.agg #[.int .i64 0, .int .i64 0, .int .i64 0]), 3, 24) := by kernel_rfl
theorem info_aP : (Try.prog.info? 86).map (fun i => (i.zero, i.size, i.bytes)) = some (some (.agg #[.int .i64 0, .int .i64 0, .int .i64 0]), 3, 24) := by kernel_rfl
theorem info_aS : (Try.prog.info? 51).map (·.size) = some 3 := by kernel_rfl
theorem storeA {ops : Array Oper} {rest : List Oper} {op : Oper} {a : Act} {w : World} {Q : Exit → Act → World → Prop} (z : Ak) (b o : Nat) (hgd : op.guard = none)
    (hs : ∃ x y : Operand, op.op = .store 51 x y ∧ a.eval x = .pointer (some ⟨b, o, none⟩) ∧ a.eval y = .agg #[.int .i64 z.s, .int .i64 z.o, .int .i64 z.p]) (ht : w.there b o 3)
    (h : wpList Try.prog ops Q rest (a.put op.dst undef) (w.setCells b o (akL.f z))) : wpList Try.prog ops Q (op :: rest) a w := by
  obtain ⟨x, y, ho, hx, hy⟩ := hs
  exact wpList_store_mid hgd 51 x y ho b o #[.int .i64 z.s, .int .i64 z.o, .int .i64 z.p] hx hy ht info_aS (by simp [Value.oneCell']) h
/-- A slice of the call's own, or some slice, is returned. -/
def OwnA (w : World) (l : List Ak) (e : Ending) (w' : World) : Prop := ∃ v', e = .returned v' ∧ w'.ownsRow w.heap.size 51 3 v' l.length (flatT akL l) ∧ Below w.heap.size w w'
def RetA (w : World) (l : List Ak) (e : Ending) (w' : World) : Prop := ∃ v', e = .returned v' ∧ SlA w' v' l ∧ Below w.heap.size w w'
theorem OwnA.ret {w w' : World} {l : List Ak} {e : Ending} (h : OwnA w l e w') : RetA w l e w' := by
  obtain ⟨v', e, o, b⟩ := h
  exact ⟨v', e, slt_of_own (L := akL) o, b⟩

/-! ### a field of a cell -/
theorem field_cell (a b : Int) (w : World) : (Instr.field 30 (.agg #[.int .i64 a, .int .i64 b]) 0).run Try.prog w = .ok (.int .i64 a) w := by kernel_rfl
/-! ### the map of how often a slot is there -/
open Go.Maps in
theorem lawK : Keyed Try.prog 3 := int_keyed Try.underlying3
theorem zeroK (w : World) : (zeroValue 3).run Try.prog w = .ok (.int .i64 0) w := by kernel_rfl
/-- Block b is a map that says how often each number is in the list. -/
def CntM (w : World) (b n : Nat) (ks : List Int) : Prop := ∃ D, w.ownsMap Try.prog 3 (plainElem (H := Unit) Try.prog 3) b n D ∧ Maps.IsMap D ∧ ∀ k : Int, D.atKey (.int .i64 k) (.lit (.int .i64 0)) = .lit (.int .i64 (ks.count k)) ∧ (Maps.has D (.int .i64 k) = true ↔ k ∈ ks)
theorem CntM.below {w w' : World} {b n : Nat} {ks : List Int} (h : CntM w b n ks) (hb : Below w.heap.size w w') : CntM w' b n ks := by
  obtain ⟨D, ho, h⟩ := h
  have hlt := ho.lt
  obtain ⟨es, clock, h1, F, hs, hD⟩ := ho
  exact ⟨D, ⟨es, clock, (hb.block b hlt).trans h1, F, hs, hD⟩, h⟩
theorem CntM.lt {w : World} {b n : Nat} {ks : List Int} (h : CntM w b n ks) : b < w.heap.size := by
  obtain ⟨D, ho, _⟩ := h; exact ho.lt
theorem grown_of_below {w w' : World} {row : Option Nat} (h : Below w.heap.size w w') : w.grownBy w' row := ⟨h.os, h.tape, h.output, h.size, fun i hi _ => h.block i hi⟩
theorem CntM.not {w : World} {b n : Nat} {ks : List Int} (h : CntM w b n ks) (o : Nat) : w.cell? ⟨b, o, none⟩ = none := by
  obtain ⟨D, ⟨es, clock, h1, _⟩, _⟩ := h
  simp [World.cell?, h1]
theorem SlT.grown {α : Type} {L : Lay α} {w w' : World} {v : Value} {l : List α} {B n : Nat} {ks : List Int} (h : SlT L w v l) (hm : CntM w B n ks) (hg : w.grownBy w' (some B)) : SlT L w' v l := by
  obtain ⟨p, cap, h1, h2, h3, h4, h5⟩ := h
  refine ⟨p, cap, h1, h2, h3, h4, fun i cs hi => ?_⟩
  obtain ⟨b, off, e, hlt, hc⟩ := h5 i cs hi
  refine ⟨b, off, e, Nat.lt_of_lt_of_le hlt hg.size, fun j x hx => ?_⟩
  have h0 := hc j x hx
  have hne : some b ≠ some B := fun e => by
    injection e with e
    subst e
    rw [hm.not] at h0
    cases h0
  rw [← h0]
  exact World.cell?_of_block (a := ⟨b, _, none⟩) (hg.block b hlt hne)
theorem Own.grown {w w' : World} {b B n : Nat} {cs : List Value} {t : TypeId} {ks : List Int} (h : Own w b cs t) (hm : CntM w B n ks) (hg : w.grownBy w' (some B)) : Own w' b cs t := by
  have hne : some b ≠ some B := fun e => by
    injection e with e
    subst e
    obtain ⟨D, ⟨es, clock, h1, _⟩, _⟩ := hm
    have h' : w.heap[b]? = some (.cells cs.toArray t (0, 0)) := h
    rw [h1] at h'
    cases h'
  exact (hg.block b h.lt hne).trans h
theorem cnt_made (w : World) : CntM (w.alloc (.map #[] 0)) w.heap.size 0 [] :=
  ⟨.map [], World.ownsMap_made _ _ _ _, Maps.isMap_empty, fun k => ⟨by simp [DataW.atKey], by simp [Maps.has]⟩⟩

end Go.Proofs.Ytdmadnoijhmbcaa

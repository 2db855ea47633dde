/- What claims.beaten returns, by way of its iterators. No condition but those named. -/
import Derived.Test.YtmopiifamopidaaGreatPG
import Derived.Test.YtmopiifamopidaaGreatPA
import Derived.RangeFuncNested
import Derived.RangeFuncBound
import Derived.RangeFuncCalls
import Derived.RangeFuncLeaves
import Derived.OwnWalkIn
import Derived.TacticsInMore
import Derived.LoopNIn
import Derived.LoopIn
import Derived.BigFrameIn
import Derived.Shelf.Abstract
set_option linter.unusedVariables false
set_option linter.unusedSimpArgs false
section
namespace Go.Proofs.YtmopiifamopidaaGreat
open Go.RowKit
structure KpB (nE bR : Nat) (A B : World) : Prop where
 bel : Below nE A B
 same : ∀ k c, k ≠ bR → A.heap[k]? = some c → c.isCells = true → B.heap[k]? = some c
theorem KpB.refl (nE bR : Nat) (W : World) : KpB nE bR W W := ⟨Below.refl _ _, fun _ _ _ h _ => h⟩
theorem KpB.trans {nE bR : Nat} {A B C : World} (h : KpB nE bR A B) (k : KpB nE bR B C) : KpB nE bR A C :=
 ⟨h.bel.trans k.bel, fun i c h1 h2 h3 => k.same i c h1 (h.same i c h1 h2 h3) h3⟩
theorem KpB.put {nE bR : Nat} {w : World} (hn : nE ≤ w.heap.size) (W : World) (l : Nat) (o o' : Obj) (hl : w.heap.size ≤ l) (h : W.heap[l]? = some o) (hc : o.isCells = false) (hw : o.isWalk = false) : KpB nE bR W (W.putObj l o') := by
 have e : ∀ k, k ≠ l → (W.putObj l o').heap[k]? = W.heap[k]? := fun k hk => World.putObj_heap_other hk
 exact ⟨belowK_b hn W l o o' hl h hc hw, fun b _ _ h4 h5 => by
  rw [e b (fun e => by subst e; rw [h] at h4; cases h4; rw [hc] at h5; cases h5)]; exact h4⟩
theorem KpB.below {nE bR : Nat} {A B : World} (h : Below A.heap.size A B) (hn : nE ≤ A.heap.size) : KpB nE bR A B :=
 ⟨h.mono hn, fun k _ _ h2 _ => (h.block k (Array.getElem?_eq_some_iff.1 h2).1).trans h2⟩
theorem KpB.own {nE bR : Nat} {A B : World} (k : KpB nE bR A B) {b : Nat} {cs : List Value} {t : TypeId} (o : Own A b cs t) (hb : b ≠ bR) : Own B b cs t := k.same b _ hb o rfl
theorem own_keptN {W W' : World} {row : Option Nat} {b : Nat} {cs : List Value} {t : TypeId} (h : Own W b cs t) (hg : W.grownBy W' row) (hr : ∀ r, row = some r → ∃ o : Obj, W.heap[r]? = some o ∧ o.isCells = false) : Own W' b cs t :=
 (hg.block b h.lt (fun e => by obtain ⟨o, ho, hc⟩ := hr b e.symm; rw [show W.heap[b]? = _ from h] at ho; cases ho; cases hc)).trans h
theorem _root_.Go.KeepsFrom.up {B B' : Nat} {A C : World} (h : KeepsFrom B A C) (hb : B ≤ B') : KeepsFrom B' A C := ⟨h.size, fun k o hk => h.same k o (Nat.le_trans hb hk)⟩
theorem _root_.Go.KeepsFrom.after {B : Nat} {A C D : World} (h : KeepsFrom B A C) (k : KeepsFrom B C D) : KeepsFrom B A D := ⟨Nat.le_trans h.size k.size, fun i o hi h1 h2 => k.same i o hi (h.same i o hi h1 h2) h2⟩
theorem _root_.Go.KeepsFrom.ofBelow {B : Nat} {A C : World} (h : Below A.heap.size A C) : KeepsFrom B A C := ⟨h.size, fun k _ _ h1 _ => (h.block k (Array.getElem?_eq_some_iff.1 h1).1).trans h1⟩
theorem _root_.Go.KeepsFrom.self {B : Nat} {A : World} : KeepsFrom B A A := ⟨Nat.le_refl _, fun _ _ _ h _ => h⟩
section
variable {F : Fence} {n : Nat} {ops : Array Oper} {rest : List Oper} {op : Oper} {a : Act} {w : World} {Q : Exit → Act → World → Prop}
theorem inLoad {P : Program} (ty : TypeId) (cs : List Value) (b o : Nat) (d : TypeDesc) (hs : ∃ x : Operand, op.op = .load ty x ∧ a.eval x = .pointer (some ⟨b, o, none⟩)) (hw : Region.wanted op (yielded ops a.tmps) = true) (hc : w.rangeAt b o cs)
  (hu : P.underlying ty = some d) (hd : d.isRow = true) (hi : (P.info? ty).map (·.size) = some cs.length)
  (h : wpListIn F n P ops Q rest (a.put op.dst (.agg cs.toArray)) w) : wpListIn F n P ops Q (op :: rest) a w := by
 obtain ⟨x, ho, hx⟩ := hs
 refine BigFrame.wpListIn_want hw fun K hK => ⟨fun f hf => by simp [Oper.about, ho] at hf, ?_⟩
 rw [Oper.semAt_eq _ _ _ (by simp [ho])]; unfold execOp
 simp only [ho, hx, Instr.loadAt, Instr.sureAddr, Sem.run_bind, Sem.run_pure, Result.andThen_ok, run_loadVar_mid w b o ty cs d hc hu hd hi]
 exact hK _ _ h
theorem inStore {P : Program} (ty : TypeId) (vs : List Value) (b : Nat) (cs : List Value) (t : TypeId)
  (hs : ∃ x y : Operand, op.op = .store ty x y ∧ a.eval x = .pointer (some ⟨b, 0, none⟩) ∧ a.eval y = .agg vs.toArray) (hw : Region.wanted op (yielded ops a.tmps) = true) (hb : b = w.heap.size) (hl : cs.length = vs.length) (hi : (P.info? ty).map (·.size) = some vs.length) (h1 : ∀ v ∈ vs, v.oneCell' = true)
  (h : wpListIn F n P ops Q rest (a.put op.dst undef) (w.alloc (.cells vs.toArray t))) : wpListIn F n P ops Q (op :: rest) a (w.alloc (.cells cs.toArray t)) := by
 obtain ⟨x, y, e, hx, hy⟩ := hs
 subst hb
 refine BigFrame.wpListIn_want hw fun K hK => ⟨fun f hf => by simp [Oper.about, e] at hf, ?_⟩
 rw [Oper.semAt_eq _ _ _ (by simp [e])]; unfold execOp
 have h8 := own_there (own_at (w := w) cs t rfl)
 rw [hl] at h8
 simp only [e, hx, hy, Instr.storeAt, Instr.sureAddr, Sem.run_bind, Sem.run_pure, Result.andThen_ok, run_storeVar_mid (P := P) (w.alloc (.cells cs.toArray t)) w.heap.size 0 ty vs.toArray (by simpa using h8) (by simpa using hi) (all_oneCell_toArray h1)]
 have h9 := alloc_setCells (t := t) vs cs [] w hl
 simp only [List.nil_append, List.length_nil] at h9
 have h10 := hK (a.put op.dst undef) (w.alloc (.cells vs.toArray t)) h
 rw [← h9] at h10
 exact h10
theorem inLoadN (r : Nr) (b o : Nat) (hs : ∃ x : Operand, op.op = .load 86 x ∧ a.eval x = .pointer (some ⟨b, o, none⟩)) (hw : Region.wanted op (yielded ops a.tmps) = true) (hc : w.rangeAt b o r.cells)
  (h : wpListIn F n Tryz.prog ops Q rest (a.put op.dst (.agg #[.int .i64 r.b.fr, .int .i64 r.b.fm, .int .i64 0, .int .i64 0, .int .i64 0, .int .i64 0, .int .i64 0, .int .i64 0, .int .i64 0, .int .i64 0, .int .i64 0, .int .i64 0, .slice r.vu.p r.vu.n r.vu.c, .slice r.vg.p r.vg.n r.vg.c, .slice r.va.p r.va.n r.va.c, .slice none 0 0, .bool false, .slice none 0 0, .slice none 0 0, .slice none 0 0, .int .i64 0, .int .i64 0, .int .u64 0, .int .i64 0, .int .i64 0, .int .i64 0, .int .i64 0, .int .i64 0, .slice none 0 0, .slice none 0 0, .bool false])) w) : wpListIn F n Tryz.prog ops Q (op :: rest) a w :=
 inLoad 86 r.cells b o _ hs hw hc Tryz.underlying86 rfl info_nrS h
theorem inStoreN (r : Nr) (b : Nat) (hs : ∃ x y : Operand, op.op = .store 86 x y ∧ a.eval x = .pointer (some ⟨b, 0, none⟩) ∧ a.eval y = .agg #[.int .i64 r.b.fr, .int .i64 r.b.fm, .int .i64 0, .int .i64 0, .int .i64 0, .int .i64 0, .int .i64 0, .int .i64 0, .int .i64 0, .int .i64 0, .int .i64 0, .int .i64 0, .slice r.vu.p r.vu.n r.vu.c, .slice r.vg.p r.vg.n r.vg.c, .slice r.va.p r.va.n r.va.c, .slice none 0 0, .bool false, .slice none 0 0, .slice none 0 0, .slice none 0 0, .int .i64 0, .int .i64 0, .int .u64 0, .int .i64 0, .int .i64 0, .int .i64 0, .int .i64 0, .int .i64 0, .slice none 0 0, .slice none 0 0, .bool false]) (hw : Region.wanted op (yielded ops a.tmps) = true) (hb : b = w.heap.size)
  (h : wpListIn F n Tryz.prog ops Q rest (a.put op.dst undef) (w.alloc (.cells #[.int .i64 r.b.fr, .int .i64 r.b.fm, .int .i64 0, .int .i64 0, .int .i64 0, .int .i64 0, .int .i64 0, .int .i64 0, .int .i64 0, .int .i64 0, .int .i64 0, .int .i64 0, .slice r.vu.p r.vu.n r.vu.c, .slice r.vg.p r.vg.n r.vg.c, .slice r.va.p r.va.n r.va.c, .slice none 0 0, .bool false, .slice none 0 0, .slice none 0 0, .slice none 0 0, .int .i64 0, .int .i64 0, .int .u64 0, .int .i64 0, .int .i64 0, .int .i64 0, .int .i64 0, .int .i64 0, .slice none 0 0, .slice none 0 0, .bool false] 86))) : wpListIn F n Tryz.prog ops Q (op :: rest) a (w.alloc (.cells #[.int .i64 0, .int .i64 0, .int .i64 0, .int .i64 0, .int .i64 0, .int .i64 0, .int .i64 0, .int .i64 0, .int .i64 0, .int .i64 0, .int .i64 0, .int .i64 0, .slice none 0 0, .slice none 0 0, .slice none 0 0, .slice none 0 0, .bool false, .slice none 0 0, .slice none 0 0, .slice none 0 0, .int .i64 0, .int .i64 0, .int .u64 0, .int .i64 0, .int .i64 0, .int .i64 0, .int .i64 0, .int .i64 0, .slice none 0 0, .slice none 0 0, .bool false] 86)) :=
 inStore 86 r.cells b [.int .i64 0, .int .i64 0, .int .i64 0, .int .i64 0, .int .i64 0, .int .i64 0, .int .i64 0, .int .i64 0, .int .i64 0, .int .i64 0, .int .i64 0, .int .i64 0, .slice none 0 0, .slice none 0 0, .slice none 0 0, .slice none 0 0, .bool false, .slice none 0 0, .slice none 0 0, .slice none 0 0, .int .i64 0, .int .i64 0, .int .u64 0, .int .i64 0, .int .i64 0, .int .i64 0, .int .i64 0, .int .i64 0, .slice none 0 0, .slice none 0 0, .bool false] 86 hs hw hb rfl info_nrS (nr_one r) h
def bcells (r : Nr) : List Value := [.int .i64 r.b.fm, .int .i64 0, .int .i64 0, .int .i64 0, .int .i64 0, .int .i64 0, .int .i64 0, .int .i64 0, .int .i64 0, .int .i64 0, .int .i64 0, .slice r.vu.p r.vu.n r.vu.c, .slice r.vg.p r.vg.n r.vg.c, .slice r.va.p r.va.n r.va.c, .slice none 0 0, .bool false, .slice none 0 0, .slice none 0 0, .slice none 0 0, .int .i64 0, .int .i64 0, .int .u64 0, .int .i64 0, .int .i64 0, .int .i64 0, .int .i64 0, .int .i64 0, .slice none 0 0, .slice none 0 0, .bool false]
theorem bc_one (r : Nr) : ∀ v ∈ bcells r, v.oneCell' = true := fun v h => nr_one r v (List.mem_cons_of_mem _ h)
theorem inLoadB (r : Nr) (b o : Nat) (hs : ∃ x : Operand, op.op = .load 71 x ∧ a.eval x = .pointer (some ⟨b, o, none⟩)) (hw : Region.wanted op (yielded ops a.tmps) = true) (hc : w.rangeAt b o (bcells r))
  (h : wpListIn F n Tryz.prog ops Q rest (a.put op.dst (.agg #[.int .i64 r.b.fm, .int .i64 0, .int .i64 0, .int .i64 0, .int .i64 0, .int .i64 0, .int .i64 0, .int .i64 0, .int .i64 0, .int .i64 0, .int .i64 0, .slice r.vu.p r.vu.n r.vu.c, .slice r.vg.p r.vg.n r.vg.c, .slice r.va.p r.va.n r.va.c, .slice none 0 0, .bool false, .slice none 0 0, .slice none 0 0, .slice none 0 0, .int .i64 0, .int .i64 0, .int .u64 0, .int .i64 0, .int .i64 0, .int .i64 0, .int .i64 0, .int .i64 0, .slice none 0 0, .slice none 0 0, .bool false])) w) : wpListIn F n Tryz.prog ops Q (op :: rest) a w :=
 inLoad 71 (bcells r) b o _ hs hw hc Tryz.underlying71 rfl info_bcS h
theorem inStoreB (r : Nr) (b : Nat) (hs : ∃ x y : Operand, op.op = .store 71 x y ∧ a.eval x = .pointer (some ⟨b, 0, none⟩) ∧ a.eval y = .agg #[.int .i64 r.b.fm, .int .i64 0, .int .i64 0, .int .i64 0, .int .i64 0, .int .i64 0, .int .i64 0, .int .i64 0, .int .i64 0, .int .i64 0, .int .i64 0, .slice r.vu.p r.vu.n r.vu.c, .slice r.vg.p r.vg.n r.vg.c, .slice r.va.p r.va.n r.va.c, .slice none 0 0, .bool false, .slice none 0 0, .slice none 0 0, .slice none 0 0, .int .i64 0, .int .i64 0, .int .u64 0, .int .i64 0, .int .i64 0, .int .i64 0, .int .i64 0, .int .i64 0, .slice none 0 0, .slice none 0 0, .bool false]) (hw : Region.wanted op (yielded ops a.tmps) = true) (hb : b = w.heap.size)
  (h : wpListIn F n Tryz.prog ops Q rest (a.put op.dst undef) (w.alloc (.cells #[.int .i64 r.b.fm, .int .i64 0, .int .i64 0, .int .i64 0, .int .i64 0, .int .i64 0, .int .i64 0, .int .i64 0, .int .i64 0, .int .i64 0, .int .i64 0, .slice r.vu.p r.vu.n r.vu.c, .slice r.vg.p r.vg.n r.vg.c, .slice r.va.p r.va.n r.va.c, .slice none 0 0, .bool false, .slice none 0 0, .slice none 0 0, .slice none 0 0, .int .i64 0, .int .i64 0, .int .u64 0, .int .i64 0, .int .i64 0, .int .i64 0, .int .i64 0, .int .i64 0, .slice none 0 0, .slice none 0 0, .bool false] 71))) : wpListIn F n Tryz.prog ops Q (op :: rest) a (w.alloc (.cells #[.int .i64 0, .int .i64 0, .int .i64 0, .int .i64 0, .int .i64 0, .int .i64 0, .int .i64 0, .int .i64 0, .int .i64 0, .int .i64 0, .int .i64 0, .slice none 0 0, .slice none 0 0, .slice none 0 0, .slice none 0 0, .bool false, .slice none 0 0, .slice none 0 0, .slice none 0 0, .int .i64 0, .int .i64 0, .int .u64 0, .int .i64 0, .int .i64 0, .int .i64 0, .int .i64 0, .int .i64 0, .slice none 0 0, .slice none 0 0, .bool false] 71)) :=
 inStore 71 (bcells r) b [.int .i64 0, .int .i64 0, .int .i64 0, .int .i64 0, .int .i64 0, .int .i64 0, .int .i64 0, .int .i64 0, .int .i64 0, .int .i64 0, .int .i64 0, .slice none 0 0, .slice none 0 0, .slice none 0 0, .slice none 0 0, .bool false, .slice none 0 0, .slice none 0 0, .slice none 0 0, .int .i64 0, .int .i64 0, .int .u64 0, .int .i64 0, .int .i64 0, .int .i64 0, .int .i64 0, .int .i64 0, .slice none 0 0, .slice none 0 0, .bool false] 71 hs hw hb rfl info_bcS (bc_one r) h
end
theorem rg_newB (w : World) (r : Nr) : (w.alloc (.cells #[.int .i64 r.b.fr, .int .i64 r.b.fm, .int .i64 0, .int .i64 0, .int .i64 0, .int .i64 0, .int .i64 0, .int .i64 0, .int .i64 0, .int .i64 0, .int .i64 0, .int .i64 0, .slice r.vu.p r.vu.n r.vu.c, .slice r.vg.p r.vg.n r.vg.c, .slice r.va.p r.va.n r.va.c, .slice none 0 0, .bool false, .slice none 0 0, .slice none 0 0, .slice none 0 0, .int .i64 0, .int .i64 0, .int .u64 0, .int .i64 0, .int .i64 0, .int .i64 0, .int .i64 0, .int .i64 0, .slice none 0 0, .slice none 0 0, .bool false] 86)).rangeAt w.heap.size 1 (bcells r) := fun j v hv => by
 have h := rg_new w r (j + 1) v hv
 rw [Nat.zero_add, Nat.add_comm] at h
 exact h
theorem own_newB (w : World) (r : Nr) : Own (w.alloc (.cells #[.int .i64 r.b.fm, .int .i64 0, .int .i64 0, .int .i64 0, .int .i64 0, .int .i64 0, .int .i64 0, .int .i64 0, .int .i64 0, .int .i64 0, .int .i64 0, .slice r.vu.p r.vu.n r.vu.c, .slice r.vg.p r.vg.n r.vg.c, .slice r.va.p r.va.n r.va.c, .slice none 0 0, .bool false, .slice none 0 0, .slice none 0 0, .slice none 0 0, .int .i64 0, .int .i64 0, .int .u64 0, .int .i64 0, .int .i64 0, .int .i64 0, .int .i64 0, .int .i64 0, .slice none 0 0, .slice none 0 0, .bool false] 71)) w.heap.size (bcells r) 71 := own_at _ _ rfl
end Go.Proofs.YtmopiifamopidaaGreat
end
section
namespace Go.Proofs.YtmopiifamopidaaGreat
open Go.RowKit
attribute [local go_sem] Oper.semAt_some
abbrev OkN (w : World) := { r : Nr // NrOk w r }
def latR (f : Int) (r : Nr) : Bool := latB f r.b
theorem flt_at {f : Int} {l : List Nr} {i : Nat} {d : Nr} (h : l[i]? = some d) : (l.drop i).filter (latR f) = (if latR f d then [d] else []) ++ (l.drop (i + 1)).filter (latR f) := by
 obtain ⟨hl, he⟩ := List.getElem?_eq_some_iff.1 h
 rw [List.drop_eq_getElem_cons hl, he, List.filter_cons]
 cases latR f d <;> rfl
set_option maxRecDepth 100000 in
set_option maxHeartbeats 2000000 in
theorem lat1_in (n l b1 b2 bR : Nat) (v : Value) (L : List Nr) (f : Int) (hf : 0 ≤ f ∧ f ≤ 1000000) (wE : World) (sl : SlN wE v L) (ho : NsOk wE L) (J Jx : List (OkN wE) → World → Prop) (W : World)
  (hJ : AbidesFrom W.heap.size J) (hY : ∀ pre (x : OkN wE) W1, J pre W1 → pre.length < (L.filter (latR f)).length → YieldAt Fence.wide (n - 1) Tryz.prog l #[.agg #[.int .i64 x.1.b.fm, .int .i64 0, .int .i64 0, .int .i64 0, .int .i64 0, .int .i64 0, .int .i64 0, .int .i64 0, .int .i64 0, .int .i64 0, .int .i64 0, .slice x.1.vu.p x.1.vu.n x.1.vu.c, .slice x.1.vg.p x.1.vg.n x.1.vg.c, .slice x.1.va.p x.1.va.n x.1.va.c, .slice none 0 0, .bool false, .slice none 0 0, .slice none 0 0, .slice none 0 0, .int .i64 0, .int .i64 0, .int .u64 0, .int .i64 0, .int .i64 0, .int .i64 0, .int .i64 0, .int .i64 0, .slice none 0 0, .slice none 0 0, .bool false]] W1 fun e W' =>
   (e = .returned (.bool true) ∧ J (pre ++ [x]) W' ∧ KpB wE.heap.size bR W1 W') ∨ (e = .returned (.bool false) ∧ Jx (pre ++ [x]) W'))
  (hE : Below wE.heap.size wE W) (o1 : Own W b1 [v] 56) (o2 : Own W b2 [.int .i64 f] 3) (n2 : b2 ≠ bR) (h0 : J [] W) (hn : 1 ≤ n) :
  CallsIn Fence.wide n Tryz.prog 94 #[.func (.yield l) #[] #[], .pointer (some ⟨b1, 0, none⟩), .pointer (some ⟨b2, 0, none⟩)] W fun e W' => (∃ v, e = .returned v) ∧
   ((∃ xs, xs.map Subtype.val = L.filter (latR f) ∧ J xs W') ∨ (∃ pre, pre.map Subtype.val <+: L.filter (latR f) ∧ Jx pre W')) := by
 obtain ⟨p, cap, e, hlc, hcm, hpn⟩ := sl.form L.length rfl
 subst e
 have SL := Lib.hid sl
 have HO := Lib.hid ho
 unfold maxLen at hcm
 clear hpn sl ho
 have HJ := Lib.hid hJ
 have HY := Lib.hid hY
 have HE := Lib.hid hE
 have O2 := Lib.hid o2
 have J0 := Lib.hid h0
 have c1 := o1.cell (i := 0) rfl
 have z1 := o1.lt
 clear hJ hY hE o1 o2 h0
 obtain ⟨f0, f1⟩ := hf
 have wf : IntKind.i64.wrap (f - 1) = f - 1 := IntWalk.i64_in _ (by omega)
 refine callsIn_of_wp Tryz.func94 rfl trivial ?_ rfl
 simp only [Tryz.ntmps94, List.size_toArray, List.length_cons, List.length_nil, Nat.reduceAdd, Nat.reduceSub, Array.replicate_succ, Array.replicate_zero, List.push_toArray, List.append_toArray, List.nil_append, List.cons_append]
 gi_wp2
 clear c1 z1
 gi_loopw [8] (fun ii wr => ∃ (i : Nat) (pre : List (OkN wE)), ii = .int .i64 i ∧ i ≤ L.length ∧ L.filter (latR f) = pre.map Subtype.val ++ (L.drop i).filter (latR f) ∧ J pre wr ∧ Below wE.heap.size wE wr ∧ Own wr b2 [.int .i64 f] 3 ∧ W.heap.size ≤ wr.heap.size) (fun i _ => L.length - (intOf i).toNat)
 case atStart => exact ⟨0, [], rfl, by omega, rfl, J0.out, HE.out, O2.out, Nat.le_refl _⟩
 case round =>
  clear J0 HE O2
  obtain ⟨i, pre, rfl, hi, hx, hJs, hEr, o2, hsz⟩ := hrel
  have HX := Lib.hid hx
  have J0 := Lib.hid hJs
  have HE := Lib.hid hEr
  have O2 := Lib.hid o2
  clear hx hJs hEr o2
  have j0 : (0 : Int) ≤ (i : Int) := Int.natCast_nonneg _
  by_cases hlt : i < L.length
  ·obtain ⟨d, b, off, hd, rfl, hbl, _, hrg⟩ := SL.out.atN HE.out hlt
   have j1 : (i : Int) < (L.length : Int) := by omega
   have HD := Lib.hid hd
   have HOd := Lib.hid (HO.out.at hd)
   have HR := Lib.hid hrg
   clear hd hrg
   have HL := Lib.hid (flt_at (f := f) HD.out)
   have c2 := O2.out.cell (i := 0) rfl
   have z2 := O2.out.lt
   have J2 := Lib.hid (HJ.out pre wr (wr.alloc (.cells #[.int .i64 d.b.fr, .int .i64 d.b.fm, .int .i64 0, .int .i64 0, .int .i64 0, .int .i64 0, .int .i64 0, .int .i64 0, .int .i64 0, .int .i64 0, .int .i64 0, .int .i64 0, .slice d.vu.p d.vu.n d.vu.c, .slice d.vg.p d.vg.n d.vg.c, .slice d.va.p d.va.n d.va.c, .slice none 0 0, .bool false, .slice none 0 0, .slice none 0 0, .slice none 0 0, .int .i64 0, .int .i64 0, .int .u64 0, .int .i64 0, .int .i64 0, .int .i64 0, .int .i64 0, .int .i64 0, .slice none 0 0, .slice none 0 0, .bool false] 86)) none J0.out (World.grownBy_alloc wr _ none) (fun r e => by cases e))
   have HE2 := Lib.hid (HE.out.trans ((belowNew wr (.cells #[.int .i64 d.b.fr, .int .i64 d.b.fm, .int .i64 0, .int .i64 0, .int .i64 0, .int .i64 0, .int .i64 0, .int .i64 0, .int .i64 0, .int .i64 0, .int .i64 0, .int .i64 0, .slice d.vu.p d.vu.n d.vu.c, .slice d.vg.p d.vg.n d.vg.c, .slice d.va.p d.va.n d.va.c, .slice none 0 0, .bool false, .slice none 0 0, .slice none 0 0, .slice none 0 0, .int .i64 0, .int .i64 0, .int .u64 0, .int .i64 0, .int .i64 0, .int .i64 0, .int .i64 0, .int .i64 0, .slice none 0 0, .slice none 0 0, .bool false] 86)).mono HE.out.size))
   have O22 := Lib.hid (O2.out.below (belowNew wr (.cells #[.int .i64 d.b.fr, .int .i64 d.b.fm, .int .i64 0, .int .i64 0, .int .i64 0, .int .i64 0, .int .i64 0, .int .i64 0, .int .i64 0, .int .i64 0, .int .i64 0, .int .i64 0, .slice d.vu.p d.vu.n d.vu.c, .slice d.vg.p d.vg.n d.vg.c, .slice d.va.p d.va.n d.va.c, .slice none 0 0, .bool false, .slice none 0 0, .slice none 0 0, .slice none 0 0, .int .i64 0, .int .i64 0, .int .u64 0, .int .i64 0, .int .i64 0, .int .i64 0, .int .i64 0, .int .i64 0, .slice none 0 0, .slice none 0 0, .bool false] 86)))
   have hs2 : W.heap.size ≤ (wr.alloc (.cells #[.int .i64 d.b.fr, .int .i64 d.b.fm, .int .i64 0, .int .i64 0, .int .i64 0, .int .i64 0, .int .i64 0, .int .i64 0, .int .i64 0, .int .i64 0, .int .i64 0, .int .i64 0, .slice d.vu.p d.vu.n d.vu.c, .slice d.vg.p d.vg.n d.vg.c, .slice d.va.p d.va.n d.va.c, .slice none 0 0, .bool false, .slice none 0 0, .slice none 0 0, .slice none 0 0, .int .i64 0, .int .i64 0, .int .u64 0, .int .i64 0, .int .i64 0, .int .i64 0, .int .i64 0, .int .i64 0, .slice none 0 0, .slice none 0 0, .bool false] 86)).heap.size := by simp; omega
   cases k1 : d.b.fr == f with
   | true =>
    have HX2 := Lib.hid (show L.filter (latR f) = pre.map Subtype.val ++ d :: (L.drop (i + 1)).filter (latR f) by rw [HX.out, HL.out, if_pos (by simp [latR, latB, *])]; rfl)
    have hlen : pre.length < (L.filter (latR f)).length := by rw [HX2.out]; simp
    obtain ⟨fn, tmps, assign, body, hy, hR⟩ := HY.out pre ⟨d, HOd.out⟩ _ J2.out hlen
    have HRR := Lib.hid hR
    clear hR
    dsimp only at hy
    gi_wp2_with (first | ((with_reducible refine inLoadN d b (off + i * 31) ?_ ?_ HR.out ?_); (next => exact ⟨_, rfl, rfl⟩); (next => rfl)) | ((with_reducible refine inStoreN d wr.heap.size ?_ ?_ ?_ ?_); (next => exact ⟨_, _, rfl, rfl, rfl⟩); (next => rfl); (next => first | rfl | simp)) | ((with_reducible refine inLoadB d wr.heap.size 1 ?_ ?_ (rg_newB wr d) ?_); (next => exact ⟨_, rfl, rfl⟩); (next => rfl)) | fail)
    refine HRR.out.mono ?_
    clear HRR hy c2 z2
    rintro e W4 (⟨rfl, hJ4, hk⟩ | ⟨rfl, hJx⟩)
    ·have J4 := Lib.hid hJ4
     have HE4 := Lib.hid (HE2.out.trans hk.bel)
     have O24 := Lib.hid (hk.own O22.out n2)
     have hs4 : W.heap.size ≤ W4.heap.size := Nat.le_trans hs2 hk.bel.size
     clear hk hJ4
     gi_wp2
     go_roundw
     case rel => exact ⟨i + 1, pre ++ [⟨d, HOd.out⟩], by go_num, by omega, by rw [HX2.out]; simp, J4.out, HE4.out, O24.out, hs4⟩
     case measure => simp [intOf]; omega
    ·gi_wp2
     refine bodyPost_ret (results_none rfl _ _ _) rfl ?_
     exact ⟨⟨_, rfl⟩, .inr ⟨_, ⟨_, (by rw [HX2.out]; simp : (pre ++ [(⟨d, HOd.out⟩ : OkN wE)]).map Subtype.val ++ (L.drop (i + 1)).filter (latR f) = L.filter (latR f))⟩, hJx⟩⟩
   | false =>
    cases k2 : d.b.fr == f - 1 with
    | true =>
     have HX2 := Lib.hid (show L.filter (latR f) = pre.map Subtype.val ++ d :: (L.drop (i + 1)).filter (latR f) by rw [HX.out, HL.out, if_pos (by simp [latR, latB, *])]; rfl)
     have hlen : pre.length < (L.filter (latR f)).length := by rw [HX2.out]; simp
     obtain ⟨fn, tmps, assign, body, hy, hR⟩ := HY.out pre ⟨d, HOd.out⟩ _ J2.out hlen
     have HRR := Lib.hid hR
     clear hR
     dsimp only at hy
     gi_wp2_with (first | ((with_reducible refine inLoadN d b (off + i * 31) ?_ ?_ HR.out ?_); (next => exact ⟨_, rfl, rfl⟩); (next => rfl)) | ((with_reducible refine inStoreN d wr.heap.size ?_ ?_ ?_ ?_); (next => exact ⟨_, _, rfl, rfl, rfl⟩); (next => rfl); (next => first | rfl | simp)) | ((with_reducible refine inLoadB d wr.heap.size 1 ?_ ?_ (rg_newB wr d) ?_); (next => exact ⟨_, rfl, rfl⟩); (next => rfl)) | fail)
     refine HRR.out.mono ?_
     clear HRR hy c2 z2
     rintro e W4 (⟨rfl, hJ4, hk⟩ | ⟨rfl, hJx⟩)
     ·have J4 := Lib.hid hJ4
      have HE4 := Lib.hid (HE2.out.trans hk.bel)
      have O24 := Lib.hid (hk.own O22.out n2)
      have hs4 : W.heap.size ≤ W4.heap.size := Nat.le_trans hs2 hk.bel.size
      clear hk hJ4
      gi_wp2
      go_roundw
      case rel => exact ⟨i + 1, pre ++ [⟨d, HOd.out⟩], by go_num, by omega, by rw [HX2.out]; simp, J4.out, HE4.out, O24.out, hs4⟩
      case measure => simp [intOf]; omega
     ·gi_wp2
      refine bodyPost_ret (results_none rfl _ _ _) rfl ?_
      exact ⟨⟨_, rfl⟩, .inr ⟨_, ⟨_, (by rw [HX2.out]; simp : (pre ++ [(⟨d, HOd.out⟩ : OkN wE)]).map Subtype.val ++ (L.drop (i + 1)).filter (latR f) = L.filter (latR f))⟩, hJx⟩⟩
    | false =>
     have HX2 := Lib.hid (show L.filter (latR f) = pre.map Subtype.val ++ (L.drop (i + 1)).filter (latR f) by rw [HX.out, HL.out, if_neg (by simp [latR, latB, *])]; rfl)
     gi_wp2_with (first | ((with_reducible refine inLoadN d b (off + i * 31) ?_ ?_ HR.out ?_); (next => exact ⟨_, rfl, rfl⟩); (next => rfl)) | ((with_reducible refine inStoreN d wr.heap.size ?_ ?_ ?_ ?_); (next => exact ⟨_, _, rfl, rfl, rfl⟩); (next => rfl); (next => first | rfl | simp)) | ((with_reducible refine inLoadB d wr.heap.size 1 ?_ ?_ (rg_newB wr d) ?_); (next => exact ⟨_, rfl, rfl⟩); (next => rfl)) | fail)
     refine ⟨fun f hf => (by cases hf), ?_⟩
     gi_wp2
     go_roundw
     case rel => exact ⟨i + 1, pre, by go_num, by omega, HX2.out, J2.out, HE2.out, O22.out, hs2⟩
     case measure => simp [intOf]; omega
  ·obtain rfl : i = L.length := by omega
   have HX2 := Lib.hid (show pre.map Subtype.val = L.filter (latR f) by rw [HX.out]; simp)
   gi_wp2
   go_end0
   exact ⟨⟨_, rfl⟩, .inl ⟨pre, HX2.out, J0.out⟩⟩
set_option maxRecDepth 100000 in
set_option maxHeartbeats 2000000 in
theorem lat_any (p : Option Addr) (m cap : Nat) (f : Int) (w : World) : Calls Tryz.prog 61 #[.slice p m cap, .int .i64 f] w fun e w' => e = .returned (.func (.func 94) #[] #[.pointer (some ⟨w.heap.size, 0, none⟩), .pointer (some ⟨w.heap.size + 1, 0, none⟩)]) ∧
  w' = (w.alloc (.cells #[.slice p m cap] 56)).alloc (.cells #[.int .i64 f] 3) := by
 go_enter Tryz.func61, Tryz.ntmps61
 go_wp2
 all_goals (go_ret; exact ⟨rfl, rfl⟩)
theorem lat_stops (n b1 b2 bR : Nat) (v : Value) (L : List Nr) (f : Int) (hf : 0 ≤ f ∧ f ≤ 1000000) (wE w : World) (sl : SlN wE v L) (ho : NsOk wE L) (hE : Below wE.heap.size wE w) (o1 : Own w b1 [v] 56) (o2 : Own w b2 [.int .i64 f] 3) (n2 : b2 ≠ bR) (hn : 1 ≤ n) :
  SeqStopsK Fence.wide n Tryz.prog 94 #[.pointer (some ⟨b1, 0, none⟩), .pointer (some ⟨b2, 0, none⟩)] (fun x : OkN wE => #[.agg #[.int .i64 x.1.b.fm, .int .i64 0, .int .i64 0, .int .i64 0, .int .i64 0, .int .i64 0, .int .i64 0, .int .i64 0, .int .i64 0, .int .i64 0, .int .i64 0, .slice x.1.vu.p x.1.vu.n x.1.vu.c, .slice x.1.vg.p x.1.vg.n x.1.vg.c, .slice x.1.va.p x.1.va.n x.1.va.c, .slice none 0 0, .bool false, .slice none 0 0, .slice none 0 0, .slice none 0 0, .int .i64 0, .int .i64 0, .int .u64 0, .int .i64 0, .int .i64 0, .int .i64 0, .int .i64 0, .int .i64 0, .slice none 0 0, .slice none 0 0, .bool false]]) (KpB wE.heap.size bR) (fun xs => xs.map Subtype.val = L.filter (latR f)) (fun pre => pre.map Subtype.val <+: L.filter (latR f)) (L.filter (latR f)).length w := by
 intro l J Jx W hW hJ _ hY h0
 exact lat1_in n l b1 b2 bR v L f hf wE sl ho J Jx W hJ hY (hE.trans (hW.mono hE.size)) (o1.below hW) (o2.below hW) n2 h0 hn
end Go.Proofs.YtmopiifamopidaaGreat
end
section
namespace Go.Proofs.YtmopiifamopidaaGreat
open Go.RowKit
attribute [local go_sem] Oper.semAt_some
def cgT (gr : Bool) (f cs co : Int) (l : List Gr) : List (Int × Int) := if gr then (l.filter (fun g => (g.s == cs && g.o == co) && decide (f ≤ g.u))).map (fun g => (g.m, g.p)) else []
def cuT (gr : Bool) (fm cs co : Int) (l : List Us) : List (Int × Int) := if gr then [] else (l.filter (fun u => u.s == cs && u.o == co)).map (fun u => (u.m, fm))
def clmN (gr : Bool) (f cs co : Int) (n : Nb) : List (Int × Int) := cgT gr f cs co n.gs ++ cuT gr n.fm cs co n.us
def clmL (gr : Bool) (f cs co : Int) (l : List Nr) : List (Int × Int) := l.flatMap (fun r => clmN gr f cs co r.b)
theorem cgT_step {gr : Bool} {f cs co : Int} {l : List Gr} {i : Nat} {g : Gr} (h : l[i]? = some g) : cgT gr f cs co (l.take (i + 1)) = cgT gr f cs co (l.take i) ++ (if gr && ((g.s == cs && g.o == co) && decide (f ≤ g.u)) then [(g.m, g.p)] else []) := by
 rw [take_snocG h]
 cases gr
 ·simp [cgT]
 ·simp only [cgT, if_true, List.filter_append, List.map_append, List.filter_cons, List.filter_nil, Bool.true_and]
  cases (g.s == cs && g.o == co) && decide (f ≤ g.u) <;> rfl
theorem cuT_step {gr : Bool} {fm cs co : Int} {l : List Us} {i : Nat} {u : Us} (h : l[i]? = some u) : cuT gr fm cs co (l.take (i + 1)) = cuT gr fm cs co (l.take i) ++ (if !gr && (u.s == cs && u.o == co) then [(u.m, fm)] else []) := by
 rw [take_snocG h]
 cases gr
 ·simp only [cuT, if_false, Bool.false_eq_true, List.filter_append, List.map_append, List.filter_cons, List.filter_nil, Bool.not_false, Bool.true_and]
  cases (u.s == cs && u.o == co) <;> rfl
 ·simp [cuT]
theorem clmL_pre {gr : Bool} {f cs co : Int} {a b : List Nr} (h : a <+: b) : clmL gr f cs co a <+: clmL gr f cs co b := by
 obtain ⟨t, rfl⟩ := h; exact ⟨clmL gr f cs co t, by simp [clmL]⟩
theorem clmL_snoc {gr : Bool} {f cs co : Int} {a : List Nr} {x : Nr} : clmL gr f cs co (a ++ [x]) = clmL gr f cs co a ++ (cgT gr f cs co x.b.gs ++ cuT gr x.b.fm cs co x.b.us) := by simp [clmL, clmN]
theorem cgT_pre {gr : Bool} {f cs co : Int} {P U : List (Int × Int)} {l : List Gr} (i : Nat) : P ++ cgT gr f cs co (l.take i) <+: P ++ (cgT gr f cs co l ++ U) := by
 have h : cgT gr f cs co l = cgT gr f cs co (l.take i) ++ cgT gr f cs co (l.drop i) := by
  cases gr
  ·simp [cgT]
  ·simp only [cgT, if_true]; rw [← List.map_append, ← List.filter_append, List.take_append_drop]
 rw [h]; exact ⟨cgT gr f cs co (l.drop i) ++ U, by simp⟩
theorem cuT_pre {gr : Bool} {fm cs co : Int} {P G : List (Int × Int)} {l : List Us} (i : Nat) : P ++ G ++ cuT gr fm cs co (l.take i) <+: P ++ (G ++ cuT gr fm cs co l) := by
 have h : cuT gr fm cs co l = cuT gr fm cs co (l.take i) ++ cuT gr fm cs co (l.drop i) := by
  cases gr
  ·simp only [cuT, Bool.false_eq_true, if_false]; rw [← List.map_append, ← List.filter_append, List.take_append_drop]
  ·simp [cuT]
 rw [h]; exact ⟨cuT gr fm cs co (l.drop i), by simp⟩
def SeqO (n g : Nat) (lb : Array Value) (nE bR : Nat) (S Sp : List (Int × Int) → Prop) (w : World) : Prop :=
 ∀ (l : Nat) (J Jx : List (Int × Int) → World → Prop) (W : World), Below w.heap.size w W → OwnFrom W.heap.size J → OwnFrom W.heap.size Jx →
  (∀ pre (x : Int × Int) W1, J pre W1 → YieldAt Fence.wide (n - 1) Tryz.prog l #[.agg #[.int .i64 x.1, .int .i64 x.2]] W1 fun e W' =>
   (e = .returned (.bool true) ∧ J (pre ++ [x]) W' ∧ KpB nE bR W1 W' ∧ KeepsFrom W.heap.size W1 W') ∨ (e = .returned (.bool false) ∧ Jx (pre ++ [x]) W' ∧ KeepsFrom W.heap.size W1 W')) →
  J [] W →
  CallsIn Fence.wide n Tryz.prog g (#[.func (.yield l) #[] #[]] ++ lb) W fun e W' => (∃ v, e = .returned v) ∧ ((∃ xs, S xs ∧ J xs W') ∨ (∃ pre, Sp pre ∧ Jx pre W'))
theorem yieldAt_wide {m l : Nat} (m' l' : Nat) {P : Program} {args : Array Value} {W : World} {R : Ending → World → Prop} (h : YieldAt Fence.wide m P l args W R) : YieldAt (Fence.wide.inRound l') m' P l args W R := by
 obtain ⟨fn, tmps, assign, body, hy, hR⟩ := h
 exact ⟨fn, tmps, assign, body, hy, trivial, fun c cs _ => hR.2 c cs (room_wide _)⟩
theorem assign1_wp {F : Fence} {n i : Nat} {P : Program} {c : Code} {Q : Exit → Act → World → Prop} {ts : Array Value} {v : Value} {ds : List Deferred} {W : World} (h : c.wpIn F n P Q { tmps := ts.setIfInBounds i v, defers := ds } W) :
  c.wpIn F n P Q { tmps := (#[i].zip #[v]).foldl (fun t (p, v) => t.setIfInBounds p v) ts, defers := ds } W := by
 simpa using h
structure TolI (wE : World) (bR n6 b2 b3 b4 bY l : Nat) (f : Int) (gr : Bool) (cs co : Int) (wr : World) : Prop where
 bel : Below wE.heap.size wE wr
 o2 : Own wr b2 [.int .i64 f] 3
 o3 : Own wr b3 [.bool gr] 4
 o4 : Own wr b4 [.int .i64 cs, .int .i64 co] 48
 oY : Own wr bY [.func (.yield l) #[] #[]] 132
 sz : n6 ≤ wr.heap.size
 n2 : b2 ≠ bR
 n3 : b3 ≠ bR
 n4 : b4 ≠ bR
 nY : bY ≠ bR
theorem TolI.below {wE : World} {bR n6 b2 b3 b4 bY l : Nat} {f : Int} {gr : Bool} {cs co : Int} {A B : World} (h : TolI wE bR n6 b2 b3 b4 bY l f gr cs co A) (k : Below A.heap.size A B) : TolI wE bR n6 b2 b3 b4 bY l f gr cs co B :=
 ⟨h.bel.trans (k.mono h.bel.size), h.o2.below k, h.o3.below k, h.o4.below k, h.oY.below k, Nat.le_trans h.sz k.size, h.n2, h.n3, h.n4, h.nY⟩
theorem TolI.go {wE : World} {bR n6 b2 b3 b4 bY l : Nat} {f : Int} {gr : Bool} {cs co : Int} {A B : World} (h : TolI wE bR n6 b2 b3 b4 bY l f gr cs co A) (k : KpB wE.heap.size bR A B) : TolI wE bR n6 b2 b3 b4 bY l f gr cs co B :=
 ⟨h.bel.trans k.bel, k.own h.o2 h.n2, k.own h.o3 h.n3, k.own h.o4 h.n4, k.own h.oY h.nY, Nat.le_trans h.sz k.bel.size, h.n2, h.n3, h.n4, h.nY⟩
theorem TolI.kept {wE : World} {bR n6 b2 b3 b4 bY l : Nat} {f : Int} {gr : Bool} {cs co : Int} {A B : World} {row : Option Nat} (h : TolI wE bR n6 b2 b3 b4 bY l f gr cs co A) (hn : wE.heap.size ≤ n6) (hg : A.grownBy B row) (hr : ∀ r, row = some r → n6 ≤ r ∧ ∃ o : Obj, A.heap[r]? = some o ∧ o.isCells = false) : TolI wE bR n6 b2 b3 b4 bY l f gr cs co B :=
 have hr' : ∀ r, row = some r → ∃ o : Obj, A.heap[r]? = some o ∧ o.isCells = false := fun r e => (hr r e).2
 ⟨h.bel.grown hg h.bel.size (fun k e => by have := (hr k e).1; omega), own_keptN h.o2 hg hr', own_keptN h.o3 hg hr', own_keptN h.o4 hg hr', own_keptN h.oY hg hr', Nat.le_trans h.sz hg.size, h.n2, h.n3, h.n4, h.nY⟩
structure TolR (wE Wb : World) (bR n6 b2 b3 b4 bY Bx l : Nat) (f : Int) (gr : Bool) (cs co : Int) (x : Nr) (wr : World) : Prop where
 ti : TolI wE bR n6 b2 b3 b4 bY l f gr cs co wr
 ob : Own wr Bx (bcells x) 71
 kp : KpB wE.heap.size bR Wb wr
 kf : KeepsFrom n6 Wb wr
 nB : Bx ≠ bR
theorem TolR.below {wE Wb : World} {bR n6 b2 b3 b4 bY Bx l : Nat} {f : Int} {gr : Bool} {cs co : Int} {x : Nr} {A B : World} (h : TolR wE Wb bR n6 b2 b3 b4 bY Bx l f gr cs co x A) (k : Below A.heap.size A B) : TolR wE Wb bR n6 b2 b3 b4 bY Bx l f gr cs co x B :=
 ⟨h.ti.below k, h.ob.below k, h.kp.trans (KpB.below k h.ti.bel.size), h.kf.after (KeepsFrom.ofBelow k), h.nB⟩
theorem TolR.go {wE Wb : World} {bR n6 b2 b3 b4 bY Bx l : Nat} {f : Int} {gr : Bool} {cs co : Int} {x : Nr} {A B : World} (h : TolR wE Wb bR n6 b2 b3 b4 bY Bx l f gr cs co x A) (k : KpB wE.heap.size bR A B) (kf : KeepsFrom n6 A B) : TolR wE Wb bR n6 b2 b3 b4 bY Bx l f gr cs co x B :=
 ⟨h.ti.go k, k.own h.ob h.nB, h.kp.trans k, h.kf.after kf, h.nB⟩
set_option maxRecDepth 100000 in
set_option maxHeartbeats 20000000 in
theorem tol1_in (n l b1 b2 b3 b4 bR : Nat) (v : Value) (L : List Nr) (f : Int) (gr : Bool) (cs co : Int) (hf : 0 ≤ f ∧ f ≤ 1000000) (wE : World) (sl : SlN wE v L) (ho : NsOk wE L) (J Jx : List (Int × Int) → World → Prop) (W : World)
  (hJ : OwnFrom W.heap.size J) (hJx : OwnFrom W.heap.size Jx) (hY : ∀ pre (x : Int × Int) W1, J pre W1 → YieldAt Fence.wide (n - 1) Tryz.prog l #[.agg #[.int .i64 x.1, .int .i64 x.2]] W1 fun e W' =>
   (e = .returned (.bool true) ∧ J (pre ++ [x]) W' ∧ KpB wE.heap.size bR W1 W' ∧ KeepsFrom W.heap.size W1 W') ∨ (e = .returned (.bool false) ∧ Jx (pre ++ [x]) W' ∧ KeepsFrom W.heap.size W1 W'))
  (hE : Below wE.heap.size wE W) (o1 : Own W b1 [v] 56) (o2 : Own W b2 [.int .i64 f] 3) (o3 : Own W b3 [.bool gr] 4) (o4 : Own W b4 [.int .i64 cs, .int .i64 co] 48) (n2 : b2 ≠ bR) (n3 : b3 ≠ bR) (n4 : b4 ≠ bR) (nR : bR < W.heap.size) (h0 : J [] W) (hn : 5 ≤ n) :
  CallsIn Fence.wide n Tryz.prog 60 #[.func (.yield l) #[] #[], .pointer (some ⟨b1, 0, none⟩), .pointer (some ⟨b2, 0, none⟩), .pointer (some ⟨b3, 0, none⟩), .pointer (some ⟨b4, 0, none⟩)] W fun e W' => (∃ v, e = .returned v) ∧
   ((∃ xs, xs = clmL gr f cs co (L.filter (latR f)) ∧ J xs W') ∨ (∃ pre, pre <+: clmL gr f cs co (L.filter (latR f)) ∧ Jx pre W')) := by
 obtain ⟨p, cap, e, hlc, hcm, hpn⟩ := sl.form L.length rfl
 subst e
 have SL := Lib.hid sl
 have HO := Lib.hid ho
 unfold maxLen at hcm
 clear hpn sl ho
 have HJ := Lib.hid hJ
 have HJX := Lib.hid hJx
 have HY := Lib.hid hY
 have J0 := Lib.hid h0
 have c1 := o1.cell (i := 0) rfl
 have z1 := o1.lt
 have c2 := o2.cell (i := 0) rfl
 have z2 := o2.lt
 have O2 := Lib.hid o2
 have O3 := Lib.hid o3
 have O4 := Lib.hid o4
 have HE := Lib.hid hE
 clear hJ hJx hY o1 o2 o3 o4 h0 hE
 have HF := Lib.hid hf
 clear hf
 refine callsIn_of_wp_marks Tryz.func60 rfl trivial ?_ rfl
 simp only [Tryz.ntmps60, List.size_toArray, List.length_cons, List.length_nil, Nat.reduceAdd, Nat.reduceSub, Array.replicate_succ, Array.replicate_zero, List.push_toArray, List.append_toArray, List.nil_append, List.cons_append]
 refine wpIn_wide.2 ?_
 go_wp2_with (first | (go_at_call 61; refine (lat_any p L.length cap f _).mono ?_; rintro e W6 ⟨rfl, rfl⟩) | fail)
 clear c1 z1 c2 z2
 have hb6 : Below W.heap.size W (((W.alloc (.cells #[.func (.yield l) #[] #[]] 132)).alloc (.cells #[.slice p L.length cap] 56)).alloc (.cells #[.int .i64 f] 3)) := ((belowNew W (.cells #[.func (.yield l) #[] #[]] 132)).trans ((belowNew _ (.cells #[.slice p L.length cap] 56)).mono (by simp))).trans ((belowNew _ (.cells #[.int .i64 f] 3)).mono (by simp; omega))
 obtain ⟨bY, hbY⟩ : ∃ bY, W.heap.size = bY := ⟨_, rfl⟩
 have hs6 : (((W.alloc (.cells #[.func (.yield l) #[] #[]] 132)).alloc (.cells #[.slice p L.length cap] 56)).alloc (.cells #[.int .i64 f] 3)).heap.size = bY + 3 := by simp [hbY]
 have OY := Lib.hid (show Own (((W.alloc (.cells #[.func (.yield l) #[] #[]] 132)).alloc (.cells #[.slice p L.length cap] 56)).alloc (.cells #[.int .i64 f] 3)) bY [.func (.yield l) #[] #[]] 132 from (((own_at _ _ hbY.symm).alloc _).alloc _))
 have P1 := Lib.hid (show Own (((W.alloc (.cells #[.func (.yield l) #[] #[]] 132)).alloc (.cells #[.slice p L.length cap] 56)).alloc (.cells #[.int .i64 f] 3)) (bY + 1) [.slice p L.length cap] 56 from ((own_at _ _ (by simp [hbY])).alloc _))
 have P2 := Lib.hid (show Own (((W.alloc (.cells #[.func (.yield l) #[] #[]] 132)).alloc (.cells #[.slice p L.length cap] 56)).alloc (.cells #[.int .i64 f] 3)) (bY + 1 + 1) [.int .i64 f] 3 from (own_at _ _ (by simp [hbY])))
 have hEs := HE.out.size
 rw [hbY] at HY HJ HJX nR hb6 hEs
 have TI := Lib.hid (show TolI wE bR (bY + 3) b2 b3 b4 bY l f gr cs co (((W.alloc (.cells #[.func (.yield l) #[] #[]] 132)).alloc (.cells #[.slice p L.length cap] 56)).alloc (.cells #[.int .i64 f] 3)) from ⟨HE.out.trans (hb6.mono hEs), O2.out.below (hbY ▸ hb6), O3.out.below (hbY ▸ hb6), O4.out.below (hbY ▸ hb6), OY.out, by rw [hs6]; exact Nat.le_refl _, n2, n3, n4, by omega⟩)
 have J6 := Lib.hid (show J [] (((W.alloc (.cells #[.func (.yield l) #[] #[]] 132)).alloc (.cells #[.slice p L.length cap] 56)).alloc (.cells #[.int .i64 f] 3)) from HJ.out [] _ _ none (HJ.out [] _ _ none (HJ.out [] _ _ none J0.out (World.grownBy_alloc _ _ none) (fun r e => by cases e)) (World.grownBy_alloc _ _ none) (fun r e => by cases e)) (World.grownBy_alloc _ _ none) (fun r e => by cases e))
 try rw [hbY]
 clear J0 HE O2 O3 O4 OY hb6
 generalize (((W.alloc (.cells #[.func (.yield l) #[] #[]] 132)).alloc (.cells #[.slice p L.length cap] 56)).alloc (.cells #[.int .i64 f] 3)) = W6 at TI J6 P1 P2 hs6 ⊢
 refine (wpIn_wide (n := n)).1 ?_
 refine wpIn_rangeFunc_ownH rfl (by omega) (gf := 94) (lb := #[.pointer (some ⟨(bY + 1), 0, none⟩), .pointer (some ⟨(bY + 1 + 1), 0, none⟩)]) rfl trivial (enters_of Tryz.func94 (by kernel_rfl) rfl) (lat_stops (n - 1) (bY + 1) (bY + 1 + 1) bR _ L f HF.out wE W6 SL.out HO.out TI.out.bel P1.out P2.out (by omega) (by omega)) (fun h k => h.trans k) (KpB.put (by omega)) (Below.refl _ _) (fun _ => rfl) (fun (pre : List (OkN wE)) W' => J (clmL gr f cs co (pre.map Subtype.val)) W' ∧ TolI wE bR (bY + 3) b2 b3 b4 bY l f gr cs co W') (fun c pre W' => c = .ret ∧ ∃ q, q <+: clmL gr f cs co (pre.map Subtype.val) ∧ Jx q W') ?hI ?hIx ?h0 (fun (x : OkN wE) a' W' => ∃ Bx : Nat, Own W' Bx (bcells x.1) 71 ∧ bY + 3 ≤ Bx ∧ a' = { tmps := #[.func (.yield l) #[] #[], .pointer (some ⟨b1, 0, none⟩), .pointer (some ⟨b2, 0, none⟩), .pointer (some ⟨b3, 0, none⟩), .pointer (some ⟨b4, 0, none⟩), .pointer (some ⟨bY, 0, none⟩), .pointer (some ⟨Bx, 0, none⟩), undef, undef, undef, undef, .slice p L.length cap, .int .i64 f, .func (.func 94) #[] #[.pointer (some ⟨(bY + 1), 0, none⟩), .pointer (some ⟨(bY + 1 + 1), 0, none⟩)], .agg #[.int .i64 x.1.b.fm, .int .i64 0, .int .i64 0, .int .i64 0, .int .i64 0, .int .i64 0, .int .i64 0, .int .i64 0, .int .i64 0, .int .i64 0, .int .i64 0, .slice x.1.vu.p x.1.vu.n x.1.vu.c, .slice x.1.vg.p x.1.vg.n x.1.vg.c, .slice x.1.va.p x.1.va.n x.1.va.c, .slice none 0 0, .bool false, .slice none 0 0, .slice none 0 0, .slice none 0 0, .int .i64 0, .int .i64 0, .int .u64 0, .int .i64 0, .int .i64 0, .int .i64 0, .int .i64 0, .int .i64 0, .slice none 0 0, .slice none 0 0, .bool false], undef, undef, undef, undef, undef, undef, undef, undef, undef, undef, undef, undef, undef, undef, undef, undef, undef, undef, undef, undef, undef, undef, undef, undef, undef, undef, undef, undef, undef, undef, undef, undef, undef, undef, undef, undef, undef, undef, undef, undef, undef, undef, undef, undef, undef, undef, undef, undef, undef, undef, undef, undef, undef, undef, undef, undef, undef], defers := [] }) ?hAx ?assign ?body ?done ?stop
 case hI =>
  rintro s A B row ⟨hj, ti⟩ hg hr
  rw [hs6] at hr
  exact ⟨HJ.out _ _ _ _ hj hg (fun r e => ⟨by have := (hr r e).1; omega, (hr r e).2⟩), ti.kept (by omega) hg hr⟩
 case hIx =>
  rintro c s A B row ⟨hc, q, hp, hj⟩ hg hr
  rw [hs6] at hr
  exact ⟨hc, q, hp, HJX.out _ _ _ _ hj hg (fun r e => ⟨by have := (hr r e).1; omega, (hr r e).2⟩)⟩
 case h0 => exact ⟨J6.out, TI.out⟩
 case hAx =>
  rintro x a' _ A B row ⟨Bx, e1, e2, e3⟩ hg hr
  exact ⟨Bx, own_keptN e1 hg (fun r e => (hr r e).2), e2, e3⟩
 case assign =>
  as_aux_lemma =>
  rintro l' pre x Wa K ⟨hj, ti⟩ hK
  refine assign1_wp ?_
  simp only [List.setIfInBounds_toArray, List.set_cons_succ, List.set_cons_zero]
  refine wpIn_region_lit ?_
  refine BigFrame.wpListIn_want rfl fun K2 hK2 => ?_
  gi_step
  refine hK2 _ _ ?_
  refine inStoreB x.1 _ ⟨_, _, rfl, rfl, rfl⟩ rfl rfl ?_
  refine wpListIn_nil ?_
  refine hK _ _ ((KeepsOthers.alloc _ _).from _) (KpB.below (belowNew _ _) ti.bel.size) ⟨HJ.out _ _ _ none hj (World.grownBy_alloc _ _ none) (fun r e => by cases e), ti.below (belowNew _ _)⟩ ⟨Wa.heap.size, own_newB _ _, ti.sz, rfl⟩
 case stop =>
  rintro D c' pre W' hD hsp ⟨rfl, q, hp, hj⟩ hK
  have HK2 := hK
  gi_wp2
  (try rw [Exit.noGoto_ret])
  refine ⟨by simp, .inl ⟨_, _, rfl, run_takeDeferred HK2, ?_⟩⟩
  exact ⟨_, results_none rfl _ _ _, ⟨_, rfl⟩, .inr ⟨q, hp.trans (clmL_pre hsp), HJX.out.putObj _ hj (by omega) HK2 rfl⟩⟩
 case done =>
  rintro D ys W' hD hys ⟨hj, ti⟩ hK
  have HK2 := hK
  gi_wp2
  refine ⟨by simp, .inl ⟨_, _, rfl, run_takeDeferred HK2, ?_⟩⟩
  exact ⟨_, results_none rfl _ _ _, ⟨_, rfl⟩, .inl ⟨_, rfl, by rw [← hys]; exact HJ.out.putObj _ hj (by omega) HK2 rfl⟩⟩
 case body =>
  as_aux_lemma =>
  rintro l' pre x a' Wb hl hr ⟨hj, ti⟩ ⟨Bx, ob, hBx, rfl⟩ hlt
  obtain ⟨⟨bb, ⟨pu, nu, cu⟩, ⟨pg, ng, cg⟩, ⟨pa, na, ca⟩⟩, hk⟩ := x
  dsimp only at ob hk ⊢
  have SG := Lib.hid (show SlG wE (.slice pg ng cg) bb.gs from hk.2.1)
  have SU := Lib.hid (show SlU wE (.slice pu nu cu) bb.us from hk.1)
  obtain ⟨_, _, eg, hgc, hgm, _⟩ := SG.out.form bb.gs.length rfl
  obtain ⟨_, _, eu, huc, hum, _⟩ := SU.out.form bb.us.length rfl
  injection eg with eg1 eg2 eg3
  injection eu with eu1 eu2 eu3
  subst eg1 eg2 eg3 eu1 eu2 eu3
  unfold maxLen at hgm hum
  have T0 := Lib.hid (show TolR wE Wb bR (bY + 3) b2 b3 b4 bY Bx l f gr cs co _ Wb from ⟨ti, ob, KpB.refl _ _ _, KeepsFrom.self, by omega⟩)
  have J0 := Lib.hid (show J (clmL gr f cs co (pre.map Subtype.val) ++ cgT gr f cs co (bb.gs.take 0)) Wb by simpa [cgT] using hj)
  have k12 := ob.cell (i := 12) rfl
  have zB := ob.lt
  clear hj ti ob hlt hr TI J6 P1 P2
  gi_wp2
  clear k12 zB
  gi_loopw [18] (fun ii wr => ∃ (i : Nat), ii = .int .i64 i ∧ i ≤ bb.gs.length ∧ J (clmL gr f cs co (pre.map Subtype.val) ++ cgT gr f cs co (bb.gs.take i)) wr ∧ TolR wE Wb bR (bY + 3) b2 b3 b4 bY Bx l f gr cs co ⟨bb, ⟨pu, bb.us.length, cu⟩, ⟨pg, bb.gs.length, cg⟩, ⟨pa, na, ca⟩⟩ wr) (fun i _ => bb.gs.length - (intOf i).toNat)
  case atStart => exact ⟨0, rfl, by omega, J0.out, T0.out⟩
  case round =>
   clear T0 J0
   obtain ⟨i, rfl, hi, hj, ht⟩ := hrel
   have J0 := Lib.hid hj
   have T0 := Lib.hid ht
   clear hj ht
   have j0 : (0 : Int) ≤ (i : Int) := Int.natCast_nonneg _
   by_cases hlt : i < bb.gs.length
   ·obtain ⟨g, bg, off, hg, rfl, hbl, _, e0, e1, e2, e3, e4⟩ := SG.out.atG T0.out.ti.bel hlt
    have j1 : (i : Int) < (bb.gs.length : Int) := by omega
    have HG := Lib.hid (cgT_step (gr := gr) (f := f) (cs := cs) (co := co) hg)
    have T2 := Lib.hid (T0.out.below (belowNew wr (Obj.cells #[.int .i64 g.s, .int .i64 g.o, .int .i64 g.p, .int .i64 g.m, .int .i64 g.u] 52)))
    have J2 := Lib.hid (HJ.out _ _ (wr.alloc (Obj.cells #[.int .i64 g.s, .int .i64 g.o, .int .i64 g.p, .int .i64 g.m, .int .i64 g.u] 52)) none J0.out (World.grownBy_alloc _ _ none) (fun r e => by cases e))
    have c3 := T0.out.ti.o3.cell (i := 0) rfl
    have z3 := T0.out.ti.o3.lt
    have c40 := T0.out.ti.o4.cell (i := 0) rfl
    have c41 := T0.out.ti.o4.cell (i := 1) rfl
    have z4 := T0.out.ti.o4.lt
    have cY := T0.out.ti.oY.cell (i := 0) rfl
    have zY := T0.out.ti.oY.lt
    have c2 := T0.out.ti.o2.cell (i := 0) rfl
    have z2 := T0.out.ti.o2.lt
    have qe := eq_cell g.s g.o cs co
    clear hg
    cases gr with
    | false =>
     have HG2 := Lib.hid (show cgT false f cs co (bb.gs.take (i + 1)) = cgT false f cs co (bb.gs.take i) by rw [HG.out]; simp [*])
     gi_wp2
     all_goals first | (refine ⟨fun f hf => (by cases hf), ?_⟩; gi_wp2) | skip
     go_roundw
     case rel => exact ⟨i + 1, by go_num, by omega, by rw [HG2.out]; exact J2.out, T2.out⟩
     case measure => simp [intOf]; omega
    | true =>
     cases hq : (g.s == cs && g.o == co) with
     | false =>
      rw [hq] at qe
      have HG2 := Lib.hid (show cgT true f cs co (bb.gs.take (i + 1)) = cgT true f cs co (bb.gs.take i) by rw [HG.out]; simp [*])
      gi_wp2
      all_goals first | (refine ⟨fun f hf => (by cases hf), ?_⟩; gi_wp2) | skip
      go_roundw
      case rel => exact ⟨i + 1, by go_num, by omega, by rw [HG2.out]; exact J2.out, T2.out⟩
      case measure => simp [intOf]; omega
     | true =>
      rw [hq] at qe
      cases hu : decide (f ≤ g.u) with
      | false =>
       have HG2 := Lib.hid (show cgT true f cs co (bb.gs.take (i + 1)) = cgT true f cs co (bb.gs.take i) by rw [HG.out]; simp [*])
       gi_wp2
       all_goals first | (refine ⟨fun f hf => (by cases hf), ?_⟩; gi_wp2) | skip
       go_roundw
       case rel => exact ⟨i + 1, by go_num, by omega, by rw [HG2.out]; exact J2.out, T2.out⟩
       case measure => simp [intOf]; omega
      | true =>
       obtain ⟨fn, tmps, assign, body, hy, hR⟩ := yieldAt_wide (n - 1 - 1 - 1) l' (HY.out _ (g.m, g.p) _ J2.out)
       have HRR := Lib.hid hR
       clear hR
       dsimp only at hy
       gi_wp2
       refine ⟨fun _ => (by omega), HRR.out.mono ?_⟩
       clear HRR hy
       rintro e W4 (⟨rfl, hJ4, hk4, hf4⟩ | ⟨rfl, hJx, hf4⟩)
       ·have J4 := Lib.hid hJ4
        have T4 := Lib.hid (T2.out.go hk4 (hf4.up (by omega)))
        clear hk4 hJ4 hf4
        gi_wp2
        go_roundw
        case rel => exact ⟨i + 1, by go_num, by omega, by rw [HG.out]; simpa [*, List.append_assoc] using J4.out, T4.out⟩
        case measure => simp [intOf]; omega
       ·gi_wp2
        try rw [Exit.noGoto_ret]
        exact ⟨by rw [hs6]; exact T2.out.kf.after (hf4.up (by omega)), rfl, _, by have h9 := cgT_pre (gr := true) (f := f) (cs := cs) (co := co) (P := clmL true f cs co (pre.map Subtype.val)) (U := cuT true bb.fm cs co bb.us) (l := bb.gs) (i + 1); rw [HG.out] at h9; rw [List.map_append, List.map_singleton, clmL_snoc]; simpa [*, List.append_assoc] using h9, hJx⟩
   ·obtain rfl : i = bb.gs.length := by omega
    rw [List.take_length] at J0
    have J1 := Lib.hid (show J (clmL gr f cs co (pre.map Subtype.val) ++ cgT gr f cs co bb.gs ++ cuT gr bb.fm cs co (bb.us.take 0)) wr by simpa [cuT] using J0.out)
    have T1 := Lib.hid T0.out
    have k11 := T0.out.ob.cell (i := 11) rfl
    have zB := T0.out.ob.lt
    gi_wp2
    clear k11 zB T0 J0
    gi_loopw [49] (fun ii wr => ∃ (i : Nat), ii = .int .i64 i ∧ i ≤ bb.us.length ∧ J (clmL gr f cs co (pre.map Subtype.val) ++ cgT gr f cs co bb.gs ++ cuT gr bb.fm cs co (bb.us.take i)) wr ∧ TolR wE Wb bR (bY + 3) b2 b3 b4 bY Bx l f gr cs co ⟨bb, ⟨pu, bb.us.length, cu⟩, ⟨pg, bb.gs.length, cg⟩, ⟨pa, na, ca⟩⟩ wr) (fun i _ => bb.us.length - (intOf i).toNat)
    case atStart => exact ⟨0, rfl, by omega, J1.out, T1.out⟩
    case round =>
     clear T1 J1
     obtain ⟨i, rfl, hi, hj, ht⟩ := hrel
     have J0 := Lib.hid hj
     have T0 := Lib.hid ht
     clear hj ht
     have j0 : (0 : Int) ≤ (i : Int) := Int.natCast_nonneg _
     by_cases hlt : i < bb.us.length
     ·obtain ⟨g, bg, off, hg, rfl, hbl, _, e0, e1, e2, e3⟩ := SU.out.atU T0.out.ti.bel hlt
      have j1 : (i : Int) < (bb.us.length : Int) := by omega
      have HG := Lib.hid (cuT_step (gr := gr) (fm := bb.fm) (cs := cs) (co := co) hg)
      have T2 := Lib.hid (T0.out.below (belowNew wr (Obj.cells #[.int .i64 g.s, .int .i64 g.o, .int .i64 g.p, .int .i64 g.m] 50)))
      have J2 := Lib.hid (HJ.out _ _ (wr.alloc (Obj.cells #[.int .i64 g.s, .int .i64 g.o, .int .i64 g.p, .int .i64 g.m] 50)) none J0.out (World.grownBy_alloc _ _ none) (fun r e => by cases e))
      have c3 := T0.out.ti.o3.cell (i := 0) rfl
      have z3 := T0.out.ti.o3.lt
      have c40 := T0.out.ti.o4.cell (i := 0) rfl
      have c41 := T0.out.ti.o4.cell (i := 1) rfl
      have z4 := T0.out.ti.o4.lt
      have cY := T0.out.ti.oY.cell (i := 0) rfl
      have zY := T0.out.ti.oY.lt
      have kB := T0.out.ob.cell (i := 0) rfl
      have zB := T0.out.ob.lt
      have qe := eq_cell g.s g.o cs co
      clear hg
      cases gr with
      | true =>
       have HG2 := Lib.hid (show cuT true bb.fm cs co (bb.us.take (i + 1)) = cuT true bb.fm cs co (bb.us.take i) by rw [HG.out]; simp [*])
       gi_wp2
       all_goals first | (refine ⟨fun f hf => (by cases hf), ?_⟩; gi_wp2) | skip
       go_roundw
       case rel => exact ⟨i + 1, by go_num, by omega, by rw [HG2.out]; exact J2.out, T2.out⟩
       case measure => simp [intOf]; omega
      | false =>
       cases hq : (g.s == cs && g.o == co) with
       | false =>
        rw [hq] at qe
        have HG2 := Lib.hid (show cuT false bb.fm cs co (bb.us.take (i + 1)) = cuT false bb.fm cs co (bb.us.take i) by rw [HG.out]; simp [*])
        gi_wp2
        all_goals first | (refine ⟨fun f hf => (by cases hf), ?_⟩; gi_wp2) | skip
        go_roundw
        case rel => exact ⟨i + 1, by go_num, by omega, by rw [HG2.out]; exact J2.out, T2.out⟩
        case measure => simp [intOf]; omega
       | true =>
        rw [hq] at qe
        obtain ⟨fn, tmps, assign, body, hy, hR⟩ := yieldAt_wide (n - 1 - 1 - 1) l' (HY.out _ (g.m, bb.fm) _ J2.out)
        have HRR := Lib.hid hR
        clear hR
        dsimp only at hy
        gi_wp2
        refine ⟨fun _ => (by omega), HRR.out.mono ?_⟩
        clear HRR hy
        rintro e W4 (⟨rfl, hJ4, hk4, hf4⟩ | ⟨rfl, hJx, hf4⟩)
        ·have J4 := Lib.hid hJ4
         have T4 := Lib.hid (T2.out.go hk4 (hf4.up (by omega)))
         clear hk4 hJ4 hf4
         gi_wp2
         go_roundw
         case rel => exact ⟨i + 1, by go_num, by omega, by rw [HG.out]; simpa [*, List.append_assoc] using J4.out, T4.out⟩
         case measure => simp [intOf]; omega
        ·gi_wp2
         try rw [Exit.noGoto_ret]
         exact ⟨by rw [hs6]; exact T2.out.kf.after (hf4.up (by omega)), rfl, _, by have h9 := cuT_pre (gr := false) (fm := bb.fm) (cs := cs) (co := co) (P := clmL false f cs co (pre.map Subtype.val)) (G := cgT false f cs co bb.gs) (l := bb.us) (i + 1); rw [HG.out] at h9; rw [List.map_append, List.map_singleton, clmL_snoc]; simpa [*, List.append_assoc] using h9, hJx⟩
     ·obtain rfl : i = bb.us.length := by omega
      rw [List.take_length] at J0
      gi_wp2
      exact ⟨by rw [hs6]; exact T0.out.kf, T0.out.kp, by simpa [clmL, clmN, List.append_assoc] using J0.out, T0.out.ti⟩
set_option maxRecDepth 100000 in
set_option maxHeartbeats 2000000 in
theorem tol_any (p : Option Addr) (m cap : Nat) (f cs co : Int) (gr : Bool) (w : World) : Calls Tryz.prog 26 #[.slice p m cap, .int .i64 f, .agg #[.int .i64 cs, .int .i64 co], .bool gr] w fun e w' => e = .returned (.func (.func 60) #[] #[.pointer (some ⟨w.heap.size, 0, none⟩), .pointer (some ⟨w.heap.size + 1, 0, none⟩), .pointer (some ⟨w.heap.size + 3, 0, none⟩), .pointer (some ⟨w.heap.size + 2, 0, none⟩)]) ∧
  w' = (((w.alloc (.cells #[.slice p m cap] 56)).alloc (.cells #[.int .i64 f] 3)).alloc (.cells #[.int .i64 cs, .int .i64 co] 48)).alloc (.cells #[.bool gr] 4) := by
 go_enter Tryz.func26, Tryz.ntmps26
 go_wp2
 all_goals (go_ret; exact ⟨rfl, rfl⟩)
theorem tol_stops (n b1 b2 b3 b4 bR : Nat) (v : Value) (L : List Nr) (f : Int) (gr : Bool) (cs co : Int) (hf : 0 ≤ f ∧ f ≤ 1000000) (wE w : World) (sl : SlN wE v L) (ho : NsOk wE L) (hE : Below wE.heap.size wE w) (o1 : Own w b1 [v] 56) (o2 : Own w b2 [.int .i64 f] 3) (o3 : Own w b3 [.bool gr] 4) (o4 : Own w b4 [.int .i64 cs, .int .i64 co] 48) (n2 : b2 ≠ bR) (n3 : b3 ≠ bR) (n4 : b4 ≠ bR) (nR : bR < w.heap.size) (hn : 5 ≤ n) :
  SeqO n 60 #[.pointer (some ⟨b1, 0, none⟩), .pointer (some ⟨b2, 0, none⟩), .pointer (some ⟨b3, 0, none⟩), .pointer (some ⟨b4, 0, none⟩)] wE.heap.size bR (fun xs => xs = clmL gr f cs co (L.filter (latR f))) (fun pre => pre <+: clmL gr f cs co (L.filter (latR f))) w := by
 intro l J Jx W hW hJ hJx hY h0
 exact tol1_in n l b1 b2 b3 b4 bR v L f gr cs co hf wE sl ho J Jx W hJ hJx hY (hE.trans (hW.mono hE.size)) (o1.below hW) (o2.below hW) (o3.below hW) (o4.below hW) n2 n3 n4 (Nat.lt_of_lt_of_le nR hW.size) h0 hn
end Go.Proofs.YtmopiifamopidaaGreat
end
section
namespace Go.Proofs.YtmopiifamopidaaGreat
open Go.RowKit
theorem put_kf {B l : Nat} {W : World} {o : Obj} (h : l < B) : KeepsFrom B W (W.putObj l o) := ⟨by rw [World.putObj_size]; exact Nat.le_refl _, fun k _ hk h1 _ => (World.putObj_heap_other (by omega)).trans h1⟩
def RecAt (D : Nat) (r : Loop) (W : World) : Prop := W.heap[D + 1]? = some (.loop r) ∧ W.heap[D]? = some (.deferred (some []))
theorem RecAt.kept {D : Nat} {r : Loop} {A B : World} {row : Option Nat} (h : RecAt D r A) (hg : A.grownBy B row) (hr : ∀ x, row = some x → D + 2 ≤ x) : RecAt D r B :=
 ⟨(hg.block _ (Array.getElem?_eq_some_iff.1 h.1).1 (fun e => by have := hr _ e.symm; omega)).trans h.1, (hg.block _ (Array.getElem?_eq_some_iff.1 h.2).1 (fun e => by have := hr _ e.symm; omega)).trans h.2⟩
theorem RecAt.from {D : Nat} {r : Loop} {A B : World} (h : RecAt D r A) (k : KeepsFrom D A B) : RecAt D r B := ⟨k.same _ _ (by omega) h.1 rfl, k.same _ _ (Nat.le_refl _) h.2 rfl⟩
theorem RecAt.put {D : Nat} {r r' : Loop} {A : World} (h : RecAt D r A) : RecAt D r' (A.putObj (D + 1) (.loop r')) := ⟨World.putObj_heap_same (Array.getElem?_eq_some_iff.1 h.1).1, (World.putObj_heap_other (by omega)).trans h.2⟩
theorem rangeO {g : Operand} {ps : Array Tmp} {assign body : Code} {Q : Exit → Act → World → Prop} {a : Act} {w : World} {n : Nat} (h1 : 1 ≤ n)
  {gf : Nat} {lb : Array Value} (hg : a.eval g = .func (.func gf) #[] lb) (eg : ∀ args w, (callFunc gf args).run Tryz.prog w = .ok (.enter gf args) w)
  {nE bR : Nat} {S Sp : List (Int × Int) → Prop} {w0 : World} (hseq : SeqO (n - 1) gf lb nE bR S Sp w0) (hnE : nE ≤ w.heap.size) (hb0 : Below w0.heap.size w0 w) (hps : ps.size = 1)
  (I : List (Int × Int) → World → Prop) (Ix : Code → List (Int × Int) → World → Prop) (hI : OwnFrom w.heap.size I) (hIx : ∀ c, OwnFrom w.heap.size (Ix c)) (h0 : I [] w) (Ax : Int × Int → Act → World → Prop) (hAx : ∀ x a', OwnFrom w.heap.size (fun (_ : Unit) W => Ax x a' W))
  (hassign : ∀ (l : Nat) (pre : List (Int × Int)) (x : Int × Int) (W : World) (K : Act → World → Prop), I pre W → (∀ a' W', KeepsFrom w.heap.size W W' → KpB nE bR W W' → I pre W' → Ax x a' W' → K a' W') →
   assign.wpIn (Fence.wide.inRound l) (n - 1 - 1) Tryz.prog (Exit.then K (fun _ _ _ => False)) { tmps := (ps.zip #[.agg #[.int .i64 x.1, .int .i64 x.2]]).foldl (fun t (p, v) => t.setIfInBounds p v) a.tmps, defers := [] } W)
  (hbody : ∀ (l : Nat) (pre : List (Int × Int)) (x : Int × Int) (a' : Act) (W : World), I pre W → Ax x a' W → body.wpIn (Fence.wide.inRound l) (n - 1 - 1) Tryz.prog (ownPostG w.heap.size (KpB nE bR) I Ix (pre ++ [x]) W) a' W)
  (hdone : ∀ (D : Nat) (xs : List (Int × Int)) (W : World), w.heap.size ≤ D → S xs → I xs W → W.heap[D]? = some (.deferred (some [])) → Q .normal { a with defers := { target := .collected D, args := #[] } :: a.defers } W)
  (hstop : ∀ (D : Nat) (c : Code) (pre : List (Int × Int)) (W : World), w.heap.size ≤ D → Sp pre → Ix c pre W → W.heap[D]? = some (.deferred (some [])) → c.wpIn Fence.wide n Tryz.prog Q { a with defers := { target := .collected D, args := #[] } :: a.defers } W) :
  (Code.rangeFunc g ps assign body).wpIn Fence.wide n Tryz.prog Q a w := by
 refine wpIn_rangeFunc fun fn hfn => ?_
 obtain ⟨D, hD⟩ : ∃ D, w.heap.size = D := ⟨_, rfl⟩
 obtain ⟨rc, hrc⟩ : ∃ rc : LoopState → Option Code → Loop, rc = fun st pe => { state := st, pending := pe, fn, tmps := a.tmps, params := ps, assign, body, defers := D } := ⟨_, rfl⟩
 obtain ⟨W1, hW1⟩ : ∃ W1, (w.alloc (.deferred (some []))).alloc (.loop (rc .ready none)) = W1 := ⟨_, rfl⟩
 have hs1 : W1.heap.size = D + 2 := by rw [← hW1]; simp [hD]
 have hR1 : RecAt D (rc .ready none) W1 := by
  rw [← hW1, ← hD]
  constructor
  ·have := World.alloc_heap_new (w.alloc (.deferred (some []))) (.loop (rc .ready none)); rwa [World.size_alloc] at this
  ·exact (Below.heap_alloc _ _ _ (by simp)).trans (World.alloc_heap_new w _)
 have hI1 : I [] W1 := by rw [← hW1]; exact hI.alloc _ (hI.alloc _ h0)
 have hb1 : Below w0.heap.size w0 W1 := by
  rw [← hW1]; exact hb0.trans ((((Below.refl _ w).alloc (Nat.le_refl _) _).alloc (by simp) _).mono hb0.size)
 rw [hD] at hI hIx hAx hassign hbody hdone hstop hnE
 have kput : ∀ (W : World) (r r' : Loop), RecAt D r W → KpB nE bR W (W.putObj (D + 1) (.loop r')) := fun W r r' h => KpB.put (w := w) (by omega) W (D + 1) _ _ (by omega) h.1 rfl rfl
 refine ⟨D + 1, [{ target := .collected D, args := #[] }], W1, { target := .fn (.func gf) lb, args := #[.func (.yield (D + 1)) #[] #[]] }, W1, gf,
  #[.func (.yield (D + 1)) #[] #[]] ++ lb, W1, ?_, ?_, ?_, ?_, fun _ => h1, ?_⟩
 ·rw [← hW1, hrc, ← hD]; exact run_enterLoop_outer _ _ _ _ _
 ·simp only [resolve, hg]
  simp [go_sem]
 ·intro _ _; trivial
 ·simp [invoke, go_sem, eg]
 ·refine (hseq (D + 1) (fun pre W => I pre W ∧ RecAt D (rc .ready none) W) (fun pre W => ∃ c, Ix c pre W ∧ RecAt D (rc .done (some c)) W) W1 hb1
   (fun s A B row hs hg' hr => ⟨hI s A B row hs.1 hg' (fun r e => ⟨by have := (hr r e).1; omega, (hr r e).2⟩), hs.2.kept hg' (fun r e => by have := (hr r e).1; omega)⟩)
   (fun s A B row hs hg' hr => by
    obtain ⟨c, hc, hk⟩ := hs
    exact ⟨c, hIx c s A B row hc hg' (fun r e => ⟨by have := (hr r e).1; omega, (hr r e).2⟩), hk.kept hg' (fun r e => by have := (hr r e).1; omega)⟩)
   ?_ ⟨hI1, hR1⟩).mono ?_
  ·rintro pre x W ⟨hi, hk⟩
   have hy := run_yield (P := Tryz.prog) (args := #[.agg #[.int .i64 x.1, .int .i64 x.2]]) hk.1 (by rw [hrc]; simp [hps])
   rw [hrc] at hy
   refine ⟨fn, _, assign, body, hy, roundIn_of_wpIn hfn (hassign _ pre x W _ hi ?_)⟩
   clear hy
   intro a' Wa hkf hkp hia hax
   have hka := hk.from hkf
   refine ⟨_, run_beginRound hka.1 (by rw [hrc]), ?_⟩
   obtain ⟨rb, hrb⟩ : ∃ rb : Loop, rb = { rc .ready none with state := .busy } := ⟨_, rfl⟩
   rw [← hrb]
   have hkb : RecAt D rb (Wa.putObj (D + 1) (.loop rb)) := hka.put
   refine wpIn_mono (hbody _ pre x a' _ (hI.putObj _ hia (by omega) hka.1 rfl) ((hAx x a').putObj (s := ()) _ hax (by omega) hka.1 rfl)) ?_
   have kf0 : KeepsFrom (D + 2) W (Wa.putObj (D + 1) (.loop rb)) := (hkf.up (by omega)).after (put_kf (by omega))
   have kp0 : KpB nE bR W (Wa.putObj (D + 1) (.loop rb)) := hkp.trans (kput _ _ _ hka)
   rw [hs1]
   generalize Wa.putObj (D + 1) (.loop rb) = Wb at hkb kf0 kp0
   have fin : ∀ (jump : Option Code) (W3 : World), KeepsFrom D Wb W3 → ∃ W4, (Instr.endRound (D + 1) jump).run Tryz.prog W3 = .ok (.bool jump.isNone) W4 ∧ RecAt D (rc (if jump.isNone then .ready else .done) jump) W4 ∧ KpB nE bR W3 W4 ∧ KeepsFrom (D + 2) W3 W4 ∧ (∀ xs, I xs W3 → I xs W4) ∧ (∀ c xs, Ix c xs W3 → Ix c xs W4) := fun jump W3 hk3 => by
    have h3 := hkb.from hk3
    have he := run_endRound (P := Tryz.prog) jump h3.1
    refine ⟨_, he, ?_, kput _ _ _ h3, put_kf (by omega), fun xs h => hI.putObj _ h (by omega) h3.1 rfl, fun c xs h => (hIx c).putObj _ h (by omega) h3.1 rfl⟩
    have : ({ rb with state := if jump.isNone then .ready else .done, pending := jump } : Loop) = rc (if jump.isNone then .ready else .done) jump := by rw [hrb, hrc]
    rw [← this]; exact h3.put
   rintro e a3 W3 hp
   cases e with
   | normal =>
    obtain ⟨hk3, hp3, hi3⟩ := hp
    obtain ⟨W4, he, hr4, kp4, kf4, i4, _⟩ := fin none W3 hk3
    exact ⟨_, _, he, .inl ⟨rfl, ⟨i4 _ hi3, hr4⟩, kp0.trans (hp3.trans kp4), kf0.after ((hk3.up (by omega)).after kf4)⟩⟩
   | ret =>
    obtain ⟨hk3, hi3⟩ := hp
    obtain ⟨W4, he, hr4, _, kf4, _, i4⟩ := fin (some .ret) W3 hk3
    exact ⟨_, _, he, .inr ⟨rfl, ⟨.ret, i4 _ _ hi3, hr4⟩, kf0.after ((hk3.up (by omega)).after kf4)⟩⟩
   | exit id =>
    obtain ⟨hk3, hi3⟩ := hp
    obtain ⟨W4, he, hr4, _, kf4, _, i4⟩ := fin (some (.exit id)) W3 hk3
    exact ⟨_, _, he, .inr ⟨rfl, ⟨.exit id, i4 _ _ hi3, hr4⟩, kf0.after ((hk3.up (by omega)).after kf4)⟩⟩
   | goto t =>
    obtain ⟨hk3, hi3⟩ := hp
    obtain ⟨W4, he, hr4, _, kf4, _, i4⟩ := fin (some (.goto t)) W3 hk3
    exact ⟨_, _, he, .inr ⟨rfl, ⟨.goto t, i4 _ _ hi3, hr4⟩, kf0.after ((hk3.up (by omega)).after kf4)⟩⟩
   | panic ch => exact hp.elim
   | outgrown => exact hp.elim
  ·rintro e W2 ⟨⟨v, rfl⟩, (⟨xs, hS, hi, hk⟩ | ⟨pre, hSp, c, hi, hk⟩)⟩
   ·exact ⟨none, _, by have := run_endLoop (P := Tryz.prog) hk.1 (by rw [hrc]; simp); rw [hrc] at this; exact this, hdone _ xs _ (Nat.le_refl _) hS (hI.putObj _ hi (by omega) hk.1 rfl) ((World.putObj_heap_other (by omega)).trans hk.2)⟩
   ·exact ⟨some c, _, by have := run_endLoop (P := Tryz.prog) hk.1 (by rw [hrc]; simp); rw [hrc] at this; exact this, hstop _ c pre _ (Nat.le_refl _) hSp ((hIx c).putObj _ hi (by omega) hk.1 rfl) ((World.putObj_heap_other (by omega)).trans hk.2)⟩
end Go.Proofs.YtmopiifamopidaaGreat
end
section
namespace Go.Proofs.YtmopiifamopidaaGreat
open Go.RowKit
attribute [local go_sem] Oper.semAt_some
def btnB (m p : Int) (c : Int × Int) : Bool := !(c.2 == p) && betB c.1 c.2 m p
set_option maxRecDepth 100000 in
set_option maxHeartbeats 2000000 in
theorem bea_any (b1 b2 b3 b4 : Nat) (v : Value) (L : List Nr) (f : Int) (gr : Bool) (cs co m p : Int) (hf : 0 ≤ f ∧ f ≤ 1000000) (w : World) (sl : SlN w v L) (ho : NsOk w L) (o1 : Own w b1 [v] 56) (o2 : Own w b2 [.int .i64 f] 3) (o3 : Own w b3 [.bool gr] 4) (o4 : Own w b4 [.int .i64 cs, .int .i64 co] 48) :
  Calls Tryz.prog 25 #[.func (.func 60) #[] #[.pointer (some ⟨b1, 0, none⟩), .pointer (some ⟨b2, 0, none⟩), .pointer (some ⟨b3, 0, none⟩), .pointer (some ⟨b4, 0, none⟩)], .agg #[.int .i64 m, .int .i64 p]] w fun e w' => e = .returned (.bool ((clmL gr f cs co (L.filter (latR f))).any (btnB m p))) ∧ Below w.heap.size w w' := by
 have SL := Lib.hid sl
 have HO := Lib.hid ho
 have HF := Lib.hid hf
 have z2 := o2.lt
 have z3 := o3.lt
 have z4 := o4.lt
 have O1 := Lib.hid o1
 have O2 := Lib.hid o2
 have O3 := Lib.hid o3
 have O4 := Lib.hid o4
 clear sl ho hf o1 o2 o3 o4
 refine (callsIn_wide (n := 9)).1 ?_
 refine callsIn_of_wp_marks Tryz.func25 rfl trivial ?_ rfl
 simp only [Tryz.ntmps25, List.size_toArray, List.length_cons, List.length_nil, Nat.reduceAdd, Nat.reduceSub, Array.replicate_succ, Array.replicate_zero, List.push_toArray, List.append_toArray, List.nil_append, List.cons_append]
 refine wpIn_wide.2 ?_
 go_wp2
 have hb2 : Below w.heap.size w ((w.alloc (.cells #[.int .i64 m, .int .i64 p] 102)).alloc (.cells #[.bool false] 4)) := (belowNew w _).trans ((belowNew _ _).mono (by simp))
 obtain ⟨bC, hbC⟩ : ∃ bC, w.heap.size = bC := ⟨_, rfl⟩
 have hs2 : ((w.alloc (.cells #[.int .i64 m, .int .i64 p] 102)).alloc (.cells #[.bool false] 4)).heap.size = bC + 2 := by simp [hbC]
 have OC := Lib.hid (show Own ((w.alloc (.cells #[.int .i64 m, .int .i64 p] 102)).alloc (.cells #[.bool false] 4)) bC [.int .i64 m, .int .i64 p] 102 from ((own_at _ _ hbC.symm).alloc _))
 have OR := Lib.hid (show Own ((w.alloc (.cells #[.int .i64 m, .int .i64 p] 102)).alloc (.cells #[.bool false] 4)) (bC + 1) [.bool false] 4 from (own_at _ _ (by simp [hbC])))
 have B2 := Lib.hid hb2
 replace O1 := Lib.hid (O1.out.below hb2)
 replace O2 := Lib.hid (O2.out.below hb2)
 replace O3 := Lib.hid (O3.out.below hb2)
 replace O4 := Lib.hid (O4.out.below hb2)
 rw [hbC] at z2 z3 z4
 clear hb2
 try rw [hbC]
 generalize ((w.alloc (.cells #[.int .i64 m, .int .i64 p] 102)).alloc (.cells #[.bool false] 4)) = W2 at B2 O1 O2 O3 O4 OC OR hs2 ⊢
 refine (wpIn_wide (n := 9)).1 ?_
 refine rangeO (by decide) (gf := 60) (lb := #[.pointer (some ⟨b1, 0, none⟩), .pointer (some ⟨b2, 0, none⟩), .pointer (some ⟨b3, 0, none⟩), .pointer (some ⟨b4, 0, none⟩)]) rfl (enters_of Tryz.func60 (by kernel_rfl) rfl) (tol_stops 8 b1 b2 b3 b4 (bC + 1) v L f gr cs co HF.out w W2 SL.out HO.out B2.out O1.out O2.out O3.out O4.out (by omega) (by omega) (by omega) (by omega) (by decide)) (by omega) (Below.refl _ _) rfl
  (fun pre W => Below w.heap.size w W ∧ Own W bC [.int .i64 m, .int .i64 p] 102 ∧ Own W (bC + 1) [.bool false] 4 ∧ pre.any (btnB m p) = false)
  (fun c pre W => c = .ret ∧ Below w.heap.size w W ∧ Own W (bC + 1) [.bool true] 4 ∧ pre.any (btnB m p) = true) ?hI ?hIx ⟨B2.out, OC.out, OR.out, rfl⟩
  (fun x a' W => ∃ Bx, Own W Bx [.int .i64 x.1, .int .i64 x.2] 102 ∧ bC + 2 ≤ Bx ∧ a' = { tmps := #[.func (.func 60) #[] #[.pointer (some ⟨b1, 0, none⟩), .pointer (some ⟨b2, 0, none⟩), .pointer (some ⟨b3, 0, none⟩), .pointer (some ⟨b4, 0, none⟩)], .agg #[.int .i64 m, .int .i64 p], undef, .pointer (some ⟨bC, 0, none⟩), .pointer (some ⟨(bC + 1), 0, none⟩), .pointer (some ⟨Bx, 0, none⟩), .func (.func 60) #[] #[.pointer (some ⟨b1, 0, none⟩), .pointer (some ⟨b2, 0, none⟩), .pointer (some ⟨b3, 0, none⟩), .pointer (some ⟨b4, 0, none⟩)], .agg #[.int .i64 x.1, .int .i64 x.2], undef, undef, undef, undef, undef, undef, undef, undef, undef, undef], defers := [] }) ?hAx ?assign ?body ?done ?stop
 case hI =>
  rintro s A B row ⟨g1, g2, g3, g4⟩ hg hr
  rw [hs2] at hr
  have hr' : ∀ r, row = some r → ∃ o : Obj, A.heap[r]? = some o ∧ o.isCells = false := fun r e => (hr r e).2
  exact ⟨g1.grown hg g1.size (fun k e => by have := (hr k e).1; omega), own_keptN g2 hg hr', own_keptN g3 hg hr', g4⟩
 case hIx =>
  rintro c s A B row ⟨g0, g1, g3, g4⟩ hg hr
  rw [hs2] at hr
  exact ⟨g0, g1.grown hg g1.size (fun k e => by have := (hr k e).1; omega), own_keptN g3 hg (fun r e => (hr r e).2), g4⟩
 case hAx =>
  rintro x a' _ A B row ⟨Bx, e1, e2, e3⟩ hg hr
  exact ⟨Bx, own_keptN e1 hg (fun r e => (hr r e).2), e2, e3⟩
 case assign =>
  rintro l' pre x Wa K ⟨g1, g2, g3, g4⟩ hK
  refine assign1_wp ?_
  simp only [List.setIfInBounds_toArray, List.set_cons_succ, List.set_cons_zero]
  gi_wp2
  have h3 := g3.lt
  exact hK _ _ ((KeepsOthers.alloc _ _).from _) (KpB.below (belowNew _ _) g1.size) ⟨g1.trans ((belowNew _ _).mono g1.size), g2.alloc _, g3.alloc _, g4⟩ ⟨Wa.heap.size, own_at _ _ rfl, by omega, rfl⟩
 case stop =>
  rintro D c' pre W' hD hsp ⟨rfl, g1, g3, g4⟩ hK
  have HK2 := hK
  have c4 := g3.cell (i := 0) rfl
  gi_wp2
  (try rw [Exit.noGoto_ret])
  refine ⟨by simp, .inl ⟨_, _, rfl, run_takeDeferred HK2, ?_⟩⟩
  have O5 : Own (W'.putObj D (.deferred none)) (bC + 1) [.bool true] 4 := (World.putObj_heap_other (by omega)).trans g3
  have B5 : Below w.heap.size w (W'.putObj D (.deferred none)) := g1.trans (belowK_b (w := W2) (by omega) W' D _ _ hD HK2 rfl rfl)
  generalize W'.putObj D (.deferred none) = W6 at O5 B5 ⊢
  have c5 := O5.cell (i := 0) rfl
  have hall : (clmL gr f cs co (L.filter (latR f))).any (btnB m p) = true := by
   obtain ⟨t, ht⟩ := hsp
   rw [← ht, List.any_append, g4]; rfl
  rw [hall]
  exact ⟨.bool true, by simp [results, Tryz.results25, go_sem, *], rfl, B5⟩
 case done =>
  rintro D ys W' hD rfl ⟨g1, g2, g3, g4⟩ hK
  have c4 := g3.cell (i := 0) rfl
  have z4 := g3.lt
  have f4 := g3.frozen
  have G1 := Lib.hid g1
  have G3 := Lib.hid g3
  have G4 := Lib.hid g4
  have HK2 := Lib.hid hK
  clear g1 g2 g3 g4 hK
  gi_wp2
  go_wp2_with fail
  have O4 : Own (W'.setCell ⟨bC + 1, 0, none⟩ (.bool false)) (bC + 1) [.bool false] 4 := G3.out.set 0 _
  have B4 : Below w.heap.size w (W'.setCell ⟨bC + 1, 0, none⟩ (.bool false)) := G1.out.setCell (p := ⟨bC + 1, 0, none⟩) (by simp; omega) _
  have K4 : (W'.setCell ⟨bC + 1, 0, none⟩ (.bool false)).heap[D]? = some (.deferred (some [])) := (Below.heap_setCell W' ⟨bC + 1, 0, none⟩ _ D (by simp; omega)).trans HK2.out
  generalize W'.setCell ⟨bC + 1, 0, none⟩ (.bool false) = W7 at O4 B4 K4 ⊢
  refine ⟨by simp, .inl ⟨_, _, rfl, run_takeDeferred K4, ?_⟩⟩
  have O5 : Own (W7.putObj D (.deferred none)) (bC + 1) [.bool false] 4 := (World.putObj_heap_other (by omega)).trans O4
  have B5 : Below w.heap.size w (W7.putObj D (.deferred none)) := B4.trans (belowK_b (w := W2) (by omega) W7 D _ _ hD K4 rfl rfl)
  generalize W7.putObj D (.deferred none) = W6 at O5 B5 ⊢
  have c5 := O5.cell (i := 0) rfl
  rw [G4.out]
  clear c4
  exact ⟨.bool false, by simp [results, Tryz.results25, go_sem, *], rfl, B5⟩
 case body =>
  rintro l' pre x a' Wb ⟨g1, g2, g3, g4⟩ ⟨Bx, ob, hBx, rfl⟩
  have c50 := ob.cell (i := 0) rfl
  have c51 := ob.cell (i := 1) rfl
  have zB := ob.lt
  have c30 := g2.cell (i := 0) rfl
  have c31 := g2.cell (i := 1) rfl
  have z3 := g2.lt
  have z4 := g3.lt
  have f4 := g3.frozen
  have G1 := Lib.hid g1
  have G2 := Lib.hid g2
  have G3 := Lib.hid g3
  have G4 := Lib.hid g4
  have OB := Lib.hid ob
  clear g1 g2 g3 g4 ob
  cases hq : (x.2 != p) with
  | false =>
   have HQ := Lib.hid (show (pre ++ [x]).any (btnB m p) = false by
    have h9 : (x.2 == p) = true := by simpa using hq
    simp [G4.out, btnB, h9])
   gi_wp2
   all_goals first | (refine ⟨fun f hf => trivial, ?_⟩; gi_wp2) | (refine ⟨trivial, ?_⟩; gi_wp2) | skip
   all_goals exact ⟨KeepsFrom.self, KpB.refl _ _ _, G1.out, G2.out, G3.out, HQ.out⟩
  | true =>
   have HQ := Lib.hid (show (x.2 == p) = false by simpa using hq)
   have HX := Lib.hid (show (pre ++ [x]).any (btnB m p) = betB x.1 x.2 m p by simp [G4.out, btnB, HQ.out])
   cases hB : betB x.1 x.2 m p with
   | false =>
    have HB := Lib.hid hB
    rw [hB] at HX
    clear hB
    gi_wp2
    refine ⟨trivial, CallsIn.inRound l' (callsIn_wide.2 ((calls_bool (bet_any x.1 x.2 m p _) HB.out).mono ?_))⟩
    rintro e W4 ⟨rfl, hb⟩
    gi_wp2
    exact ⟨KeepsFrom.ofBelow hb, KpB.below hb G1.out.size, G1.out.trans (hb.mono G1.out.size), G2.out.below hb, G3.out.below hb, HX.out⟩
   | true =>
    have HB := Lib.hid hB
    rw [hB] at HX
    clear hB
    gi_wp2
    refine ⟨trivial, CallsIn.inRound l' (callsIn_wide.2 ((calls_bool (bet_any x.1 x.2 m p _) HB.out).mono ?_))⟩
    rintro e W4 ⟨rfl, hb⟩
    have GG := G3.out.below hb
    have c4 := GG.cell (i := 0) rfl
    have z5 := GG.lt
    have f5 := GG.frozen
    gi_wp2
    try rw [Exit.noGoto_ret]
    exact ⟨(KeepsFrom.ofBelow hb).after ⟨by simp, fun k _ hk h1 _ => (Below.heap_setCell W4 ⟨bC + 1, 0, none⟩ _ k (by simp; omega)).trans h1⟩, rfl, (G1.out.trans (hb.mono G1.out.size)).setCell (p := ⟨bC + 1, 0, none⟩) (by simp; omega) _, GG.set 0 _, HX.out⟩
end Go.Proofs.YtmopiifamopidaaGreat
end

/- The state inside a round of Learn's loop, and the append of a route inside a round. -/
import Derived.Test.YtheifmdaladfdaaKeep21
import Derived.Deep.AppendLies
namespace Go.Proofs.Ytheifmdaladfdaa
open Go.RowKit

structure LI (n0 bo br bc bf Bx : Nat) (c f : Int) (w W : World) (vo vr : Value) (out : List Dn) (cx : List Value) (wr : World) : Prop where
  kb : KB n0 w.heap.size bo br W wr
  oo : Own wr bo [vo] 22
  orr : Own wr br [vr] 22
  row : wr.ownsRow n0 35 4 vo out.length (flatT dnL out)
  oc : Own wr bc [.int .i64 c] 3
  of : Own wr bf [.int .i64 f] 3
  ox : Own wr Bx cx 35
  bel : Below w.heap.size w wr
  sz : n0 ≤ wr.heap.size
  nx : vo.ownBlock ≠ some Bx
/-- Where the blocks lie. -/
structure Lie (n0 bo br bc bf Bx : Nat) (w W : World) : Prop where
  e : w.heap.size ≤ bc
  cf : bc < bf
  fo : bf < bo
  orr : bo < br
  rn : br < n0
  nW : n0 ≤ W.heap.size
  nB : n0 ≤ Bx
variable {n0 bo br bc bf Bx : Nat} {c f : Int} {w W : World} {vo vr : Value} {out : List Dn} {cx : List Value} {wr : World}
theorem LI.drewN (h : LI n0 bo br bc bf Bx c f w W vo vr out cx wr) (n : Nat) : LI n0 bo br bc bf Bx c f w W vo vr out cx (wr.drewN n) :=
  ⟨h.kb.drewN n, h.oo, h.orr, h.row, h.oc, h.of, h.ox, h.bel.trans ⟨rfl, rfl, rfl, Nat.le_refl _, fun _ _ => rfl⟩, h.sz, h.nx⟩
theorem LI.drew (h : LI n0 bo br bc bf Bx c f w W vo vr out cx wr) : LI n0 bo br bc bf Bx c f w W vo vr out cx wr.drew := h.drewN 1
theorem LI.alloc (h : LI n0 bo br bc bf Bx c f w W vo vr out cx wr) (l : Lie n0 bo br bc bf Bx w W) (o : Obj) : LI n0 bo br bc bf Bx c f w W vo vr out cx (wr.alloc o) := by
  have := l.e; have := l.cf; have := l.fo; have := l.orr; have := l.rn; have := l.nW
  have := h.sz
  exact ⟨h.kb.alloc (by omega) (by omega) o, h.oo.alloc o, h.orr.alloc o, h.row.alloc o, h.oc.alloc o, h.of.alloc o, h.ox.alloc o, h.bel.alloc (by omega) o, by simp; omega, h.nx⟩
/-- The new next node and time of the loop's variable. -/
theorem LI.setX {t n s u n' u' : Int} {w2 : World} (h : LI n0 bo br bc bf Bx c f w W vo vr out [.int .i64 t, .int .i64 n, .int .i64 s, .int .i64 u] wr) (l : Lie n0 bo br bc bf Bx w W)
    (he : w2 = (wr.setCell ⟨Bx, 1, none⟩ (.int .i64 n')).setCell ⟨Bx, 3, none⟩ (.int .i64 u') ∨ w2 = (wr.setCell ⟨Bx, 3, none⟩ (.int .i64 u')).setCell ⟨Bx, 1, none⟩ (.int .i64 n')) :
    LI n0 bo br bc bf Bx c f w W vo vr out [.int .i64 t, .int .i64 n', .int .i64 s, .int .i64 u'] w2 := by
  have := l.e; have := l.cf; have := l.fo; have := l.orr; have := l.rn; have := l.nW; have := l.nB
  have hb := h.ox.lt
  obtain ⟨k1, k2⟩ := h.kb.setX (b := Bx) (by omega) (by omega) h.ox he
  have ho : ∀ k, k ≠ Bx → w2.heap[k]? = wr.heap[k]? := fun k hk => by
    rcases he with rfl | rfl <;> rw [heap_set_ne _ _ _ _ _ hk, heap_set_ne _ _ _ _ _ hk]
  have hsz : w2.heap.size = wr.heap.size := by rcases he with rfl | rfl <;> rw [heap_set_size, heap_set_size]
  have hbl : Below w.heap.size w w2 := by
    rcases he with rfl | rfl
    · exact (h.bel.setCell (p := ⟨Bx, 1, none⟩) (show w.heap.size ≤ Bx by omega) _).setCell (p := ⟨Bx, 3, none⟩) (show w.heap.size ≤ Bx by omega) _
    · exact (h.bel.setCell (p := ⟨Bx, 3, none⟩) (show w.heap.size ≤ Bx by omega) _).setCell (p := ⟨Bx, 1, none⟩) (show w.heap.size ≤ Bx by omega) _
  refine ⟨k1, (ho bo (by omega)).trans h.oo, (ho br (by omega)).trans h.orr, ?_, (ho bc (by omega)).trans h.oc, (ho bf (by omega)).trans h.of, k2, hbl, by rw [hsz]; exact h.sz, h.nx⟩
  obtain ⟨hl, hr⟩ := h.row
  refine ⟨hl, hr.imp id fun ⟨g, cap, cur, e1, e2, e3, e4⟩ => ⟨g, cap, cur, e1, e2, ?_, e4⟩⟩
  refine (ho g fun e => h.nx ?_).trans e3
  rw [e1, e]; rfl
/-- The rest goes on. -/
theorem LI.setR (h : LI n0 bo br bc bf Bx c f w W vo vr out cx wr) (l : Lie n0 bo br bc bf Bx w W) (v : Value) : LI n0 bo br bc bf Bx c f w W vo v out cx (wr.setCell ⟨br, 0, none⟩ v) := by
  have := l.e; have := l.cf; have := l.fo; have := l.orr; have := l.rn; have := l.nW; have := l.nB
  refine ⟨h.kb.setR (by omega) (by omega) v, h.oo.other (by simp; omega) v, h.orr.set 0 v, ?_, h.oc.other (by simp; omega) v, h.of.other (by simp; omega) v, h.ox.other (by simp; omega) v, h.bel.setCell (p := ⟨br, 0, none⟩) (show w.heap.size ≤ br by omega) v, by rw [heap_set_size]; exact h.sz, h.nx⟩
  obtain ⟨hl, hr⟩ := h.row
  refine ⟨hl, hr.imp id fun ⟨g, cap, cur, e1, e2, e3, e4⟩ => ⟨g, cap, cur, e1, e2, ?_, e4⟩⟩
  exact (heap_set_ne _ _ _ _ _ (by omega)).trans e3
/-- A route is appended, and the new slice stored. -/
theorem LI.app {g n cap : Nat} {o2 : List Dn} {w1 : World} (h : LI n0 bo br bc bf Bx c f w W vo vr out cx wr) (l : Lie n0 bo br bc bf Bx w W) (hown : w1.ownsRow n0 35 4 (.slice (some ⟨g, 0, none⟩) n cap) o2.length (flatT dnL o2)) (hg : wr.grownBy w1 vo.ownBlock) (hat : vo.ownBlock = some g ∨ g = wr.heap.size) (hlt : g < w1.heap.size) :
    LI n0 bo br bc bf Bx c f w W (.slice (some ⟨g, 0, none⟩) n cap) vr o2 cx (w1.setCell ⟨bo, 0, none⟩ (.slice (some ⟨g, 0, none⟩) n cap)) := by
  have := l.e; have := l.cf; have := l.fo; have := l.orr; have := l.rn; have := l.nW; have := l.nB
  have hrow := h.row.lt
  have hx := h.ox.lt
  have hne : ∀ b, b < n0 → some b ≠ vo.ownBlock := fun b hb e => by have := (hrow b e.symm).1; omega
  have oth : ∀ {b : Nat} {cs : List Value} {t : TypeId}, Own wr b cs t → some b ≠ vo.ownBlock → b ≠ bo → Own (w1.setCell ⟨bo, 0, none⟩ (.slice (some ⟨g, 0, none⟩) n cap)) b cs t := fun ho e1 e2 =>
    (heap_set_ne _ _ _ _ _ e2).trans ((hg.block _ ho.lt e1).trans ho)
  have o1 : Own w1 bo [vo] 22 := (hg.block bo h.oo.lt (hne bo (by omega))).trans h.oo
  refine ⟨h.kb.app h.oo h.row hg hat hlt (by omega) (by omega), o1.set 0 _, oth h.orr (hne br (by omega)) (by omega), ?_, oth h.oc (hne bc (by omega)) (by omega), oth h.of (hne bf (by omega)) (by omega), oth h.ox (fun e => h.nx e.symm) (by omega), ?_, by rw [heap_set_size]; have := hg.size; have := h.sz; omega, ?_⟩
  · have hgn := (hown.lt g rfl).1
    obtain ⟨hl, hr⟩ := hown
    refine ⟨hl, hr.imp id fun ⟨g', cap', cur, e1, e2, e3, e4⟩ => ⟨g', cap', cur, e1, e2, ?_, e4⟩⟩
    exact (heap_set_ne _ _ _ _ _ (by omega)).trans e3
  · exact (h.bel.grown hg (by have := h.bel.size; omega) (fun k hk => by have := (hrow k hk).1; omega)).setCell (p := ⟨bo, 0, none⟩) (show w.heap.size ≤ bo by omega) _
  · intro e
    have e : g = Bx := by simpa [Value.ownBlock] using e
    rcases hat with e2 | e2
    · exact h.nx (by rw [e2, e])
    · omega

/-- An operation that runs to a value, inside any fence. -/
theorem wpIn_run {F : Fence} {n : Nat} {P : Program} {o : Oper} {a : Act} {w w' : World} {v : Value} {K : Act → World → Prop} {Q : Exit → Act → World → Prop} (hF : ∀ f, F.fn f) (hd : ∀ c, o.op ≠ .defer c) (hr : (execOp a.eval o).run P w = .ok (.value v) w') (h : K (a.put o.dst v) w') : o.wpIn F n P a w K Q := by
  refine ⟨fun f _ => hF f, ?_⟩
  rw [Oper.semAt_plain F _ _ hd, hr]
  exact h
/-- append(out, d), inside any fence. -/
theorem app_in {F : Fence} {n : Nat} {o : Oper} {a : Act} {w : World} {K : Act → World → Prop} {Q : Exit → Act → World → Prop} (s x : Operand) (ho : o.op = .call { callee := .builtin .append, args := #[s, x], argTypes := #[22, 22] }) (hF : ∀ f, F.fn f)
    {n0 : Nat} {v : Value} {out : List Dn} (hs : a.eval s = v) (hown : w.ownsRow n0 35 4 v out.length (flatT dnL out)) (ad : Addr) (cc : Nat) (d : Dn) (hx : a.eval x = .slice (some ad) 1 cc) (hnews : ∀ j u, (dnL.f d)[j]? = some u → w.cell? (ad.add j) = some u) (hb : out.length ≤ 1000) (hbase : n0 ≤ w.heap.size)
    (h : ∀ g cap w', w'.ownsRow n0 35 4 (.slice (some ⟨g, 0, none⟩) (out.length + 1) cap) (out ++ [d]).length (flatT dnL (out ++ [d])) → w.grownBy w' v.ownBlock → (v.ownBlock = some g ∨ g = w.heap.size) → g < w'.heap.size → K (a.put o.dst (.slice (some ⟨g, 0, none⟩) (out.length + 1) cap)) w') : o.wpIn F n Try.prog a w K Q := by
  obtain ⟨i0, hi, hz, hs0, hb0⟩ := info_parts info_dn
  obtain ⟨g, cap, w', hr, h2, h3, h4, h5⟩ := run_append_lies (P := Try.prog) w 22 o.type n0 35 i0 _ 4 32 (by kernel_rfl) hi hz hs0 hb0 rfl (by decide) v out.length (flatT dnL out) hown ad 1 cc (dnL.f d) rfl hnews (dnL.one d) (by decide) (by unfold maxLen; omega) (by omega) hbase _ rfl
  refine wpIn_run hF (by rw [ho]; intro c hc; cases hc) ?_ (h g cap w' ?_ h3 h4 h5)
  · unfold execOp
    simp only [ho, resolve, invoke, builtin, Sem.run_bind, Sem.run_pure, Result.andThen_ok, List.map_toArray, List.map_cons, List.map_nil, hs, hx, hr]
  · rw [flatT_append, flatT_one, List.length_append]
    exact h2
theorem app_list {F : Fence} {n : Nat} {ops : Array Oper} {rest : List Oper} {o : Oper} {a : Act} {w : World} {Q : Exit → Act → World → Prop} (hgd : o.guard = none) (s x : Operand) (ho : o.op = .call { callee := .builtin .append, args := #[s, x], argTypes := #[22, 22] }) (hF : ∀ f, F.fn f)
    {n0 : Nat} {v : Value} {out : List Dn} (hs : a.eval s = v) (hown : w.ownsRow n0 35 4 v out.length (flatT dnL out)) (ad : Addr) (cc : Nat) (d : Dn) (hx : a.eval x = .slice (some ad) 1 cc) (hnews : ∀ j u, (dnL.f d)[j]? = some u → w.cell? (ad.add j) = some u) (hb : out.length ≤ 1000) (hbase : n0 ≤ w.heap.size)
    (h : ∀ g cap w', w'.ownsRow n0 35 4 (.slice (some ⟨g, 0, none⟩) (out.length + 1) cap) (out ++ [d]).length (flatT dnL (out ++ [d])) → w.grownBy w' v.ownBlock → (v.ownBlock = some g ∨ g = w.heap.size) → g < w'.heap.size → wpListIn F n Try.prog ops Q rest (a.put o.dst (.slice (some ⟨g, 0, none⟩) (out.length + 1) cap)) w') : wpListIn F n Try.prog ops Q (o :: rest) a w :=
  wpListIn_plain hgd fun _ hK => app_in s x ho hF hs hown ad cc d hx hnews hb hbase fun g cap w' e1 e2 e3 e4 => hK _ _ (h g cap w' e1 e2 e3 e4)
theorem own_uniq {w : World} {b : Nat} {u v : Value} {t : TypeId} (h : Own w b [u] t) (k : Own w b [v] t) : u = v := by
  have := h.symm.trans k
  simpa using this
/-- Between two rounds. -/
def LInv (n0 bo br bc bf : Nat) (c f : Int) (ls : List Dn) (w : World) (pre : List Dn) (W : World) : Prop :=
  ∃ (out rest : List Dn) (vo : Value) (pr : Option Addr) (m cr : Nat), MrgO c f ls out rest pre ∧ rest.length = m ∧ out.length + m ≤ ls.length + pre.length ∧ SlD w (.slice pr m cr) rest ∧ m ≤ cr ∧ cr ≤ 9223372036854775807 ∧ Own W bo [vo] 22 ∧ Own W br [.slice pr m cr] 22 ∧ W.ownsRow n0 35 4 vo out.length (flatT dnL out) ∧ Own W bc [.int .i64 c] 3 ∧ Own W bf [.int .i64 f] 3 ∧ Below w.heap.size w W ∧ n0 ≤ W.heap.size
theorem LInv.mk {ls rest : List Dn} {pr : Option Addr} {m cr : Nat} {pre : List Dn} (g1 : MrgO c f ls out rest pre) (g2 : rest.length = m) (g3 : out.length + m ≤ ls.length + pre.length) (g4 : SlD w (.slice pr m cr) rest) (g5 : m ≤ cr) (g6 : cr ≤ 9223372036854775807) (o1 : Own W bo [vo] 22) (o2 : Own W br [.slice pr m cr] 22) (o3 : W.ownsRow n0 35 4 vo out.length (flatT dnL out)) (o4 : Own W bc [.int .i64 c] 3) (o5 : Own W bf [.int .i64 f] 3) (hb : Below w.heap.size w W) (hz : n0 ≤ W.heap.size) : LInv n0 bo br bc bf c f ls w pre W :=
  ⟨out, rest, vo, pr, m, cr, g1, g2, g3, g4, g5, g6, o1, o2, o3, o4, o5, hb, hz⟩
theorem LI.inv {ls rest : List Dn} {pr : Option Addr} {m cr : Nat} {pre : List Dn} (h : LI n0 bo br bc bf Bx c f w W vo (.slice pr m cr) out cx wr) (g1 : MrgO c f ls out rest pre) (g2 : rest.length = m) (g3 : out.length + m ≤ ls.length + pre.length) (g4 : SlD w (.slice pr m cr) rest) (g5 : m ≤ cr) (g6 : cr ≤ 9223372036854775807) : LInv n0 bo br bc bf c f ls w pre wr :=
  ⟨out, rest, vo, pr, m, cr, g1, g2, g3, g4, g5, g6, h.oo, h.orr, h.row, h.oc, h.of, h.bel, h.sz⟩
/-- The rest behind the first element. -/
theorem tail_sl {w : World} {b off m cr : Nat} {y : Dn} {ys : List Dn} (h : SlD w (.slice (some ⟨b, off, none⟩) m cr) (y :: ys)) (hm : (y :: ys).length = m) : SlD w (.slice (if cr = 1 then some ⟨b, off, none⟩ else some ⟨b, off + 4, none⟩) (m - 1) (cr - 1)) ys := by
  obtain ⟨p, cap, e, h1, h2, _⟩ := h.form m hm
  injection e with e1 e2 e3
  subst e1 e3
  by_cases hc : cr = 1
  · rw [if_pos hc]
    have hy : ys = [] := List.eq_nil_of_length_eq_zero (by simp at hm; omega)
    have e0 : m - 1 = 0 := by rw [hy] at hm; simp at hm; omega
    rw [e0]
    exact slt_zero hy _ (by omega) (fun e => by cases e)
  · rw [if_neg hc]
    have := h.back (k := 1)
    exact this
/-- How many elements the slice in a box has. -/
def lenAt (W : World) (b : Nat) : Nat := match W.cell? ⟨b, 0, none⟩ with
  | some (.slice _ n _) => n
  | _ => 0
theorem lenAt_own {W : World} {b : Nat} {p : Option Addr} {n cp : Nat} {t : TypeId} (h : Own W b [.slice p n cp] t) : lenAt W b = n := by
  have : W.cell? ⟨b, 0, none⟩ = some (.slice p n cp) := h.cell (i := 0) rfl
  simp [lenAt, this]

end Go.Proofs.Ytheifmdaladfdaa

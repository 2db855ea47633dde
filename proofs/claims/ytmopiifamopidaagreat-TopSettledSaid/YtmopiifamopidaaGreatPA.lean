/- Helping laws: own blocks, typed slices, uses, grants and asks in plain lists. No condition. -/
import Derived.Deep.RegionHeld3
import Derived.WalkKit
import Derived.WalkSpells
import Derived.WalkLawsBesides
import Derived.ProofKit
import Derived.OpenShut
import Derived.ChangeOld
import Derived.Below
import Derived.Lib.Hide
import Derived.Deep.QuietTactic
import Derived.BigQuiet
import Derived.Deep.RegionWith
import Derived.Deep.Slices
import Derived.ChangeArms
import Derived.ChangeSame
import Derived.Laws.AppendOwn
import Derived.Lib.SmallJoins
import Derived.Lib.BufferWrite
import Derived.Test.YtmopiifamopidaaGreatProg
import Derived.IntWalk
set_option linter.unusedVariables false
set_option linter.unusedSimpArgs false
section
namespace Go.Proofs.YtmopiifamopidaaGreat
section
variable {P : Program} {ops : Array Oper} {Q : Exit → Act → World → Prop} {md : Region.Mode} {S : World → Prop}
theorem region_H {id : Nat} {a : Act} {w : World} (sz : Nat) (l0 : Array Bool) (hsz : ops.size = sz) (hl0 : Array.replicate sz false = l0) (S : World → Prop) (hm : P.follows .mixedOrders = true) (hS : S w.drew)
  (h : S w.drew → wpAnyH P .any ops Q S sz l0 a w.drew) : (Code.region id ops true).wp P Q a w := by
 subst hsz hl0
 exact wp_region_held_drew hm hS h
theorem wpH_take {i : Nat} (dst : Option Tmp) {oi : Oper} {v : Value} {fuel : Nat} {listed : Array Bool} {a : Act} {w : World} (hi : ops[i]? = some oi)
  (hs : Region.noSelect ops = true) (hf : Region.free md ops listed i = true) (hr : (Region.ready md ops listed).contains i = true)
  (hdst : oi.dst = dst) (hQ : ∀ c a w, Q (.panic c) (a.put dst v) w → Q (.panic c) a w) (hy : YieldsIf P ops S oi v a) (hS : S w)
  (h : wpAnyH P md ops Q S fuel (listed.setIfInBounds i true) (a.put dst v) w) : wpAnyH P md ops Q S (fuel + 1) listed a w := by
 subst hdst
 exact wpAnyH_take hi hs hf hr hQ hy hS h
theorem wpH_one {i : Nat} {o : Oper} {fuel : Nat} {listed : Array Bool} {a : Act} {w : World} (hr : Region.ready md ops listed = [i]) (ho : ops[i]? = some o)
  (h : ∀ K' : Act → World → Prop, Shut (∀ a w, S w → (S w → wpAnyH P md ops Q S fuel (listed.setIfInBounds i true) a w) → K' a w) → if Region.wanted o (yielded ops a.tmps) = true then Oper.wp P o a w K' Q else K' (a.put o.dst undef) w) : wpAnyH P md ops Q S (fuel + 1) listed a w :=
 wpAnyH_ready hr (by simp) (AllReadyH.cons ho h AllReadyH.nil)
end
end Go.Proofs.YtmopiifamopidaaGreat
end
section
namespace Go.Proofs.YtmopiifamopidaaGreat
section
variable {P : Program} {ops : Array Oper} {Q : Exit → Act → World → Prop} {md : Region.Mode} {S : World → Prop}
theorem tH (i d : Nat) {oi : Oper} {v : Value} {fuel : Nat} {listed l' : Array Bool} {a a' : Act} {w : World} (h : wpAnyH P md ops Q S fuel l' a' w) (hS : S w := by exact hHeld) (hi : ops[i]? = some oi := by rfl) (hdst : oi.dst = some d := by rfl)
  (hs : Region.noSelect ops = true := by kernel_rfl) (hf : Region.free md ops listed i = true := by kernel_rfl) (hr : (Region.ready md ops listed).contains i = true := by kernel_rfl)
  (hw : Region.wanted oi (yielded ops a.tmps) = true := by rfl)
  (hv : ∀ w, S w → (execOp a.eval oi).run P w = .ok (.value v) w := by (intro w hSw; (try dsimp only at hSw); go_simp; try with_reducible rfl))
  (hQ : ∀ c a w, Q (.panic c) (a.put (some d) v) w → Q (.panic c) a w := by exact fun _ _ _ h => h)
  (hp : a.put (some d) v = a' := by ((try simp only [Act.put, List.setIfInBounds_toArray, List.set_cons_zero, List.set_cons_succ]); rfl))
  (hl : listed.setIfInBounds i true = l' := by ((try simp only [List.setIfInBounds_toArray, List.set_cons_zero, List.set_cons_succ]); rfl))
  : wpAnyH P md ops Q S (fuel + 1) listed a w := by
 subst hp hl
 exact wpH_take (some d) hi hs hf hr hdst hQ (Or.inl ⟨hw, hv⟩) hS h
theorem nH (i d : Nat) {oi : Oper} {fuel : Nat} {listed l' : Array Bool} {a a' : Act} {w : World} (h : wpAnyH P md ops Q S fuel l' a' w) (hS : S w := by exact hHeld) (hi : ops[i]? = some oi := by rfl) (hdst : oi.dst = some d := by rfl)
  (hs : Region.noSelect ops = true := by kernel_rfl) (hf : Region.free md ops listed i = true := by kernel_rfl) (hr : (Region.ready md ops listed).contains i = true := by kernel_rfl)
  (hw : Region.wanted oi (yielded ops a.tmps) = false := by rfl)
  (hQ : ∀ c a w, Q (.panic c) (a.put (some d) undef) w → Q (.panic c) a w := by exact fun _ _ _ h => h)
  (hp : a.put (some d) undef = a' := by ((try simp only [Act.put, List.setIfInBounds_toArray, List.set_cons_zero, List.set_cons_succ]); rfl))
  (hl : listed.setIfInBounds i true = l' := by ((try simp only [List.setIfInBounds_toArray, List.set_cons_zero, List.set_cons_succ]); rfl))
  : wpAnyH P md ops Q S (fuel + 1) listed a w := by
 subst hp hl
 exact wpH_take (some d) hi hs hf hr hdst hQ (Or.inr ⟨hw, rfl⟩) hS h
end
end Go.Proofs.YtmopiifamopidaaGreat
end
section
namespace Go.Proofs.YtmopiifamopidaaGreat
open Go.ChangeShapes Go.WideShapes Go.ChangeAt Go.RowKit
theorem belowTo {B : Nat} {a b c : World} (h : Below B a b) (k : Below b.heap.size b c) (hB : B ≤ b.heap.size) : Below B a c := h.trans (k.mono hB)
theorem belowN {B : Nat} {a w : World} {n : Nat} (h : Below B a w) : Below B a (w.drewN n) := ⟨h.os, h.tape, h.output, h.size, h.block⟩
theorem belowNew (w : World) (o : Obj) : Below w.heap.size w (w.alloc o) := (Below.refl _ _).alloc (Nat.le_refl _) _
theorem ret_bool {a b : Bool} (h : a = b) : Ending.returned (.bool a) = .returned (.bool b) := by rw [h]
theorem ret_int {a b : Int} (h : a = b) : Ending.returned (.int .i64 a) = .returned (.int .i64 b) := by rw [h]
theorem trodAll_below {H : Type} {enc : TypeId × Value → H} {P : Program} (hl : laidOutB P = true) {W W' : World} (hb : Below W.heap.size W W') :
  ∀ {ts : List TypeId} {vs : List Value} {ds : List (DataW H)} {ps : List MemPlace}, (ts.all fun t => P.readableRec t && decide (t < P.types.size)) = true →
   DataW.TrodAll enc P W 0 (fun _ => true) true ts vs ds ps → DataW.TrodAll enc P W' 0 (fun b => decide (b < W.heap.size)) true ts vs ds ps := by
 intro ts
 induction ts with
 | nil =>
  intro vs ds ps _ h
  obtain ⟨rfl, rfl, rfl⟩ := trodAll_nil h
  exact trodAll_mk0
 | cons t ts ih =>
  intro vs ds ps hall h
  simp only [List.all_cons, Bool.and_eq_true, decide_eq_true_eq] at hall
  obtain ⟨v, vs', d, ds', p, q, rfl, rfl, rfl, h0, r0⟩ := trodAll_cons h
  have lt0 : ∀ x ∈ p, x.block < W.heap.size := by obtain ⟨m, hm⟩ := h0; exact DataW.trod_lt m _ _ _ hm
  exact trodAll_cons_mk (Below.trod hl hall.1.1 hall.1.2 h0 hb lt0) (ih (by simpa using hall.2) r0)
def okCells : List (Option IntKind) → List Value → Prop
 | [], l => l = []
 | some k :: ks, l => ∃ n vs, l = .int k n :: vs ∧ k.has n ∧ okCells ks vs
 | none :: ks, l => ∃ b vs, l = .bool b :: vs ∧ okCells ks vs
theorem open_num {P : Program} {w : World} {r : Reach} {base : Nat} {t : TypeId} {v : Value} {k : IntKind}
  (hs : P.underlying t = some (.int k)) (h : Value.okWide P w r base t v) : ∃ n, v = .int k n ∧ k.has n := by
 unfold Value.okWide at h
 simp only [hs] at h
 unfold Cell.okWide at h
 cases v <;> simp [hs, Cell.ok] at h
 obtain ⟨rfl, hn⟩ := h
 exact ⟨_, rfl, hn⟩
structure Past (w : World) where
 to : World
 h : Below w.heap.size w to
def past (w : World) (x : Past w) : World := x.to
instance pastNonempty (w : World) : Nonempty (Past w) := ⟨⟨w, Below.refl _ _⟩⟩
theorem wp_region_past {P : Program} {id : Nat} {Q : Exit → Act → World → Prop} {a : Act} {w : World} {l : List Oper} (hm : P.follows .mixedOrders = true) (hB : Region.lexB .any l.toArray = true)
  (h : wpQuiet P l.toArray (fun w' => ∃ x, w' = past w x) (fun a' => ∀ w', (∃ x, w' = past w x) → Q .normal a' w') l a) : (Code.region id l.toArray true).wp P Q a w :=
 wp_region_quiet (C := fun w' => ∃ x, w' = past w x) hm hB ⟨⟨_, (Below.refl _ _).drew⟩, rfl⟩ (by simpa using h)
theorem calls_past {P : Program} {f : FuncId} {args : Array Value} {w : World} {x : Past w} {v : Value}
  (h : Calls P f args (past w x) fun e w' => e = .returned v ∧ Below (past w x).heap.size (past w x) w') : Calls P f args (past w x) fun e w'' => e = .returned v ∧ ∃ y, w'' = past w y :=
 h.mono fun _ w' ⟨he, hb⟩ => ⟨he, ⟨w', x.h.trans (hb.mono x.h.size)⟩, rfl⟩
def Own (w : World) (b : Nat) (cs : List Value) (t : TypeId) : Prop := w.heap[b]? = some (.cells cs.toArray t (0, 0))
theorem own_new (w : World) (cs : Array Value) (t : TypeId) : Own (w.alloc (.cells cs t)) w.heap.size cs.toList t := by
 show (w.heap.push _)[w.heap.size]? = _
 simp
theorem own_at {w : World} {n : Nat} (cs : List Value) (t : TypeId) (hn : n = w.heap.size) : Own (w.alloc (.cells cs.toArray t)) n cs t := by
 subst hn; exact own_new w cs.toArray t
theorem Own.lt {w : World} {b : Nat} {cs : List Value} {t : TypeId} (h : Own w b cs t) : b < w.heap.size := (Array.getElem?_eq_some_iff.1 h).1
theorem Own.alloc {w : World} {b : Nat} {cs : List Value} {t : TypeId} (h : Own w b cs t) (o : Obj) : Own (w.alloc o) b cs t := by
 show (w.heap.push o)[b]? = _
 rw [Array.getElem?_push, if_neg (by have := h.lt; omega)]; exact h
theorem Own.drew {w : World} {b : Nat} {cs : List Value} {t : TypeId} (h : Own w b cs t) : Own w.drew b cs t := h
theorem Own.drewN {w : World} {b : Nat} {cs : List Value} {t : TypeId} (h : Own w b cs t) (n : Nat) : Own (w.drewN n) b cs t := h
theorem Own.below {w w' : World} {b : Nat} {cs : List Value} {t : TypeId} (h : Own w b cs t) (hb : Below w.heap.size w w') : Own w' b cs t := (hb.block b h.lt).trans h
theorem Own.past {w : World} {b : Nat} {cs : List Value} {t : TypeId} (h : Own w b cs t) (x : Past w) : Own (past w x) b cs t := h.below x.h
theorem Own.set {w : World} {b : Nat} {cs : List Value} {t : TypeId} (h : Own w b cs t) (i : Nat) (v : Value) : Own (w.setCell ⟨b, i, none⟩ v) b (cs.set i v) t := by
 show (w.heap.modify b _)[b]? = _
 rw [Array.getElem?_modify, if_pos rfl, show w.heap[b]? = _ from h]
 simp
theorem Own.other {w : World} {b : Nat} {cs : List Value} {t : TypeId} (h : Own w b cs t) {a : Addr} (hne : b ≠ a.block) (v : Value) : Own (w.setCell a v) b cs t :=
 (Below.heap_setCell w a v b hne).trans h
theorem Own.cell {w : World} {b : Nat} {cs : List Value} {t : TypeId} (h : Own w b cs t) {i : Nat} {x : Value} (hx : cs[i]? = some x) : w.cell? ⟨b, i, none⟩ = some x := by
 simp only [World.cell?, show w.heap[b]? = _ from h]
 simpa using hx
theorem Own.frozen {w : World} {b : Nat} {cs : List Value} {t : TypeId} (h : Own w b cs t) (o : Nat) : w.frozen? ⟨b, o, none⟩ = false := by
 simp only [World.frozen?, show w.heap[b]? = _ from h]
 simp
theorem own1 {w : World} {b : Nat} {t : TypeId} {x0 : Value} (h : Own w b [x0] t) : w.cell? ⟨b, 0, none⟩ = some x0 ∧ (∀ o, w.frozen? ⟨b, o, none⟩ = false) ∧ b < w.heap.size := ⟨h.cell rfl, h.frozen, h.lt⟩
theorem own2 {w : World} {b : Nat} {t : TypeId} {x0 x1 : Value} (h : Own w b [x0, x1] t) : w.cell? ⟨b, 0, none⟩ = some x0 ∧ w.cell? ⟨b, 1, none⟩ = some x1 ∧ (∀ o, w.frozen? ⟨b, o, none⟩ = false) ∧ b < w.heap.size := ⟨h.cell rfl, h.cell rfl, h.frozen, h.lt⟩
theorem own3 {w : World} {b : Nat} {t : TypeId} {x0 x1 x2 : Value} (h : Own w b [x0, x1, x2] t) : w.cell? ⟨b, 0, none⟩ = some x0 ∧ w.cell? ⟨b, 1, none⟩ = some x1 ∧ w.cell? ⟨b, 2, none⟩ = some x2 ∧ (∀ o, w.frozen? ⟨b, o, none⟩ = false) ∧ b < w.heap.size := ⟨h.cell rfl, h.cell rfl, h.cell rfl, h.frozen, h.lt⟩
theorem own4 {w : World} {b : Nat} {t : TypeId} {x0 x1 x2 x3 : Value} (h : Own w b [x0, x1, x2, x3] t) : w.cell? ⟨b, 0, none⟩ = some x0 ∧ w.cell? ⟨b, 1, none⟩ = some x1 ∧ w.cell? ⟨b, 2, none⟩ = some x2 ∧ w.cell? ⟨b, 3, none⟩ = some x3 ∧ (∀ o, w.frozen? ⟨b, o, none⟩ = false) ∧ b < w.heap.size := ⟨h.cell rfl, h.cell rfl, h.cell rfl, h.cell rfl, h.frozen, h.lt⟩
end Go.Proofs.YtmopiifamopidaaGreat
end
section
namespace Go.Proofs.YtmopiifamopidaaGreat
open Go.ChangeShapes Go.WideShapes Go.Deep Go.RowKit
def flatK (P : Program) : Nat → TypeId → Option (List (Option IntKind))
 | 0, _ => none
 | n + 1, t =>
  match P.underlying t with
  | some (.int k) => some [some k]
  | some .bool => some [none]
  | some (.struct fs) => (fs.toList.mapM fun f => flatK P n f.type).map List.flatten
  | _ => none
def packed (P : Program) : Nat → List Field → Bool
 | _, [] => true
 | o, f :: l => f.offset == o && packed P (o + P.cellsOf f.type) l
def packedT (P : Program) : Nat → TypeId → Bool
 | 0, _ => false
 | n + 1, t =>
  match P.underlying t with
  | some (.int _) => P.cellsOf t == 1
  | some .bool => P.cellsOf t == 1
  | some (.struct fs) => packed P 0 fs.toList && (P.cellsOf t == (fs.toList.map fun f => P.cellsOf f.type).sum) && fs.toList.all fun f => packedT P n f.type
  | _ => false
theorem okCells_append : ∀ {a b : List (Option IntKind)} {x y : List Value}, okCells a x → okCells b y → okCells (a ++ b) (x ++ y)
 | [], _, _, _, h, k => by simp only [okCells] at h; subst h; simpa using k
 | some _ :: a, _, _, _, h, k => by
  obtain ⟨n, vs, rfl, hn, h⟩ := h
  exact ⟨n, vs ++ _, rfl, hn, okCells_append h k⟩
 | none :: a, _, _, _, h, k => by
  obtain ⟨n, vs, rfl, h⟩ := h
  exact ⟨n, vs ++ _, rfl, okCells_append h k⟩
theorem okCells_len : ∀ {a : List (Option IntKind)} {x : List Value}, okCells a x → x.length = a.length
 | [], _, h => by simp only [okCells] at h; subst h; rfl
 | some _ :: a, _, h => by obtain ⟨n, vs, rfl, hn, h⟩ := h; simp [okCells_len h]
 | none :: a, _, h => by obtain ⟨n, vs, rfl, h⟩ := h; simp [okCells_len h]
section
variable {H : Type} {enc : TypeId × Value → H} {P : Program} {w : World} {base : Nat} {spare : Nat → Bool} {held : Bool}
theorem flat_fields {n m : Nat} (ih : ∀ (t : TypeId) (cs : List Value) (x : DataW H × List MemPlace) (ks : List (Option IntKind)), flatK P n t = some ks → packedT P n t = true → DataW.trod enc P w base spare held m t cs = some x → okCells ks cs) :
  ∀ (l : List Field) (o : Nat) (cs : List Value) (kss : List (List (Option IntKind))), l.mapM (fun f => flatK P n f.type) = some kss → packed P o l = true → (l.all fun f => packedT P n f.type) = true →
   cs.length = o + (l.map fun f => P.cellsOf f.type).sum → (∀ f ∈ l, ∃ y, DataW.trod enc P w base spare held m f.type ((cs.drop f.offset).take (P.cellsOf f.type)) = some y) → okCells kss.flatten (cs.drop o)
 | [], o, cs, kss, h, _, _, hl, _ => by
  simp at h hl
  subst h
  simp only [List.flatten_nil, okCells]
  exact List.drop_of_length_le (by omega)
 | f :: l, o, cs, kss, h, hp, ha, hl, ht => by
  simp only [List.mapM_cons, Option.bind_eq_bind, Option.bind_eq_some_iff] at h
  obtain ⟨k, hk, kl, hkl, e⟩ := h
  simp only [pure, Option.some.injEq] at e
  subst e
  simp only [packed, Bool.and_eq_true, beq_iff_eq] at hp
  simp only [List.all_cons, Bool.and_eq_true] at ha
  obtain ⟨rfl, hp⟩ := hp
  obtain ⟨y, hy⟩ := ht f (by simp)
  have h1 := ih f.type _ y k hk ha.1 hy
  have h2 := flat_fields ih l (f.offset + P.cellsOf f.type) cs kl hkl hp ha.2 (by simp at hl; omega) (fun g hg => ht g (by simp [hg]))
  rw [List.flatten_cons, show cs.drop f.offset = (cs.drop f.offset).take (P.cellsOf f.type) ++ cs.drop (f.offset + P.cellsOf f.type) by rw [← List.drop_drop, List.take_append_drop]]
  exact okCells_append h1 h2
theorem trod_flat : ∀ (n m : Nat) (t : TypeId) (cs : List Value) (x : DataW H × List MemPlace) (ks : List (Option IntKind)), flatK P n t = some ks → packedT P n t = true → DataW.trod enc P w base spare held m t cs = some x → okCells ks cs := by
 intro n
 induction n with
 | zero => intro m t cs x ks h; simp [flatK] at h
 | succ n ih =>
  intro m t cs x ks hk hp h
  unfold flatK at hk
  unfold packedT at hp
  cases hu : P.underlying t with
  | none => simp [hu] at hk
  | some d =>
   cases d <;> simp [hu] at hk
   ·subst hk
    obtain ⟨b, rfl, _⟩ := DataW.trod_bool hu h
    exact ⟨b, [], rfl, rfl⟩
   ·subst hk
    cases m with
    | zero => simp [DataW.trod] at h
    | succ m =>
     unfold DataW.trod at h
     simp only [hu] at h
     split at h <;> simp_all
     obtain ⟨h1, h2⟩ := h
     exact ⟨_, [], rfl, by simpa [Lit.wf, IntKind.has] using h1.2, rfl⟩
   ·rename_i fs
    obtain ⟨kss, hm, rfl⟩ := hk
    simp only [hu, Bool.and_eq_true, beq_iff_eq] at hp
    obtain ⟨ys, n', _, _, hlen, hyl, hf⟩ := DataW.trod_struct hu h
    have := flat_fields (n := n) (m := n') (fun t cs x ks h1 h2 h3 => ih n' t cs x ks h1 h2 h3) fs.toList 0 cs kss hm hp.1.1 hp.2 (by rw [hlen, hp.1.2]; omega) (fun f hfm => by
     obtain ⟨j, hj⟩ := List.getElem?_of_mem hfm
     have hj' : fs[j]? = some f := by simpa using hj
     have h1 := hf j f hj'
     cases hy : ys[j]? with
     | none =>
      have := (Array.getElem?_eq_some_iff.1 hj').1
      have := List.getElem?_eq_none_iff.1 hy
      omega
     | some y => rw [hy] at h1; exact ⟨y, by first | exact h1 | exact h1.symm⟩)
    simpa using this
def SlV (w : World) (v : Value) (k : Nat) (rows : List (List Value)) : Prop :=
 ∃ p cap, v = .slice p rows.length cap ∧ rows.length ≤ cap ∧ cap ≤ maxLen ∧ (p = none → cap = 0) ∧ ∀ i cs, rows[i]? = some cs → ∃ b off, p = some ⟨b, off, none⟩ ∧ b < w.heap.size ∧ ∀ j x, cs[j]? = some x → w.cell? ⟨b, off + i * k + j, none⟩ = some x
theorem lt_of_cellF {w : World} {a : Addr} {v : Value} (h : w.cell? a = some v) : a.block < w.heap.size := by
 rcases Nat.lt_or_ge a.block w.heap.size with h' | h'
 ·exact h'
 ·simp [World.cell?, Array.getElem?_eq_none h'] at h
theorem open_slv {t e : TypeId} {ks : List (Option IntKind)} {n fuel : Nat} {v : Value} {x : DataW H × List MemPlace} (ht : P.underlying t = some (.slice e)) (hk : flatK P n e = some ks) (hp : packedT P n e = true) (hC : P.cellsOf e = ks.length) (hk0 : 0 < ks.length)
  (h : DataW.trod enc P w base spare held fuel t [v] = some x) : ∃ rows, SlV w v ks.length rows ∧ ∀ cs ∈ rows, okCells ks cs := by
 rcases open_slice ht h with ⟨h0, _⟩ | ⟨a, len, cap, m, n', D, Pl, hcs, hb, hl, hm, hmm, hx, hi⟩
 ·exact ⟨[], ⟨none, 0, by simpa using h0, Nat.le_refl _, Nat.zero_le _, fun _ => rfl, fun i cs hi => by simp at hi⟩, by simp⟩
 ·obtain rfl : v = .slice (some a) len cap := by simpa using hcs
  have hlm : len ≤ m := by rw [hmm]; split <;> omega
  have hrow : ∀ i, i < len → ∃ cs : List Value, okCells ks cs ∧ ∀ j x, cs[j]? = some x → w.cell? (a.add (i * ks.length + j)) = some x := by
   intro i hil
   obtain ⟨cs', hc, ht'⟩ := hi i (by omega)
   rw [hC] at hc
   obtain ⟨_, hcl, hat⟩ := World.cells?_some hc
   refine ⟨cs', trod_flat n n' e cs' _ ks hk hp ht', fun j x hj => ?_⟩
   have := hat j (by have := (List.getElem?_eq_some_iff.1 hj).1; omega)
   rw [Go.Deep.add_add] at this
   rw [this]; exact hj
  obtain ⟨R, hR⟩ := choose_lt (α := List Value) (p := fun i cs => okCells ks cs ∧ ∀ j x, cs[j]? = some x → w.cell? (a.add (i * ks.length + j)) = some x) hrow
  refine ⟨(List.range len).map R, ⟨some a, cap, by simp, by simpa using hl, hm, (fun e => (by cases e)), fun i cs hics => ?_⟩, fun cs hcs' => ?_⟩
  ·have hil : i < len := by
    have := (List.getElem?_eq_some_iff.1 hics).1
    simpa using this
   have e : R i = cs := by simpa [hil] using hics
   obtain ⟨q1, q2⟩ := hR i hil
   rw [e] at q1 q2
   have hlen := okCells_len q1
   obtain ⟨bb, off, spot⟩ := a
   have c0 : cs[0]? = some (cs[0]'(by omega)) := List.getElem?_eq_getElem (by omega)
   have k0 := q2 0 _ c0
   have hspot : spot = none := by
    obtain ⟨r1, r2⟩ := hR 0 (by omega)
    have hlen0 := okCells_len r1
    have k00 := r2 0 _ (List.getElem?_eq_getElem (by omega))
    simpa [Addr.add] using World.cell?_spot k00
   subst hspot
   rw [Go.WideShapes.add_plain] at k0
   refine ⟨bb, off, rfl, lt_of_cellF k0, fun j x hj => ?_⟩
   have := q2 j x hj
   rw [Go.WideShapes.add_plain] at this
   rw [show off + i * ks.length + j = off + (i * ks.length + j) by omega]
   exact this
  ·obtain ⟨i, hil, rfl⟩ := List.mem_map.1 hcs'
   exact (hR i (by simpa using hil)).1
end
theorem SlV.below {w w' : World} {v : Value} {k : Nat} {rows : List (List Value)} (h : SlV w v k rows) (hb : Below w.heap.size w w') : SlV w' v k rows := by
 obtain ⟨p, cap, h1, h2, h3, h4, h5⟩ := h
 refine ⟨p, cap, h1, h2, h3, h4, fun i cs hi => ?_⟩
 obtain ⟨b, off, e, hlt, hc⟩ := h5 i cs hi
 exact ⟨b, off, e, Nat.lt_of_lt_of_le hlt hb.size, fun j x hx => by rw [← hc j x hx]; exact hb.cell (p := ⟨b, off + i * k + j, none⟩) hlt⟩
theorem rows_typedP {α : Type} {f : α → List Value} {Q : α → Prop} : ∀ {rows : List (List Value)}, (∀ cs ∈ rows, ∃ a, cs = f a ∧ Q a) → ∃ aS : List α, rows = aS.map f ∧ ∀ a ∈ aS, Q a
 | [], _ => ⟨[], rfl, by simp⟩
 | cs :: rows, h => by
  obtain ⟨a, rfl, hq⟩ := h cs (by simp)
  obtain ⟨aS, rfl, hqs⟩ := rows_typedP (rows := rows) (fun c hc => h c (by simp [hc]))
  exact ⟨a :: aS, rfl, by simpa [hq] using hqs⟩
end Go.Proofs.YtmopiifamopidaaGreat
end
section
namespace Go.Proofs.YtmopiifamopidaaGreat
open Go.RowKit
structure Lay (α : Type) where
 f : α → List Value
 k : Nat
 pos : 0 < k
 len : ∀ a, (f a).length = k
 one : ∀ a, ∀ u ∈ f a, u.oneCell' = true
variable {α : Type} (L : Lay α)
def SlT (w : World) (v : Value) (aS : List α) : Prop := SlV w v L.k (aS.map L.f)
variable {L}
theorem SlT.below {w w' : World} {v : Value} {aS : List α} (h : SlT L w v aS) (hb : Below w.heap.size w w') : SlT L w' v aS := SlV.below h hb
theorem slt_nil (w : World) : SlT L w (.slice none 0 0) [] := ⟨none, 0, rfl, Nat.le_refl _, Nat.zero_le _, fun _ => rfl, fun i cs h => by simp at h⟩
theorem SlT.form {w : World} {v : Value} {aS : List α} (n : Nat) (h : SlT L w v aS) (hn : aS.length = n) : ∃ p cap, v = .slice p n cap ∧ n ≤ cap ∧ cap ≤ maxLen ∧ (p = none → cap = 0) := by
 obtain ⟨p, cap, h1, h2, h3, h4, _⟩ := h
 rw [List.length_map, hn] at h1 h2
 exact ⟨p, cap, h1, h2, h3, h4⟩
theorem SlT.none_len {w : World} {p : Option Addr} {n cap : Nat} {aS : List α} (h : SlT L w (.slice p n cap) aS) : p = none → aS = [] := by
 intro hp
 obtain ⟨p', cap', e, h2, h3, h4, _⟩ := h
 rw [List.length_map] at e h2
 injection e with e1 e2 e3
 subst e1 e3
 have := h4 hp
 exact List.eq_nil_of_length_eq_zero (by omega)
theorem SlT.at {w w' : World} {p : Option Addr} {n cap : Nat} {aS : List α} (h : SlT L w (.slice p n cap) aS) (bel : Below w.heap.size w w') {i : Nat} (hi : i < aS.length) :
  ∃ a b off, aS[i]? = some a ∧ p = some ⟨b, off, none⟩ ∧ b < w'.heap.size ∧ b < w.heap.size ∧ ∀ j x, (L.f a)[j]? = some x → w'.cell? ⟨b, off + i * L.k + j, none⟩ = some x := by
 obtain ⟨p', cap', e, h2, h3, h4, h5⟩ := h
 injection e with e1 e2 e3
 subst e1 e3
 obtain ⟨b, off, hp, hb, hc⟩ := h5 i (L.f aS[i]) (by rw [List.getElem?_map, List.getElem?_eq_getElem hi]; rfl)
 exact ⟨aS[i], b, off, List.getElem?_eq_getElem hi, hp, Nat.lt_of_lt_of_le hb bel.size, hb, fun j x hx => by rw [← hc j x hx]; exact bel.cell (p := ⟨b, off + i * L.k + j, none⟩) hb⟩
variable (L)
def flatT (aS : List α) : List Value := aS.flatMap L.f
variable {L}
theorem flatT_len (aS : List α) : (flatT L aS).length = aS.length * L.k := by
 unfold flatT
 induction aS with
 | nil => simp
 | cons r rs ih => rw [List.flatMap_cons, List.length_append, ih, L.len, List.length_cons, Nat.succ_mul]; omega
theorem flatT_append (rs ss : List α) : flatT L (rs ++ ss) = flatT L rs ++ flatT L ss := by simp [flatT]
theorem flatT_one (r : α) : flatT L [r] = L.f r := by simp [flatT]
theorem flatT_cell {aS : List α} : ∀ u ∈ flatT L aS, u.oneCell' = true := by
 intro u hu
 simp only [flatT, List.mem_flatMap] at hu
 obtain ⟨a, _, ha⟩ := hu
 exact L.one a u ha
theorem flatT_at : ∀ {rs : List α} {i : Nat} {r : α} {j : Nat} {x : Value}, rs[i]? = some r → (L.f r)[j]? = some x → (flatT L rs)[i * L.k + j]? = some x
 | [], i, r, j, x, h, _ => by simp at h
 | s :: rs, 0, r, j, x, h, hx => by
  obtain rfl : s = r := by simpa using h
  have hj : j < (L.f s).length := (List.getElem?_eq_some_iff.1 hx).1
  rw [flatT, List.flatMap_cons, List.getElem?_append_left (by omega)]
  simpa using hx
 | s :: rs, i + 1, r, j, x, h, hx => by
  rw [flatT, List.flatMap_cons, List.getElem?_append_right (by rw [L.len, Nat.succ_mul]; omega), L.len, show (i + 1) * L.k + j - L.k = i * L.k + j by rw [Nat.succ_mul]; omega]
  exact flatT_at (rs := rs) (by simpa using h) hx
theorem flatT_inv : ∀ {rs : List α} {j : Nat} {x : Value}, (flatT L rs)[j]? = some x → ∃ i r k, rs[i]? = some r ∧ (L.f r)[k]? = some x ∧ j = i * L.k + k
 | [], j, x, h => by simp [flatT] at h
 | s :: rs, j, x, h => by
  rw [flatT, List.flatMap_cons] at h
  by_cases hj : j < L.k
  ·rw [List.getElem?_append_left (by rw [L.len]; exact hj)] at h
   exact ⟨0, s, j, rfl, h, by omega⟩
  ·rw [List.getElem?_append_right (by rw [L.len]; omega), L.len] at h
   obtain ⟨i, r, k, h1, h2, h3⟩ := flatT_inv (rs := rs) h
   exact ⟨i + 1, r, k, by simpa using h1, h2, by rw [Nat.succ_mul]; omega⟩
theorem slt_of_own {w : World} {base : Nat} {t : TypeId} {v : Value} {aS : List α} (h : w.ownsRow base t L.k v aS.length (flatT L aS)) : SlT L w v aS := by
 obtain ⟨hl, h⟩ := h
 rcases h with ⟨rfl, h0⟩ | ⟨g, cap, cur, rfl, hb, hg, hle, hcap, hsz, htk⟩
 ·have : aS = [] := List.eq_nil_of_length_eq_zero h0
  subst this
  exact slt_nil w
 ·refine ⟨_, cap, by rw [List.length_map], by rwa [List.length_map], hcap, (fun e => (by cases e)), fun i cs hi => ?_⟩
  rw [List.getElem?_map] at hi
  cases e : aS[i]? with
  | none => rw [e] at hi; cases hi
  | some a =>
   rw [e] at hi
   obtain rfl : L.f a = cs := by simpa using hi
   refine ⟨g, 0, rfl, (Array.getElem?_eq_some_iff.1 hg).1, fun j x hx => ?_⟩
   have hat := flatT_at e hx
   rw [← htk] at hat
   have hlt : i * L.k + j < aS.length * L.k := by
    have := (List.getElem?_eq_some_iff.1 hat).1
    rw [List.length_take] at this
    omega
   rw [List.getElem?_take_of_lt hlt] at hat
   simp only [World.cell?, hg]
   simpa using hat
theorem SlT.olds {w : World} {p : Option Addr} {n cap : Nat} {aS : List α} (h : SlT L w (.slice p n cap) aS) : ∀ b, p = some b → ∀ j u, (flatT L aS)[j]? = some u → w.cell? (b.add j) = some u := by
 intro b hb j u hu
 obtain ⟨i, r, k, hi, hk, rfl⟩ := flatT_inv hu
 obtain ⟨a, b', off, ha, hp, _, _, hc⟩ := h.at (Below.refl _ _) (i := i) (List.getElem?_eq_some_iff.1 hi).1
 obtain rfl : a = r := by rw [hi] at ha; exact (Option.some.inj ha).symm
 have : b = ⟨b', off, none⟩ := by rw [hp] at hb; exact (Option.some.inj hb).symm
 subst this
 rw [Go.WideShapes.add_plain, show off + (i * L.k + k) = off + i * L.k + k by omega]
 exact hc k u hk
theorem SlT.front {w : World} {p : Option Addr} {n cap k c : Nat} {aS : List α} (h : SlT L w (.slice p n cap) aS) (hk : k ≤ aS.length) (hc : k ≤ c) (hcc : c ≤ cap) : SlT L w (.slice p k c) (aS.take k) := by
 obtain ⟨p', cap', e, h2, h3, h4, h5⟩ := h
 rw [List.length_map] at e h2
 injection e with e1 e2 e3
 subst e1 e3
 refine ⟨p, c, by rw [List.length_map, List.length_take, Nat.min_eq_left hk], by rw [List.length_map, List.length_take, Nat.min_eq_left hk]; exact hc, by omega, fun hp => by have := h4 hp; omega, fun i cs hi => ?_⟩
 rw [List.getElem?_map] at hi
 rcases Nat.lt_or_ge i k with hik | hik
 ·rw [List.getElem?_take_of_lt hik] at hi
  exact h5 i cs (by rw [List.getElem?_map]; exact hi)
 ·rw [List.getElem?_take_eq_none hik] at hi; cases hi
theorem SlT.back {w : World} {b off n cap k : Nat} {aS : List α} (h : SlT L w (.slice (some ⟨b, off, none⟩) n cap) aS) : SlT L w (.slice (some ⟨b, off + k * L.k, none⟩) (n - k) (cap - k)) (aS.drop k) := by
 obtain ⟨p', cap', e, h2, h3, h4, h5⟩ := h
 rw [List.length_map] at e h2
 injection e with e1 e2 e3
 subst e1 e2 e3
 refine ⟨_, cap - k, by rw [List.length_map, List.length_drop], by rw [List.length_map, List.length_drop]; omega, by omega, (fun e => (by cases e)), fun i cs hi => ?_⟩
 rw [List.getElem?_map, List.getElem?_drop] at hi
 obtain ⟨b', off', e', hlt, hc⟩ := h5 (k + i) cs (by rw [List.getElem?_map]; exact hi)
 cases e'
 exact ⟨b, _, rfl, hlt, fun j x hx => by rw [show off + k * L.k + i * L.k + j = off + (k + i) * L.k + j by rw [Nat.add_mul]; omega]; exact hc j x hx⟩
theorem newsT (w : World) (a : α) (t : TypeId) : ∀ j u, (L.f a)[j]? = some u → (w.alloc (.cells (L.f a).toArray t)).cell? ((⟨w.heap.size, 0, none⟩ : Addr).add j) = some u := fun j u h => by
 rw [Go.WideShapes.add_plain, Nat.zero_add]
 exact (own_new w _ t).cell (by simpa using h)
theorem belowSet' {B : Nat} {a w : World} (h : Below B a w) (b i : Nat) (v : Value) (hp : B ≤ b) : Below B a (w.setCell ⟨b, i, none⟩ v) := h.setCell hp v
end Go.Proofs.YtmopiifamopidaaGreat
end
section
namespace Go.Proofs.YtmopiifamopidaaGreat
open Go.RowKit
structure Us where
 s : Int
 o : Int
 p : Int
 m : Int
structure Gr where
 s : Int
 o : Int
 p : Int
 m : Int
 u : Int
structure Ak where
 s : Int
 o : Int
 p : Int
def Us.cells (d : Us) : List Value := [.int .i64 d.s, .int .i64 d.o, .int .i64 d.p, .int .i64 d.m]
def Gr.cells (d : Gr) : List Value := [.int .i64 d.s, .int .i64 d.o, .int .i64 d.p, .int .i64 d.m, .int .i64 d.u]
def Ak.cells (d : Ak) : List Value := [.int .i64 d.s, .int .i64 d.o, .int .i64 d.p]
def usL : Lay Us := ⟨Us.cells, 4, by decide, fun _ => rfl, fun a u h => by simp only [Us.cells, List.mem_cons, List.not_mem_nil, or_false] at h; rcases h with rfl | rfl | rfl | rfl <;> rfl⟩
def grL : Lay Gr := ⟨Gr.cells, 5, by decide, fun _ => rfl, fun a u h => by simp only [Gr.cells, List.mem_cons, List.not_mem_nil, or_false] at h; rcases h with rfl | rfl | rfl | rfl | rfl <;> rfl⟩
def akL : Lay Ak := ⟨Ak.cells, 3, by decide, fun _ => rfl, fun a u h => by simp only [Ak.cells, List.mem_cons, List.not_mem_nil, or_false] at h; rcases h with rfl | rfl | rfl <;> rfl⟩
abbrev SlU (w : World) (v : Value) (aS : List Us) : Prop := SlT usL w v aS
abbrev SlG (w : World) (v : Value) (aS : List Gr) : Prop := SlT grL w v aS
abbrev SlA (w : World) (v : Value) (aS : List Ak) : Prop := SlT akL w v aS
theorem SlT.atU {w w' : World} {p : Option Addr} {n cap : Nat} {aS : List Us} (h : SlU w (.slice p n cap) aS) (bel : Below w.heap.size w w') {i : Nat} (hi : i < aS.length) :
  ∃ a b off, aS[i]? = some a ∧ p = some ⟨b, off, none⟩ ∧ b < w'.heap.size ∧ b < w.heap.size ∧ w'.cell? ⟨b, off + i * 4, none⟩ = some (.int .i64 a.s) ∧ w'.cell? ⟨b, off + i * 4 + 1, none⟩ = some (.int .i64 a.o) ∧ w'.cell? ⟨b, off + i * 4 + 2, none⟩ = some (.int .i64 a.p) ∧ w'.cell? ⟨b, off + i * 4 + 3, none⟩ = some (.int .i64 a.m) := by
 obtain ⟨a, b, off, h1, h2, h3, h4, h5⟩ := h.at bel hi
 exact ⟨a, b, off, h1, h2, h3, h4, h5 0 _ rfl, h5 1 _ rfl, h5 2 _ rfl, h5 3 _ rfl⟩
theorem SlT.atG {w w' : World} {p : Option Addr} {n cap : Nat} {aS : List Gr} (h : SlG w (.slice p n cap) aS) (bel : Below w.heap.size w w') {i : Nat} (hi : i < aS.length) :
  ∃ a b off, aS[i]? = some a ∧ p = some ⟨b, off, none⟩ ∧ b < w'.heap.size ∧ b < w.heap.size ∧ w'.cell? ⟨b, off + i * 5, none⟩ = some (.int .i64 a.s) ∧ w'.cell? ⟨b, off + i * 5 + 1, none⟩ = some (.int .i64 a.o) ∧ w'.cell? ⟨b, off + i * 5 + 2, none⟩ = some (.int .i64 a.p) ∧ w'.cell? ⟨b, off + i * 5 + 3, none⟩ = some (.int .i64 a.m) ∧ w'.cell? ⟨b, off + i * 5 + 4, none⟩ = some (.int .i64 a.u) := by
 obtain ⟨a, b, off, h1, h2, h3, h4, h5⟩ := h.at bel hi
 exact ⟨a, b, off, h1, h2, h3, h4, h5 0 _ rfl, h5 1 _ rfl, h5 2 _ rfl, h5 3 _ rfl, h5 4 _ rfl⟩
theorem SlT.atA {w w' : World} {p : Option Addr} {n cap : Nat} {aS : List Ak} (h : SlA w (.slice p n cap) aS) (bel : Below w.heap.size w w') {i : Nat} (hi : i < aS.length) :
  ∃ a b off, aS[i]? = some a ∧ p = some ⟨b, off, none⟩ ∧ b < w'.heap.size ∧ b < w.heap.size ∧ w'.cell? ⟨b, off + i * 3, none⟩ = some (.int .i64 a.s) ∧ w'.cell? ⟨b, off + i * 3 + 1, none⟩ = some (.int .i64 a.o) ∧ w'.cell? ⟨b, off + i * 3 + 2, none⟩ = some (.int .i64 a.p) := by
 obtain ⟨a, b, off, h1, h2, h3, h4, h5⟩ := h.at bel hi
 exact ⟨a, b, off, h1, h2, h3, h4, h5 0 _ rfl, h5 1 _ rfl, h5 2 _ rfl⟩
def plcB (s o p N D : Int) : Bool := decide (0 ≤ s) && decide (s < D) && decide (0 ≤ o) && decide (o < 16) && decide (0 ≤ p) && decide (p < N)
def usB (N D : Int) (d : Us) : Bool := plcB d.s d.o d.p N D && decide (0 ≤ d.m) && decide (d.m ≤ 1000000000)
def grB (N D : Int) (d : Gr) : Bool := plcB d.s d.o d.p N D && decide (0 ≤ d.m) && decide (d.m ≤ d.u) && decide (d.u ≤ 1000000000)
def akB (N D : Int) (d : Ak) : Bool := plcB d.s d.o d.p N D
def layB (N D : Int) : Bool := decide (1 ≤ N) && decide (N ≤ 60) && decide (1 ≤ D) && decide (D ≤ 60)
theorem plcB_iff {s o p N D : Int} : plcB s o p N D = true ↔ (0 ≤ s ∧ s < D) ∧ (0 ≤ o ∧ o < 16) ∧ 0 ≤ p ∧ p < N := by
 simp only [plcB, Bool.and_eq_true, decide_eq_true_eq]; omega
theorem layB_iff {N D : Int} : layB N D = true ↔ (1 ≤ N ∧ N ≤ 60) ∧ 1 ≤ D ∧ D ≤ 60 := by
 simp only [layB, Bool.and_eq_true, decide_eq_true_eq]; omega
section
variable {α : Type}
def sndF (ok : α → Bool) (sl : α → Int) : Int → List α → Bool
 | _, [] => true
 | last, d :: l => ok d && decide (last < sl d) && sndF ok sl (sl d) l
theorem sndF_step {ok : α → Bool} {sl : α → Int} {rs : List α} {k : Nat} {r : α} {last : Int} (h : rs[k]? = some r) : sndF ok sl last (rs.drop k) = (ok r && decide (last < sl r) && sndF ok sl (sl r) (rs.drop (k + 1))) := by
 have hl : k < rs.length := (List.getElem?_eq_some_iff.1 h).1
 rw [List.drop_eq_getElem_cons hl, show rs[k] = r from (List.getElem?_eq_some_iff.1 h).2]
 rfl
theorem sndF_end {ok : α → Bool} {sl : α → Int} {rs : List α} {k : Nat} {last : Int} (h : rs.length ≤ k) : sndF ok sl last (rs.drop k) = true := by
 rw [List.drop_of_length_le h]; rfl
theorem sndF_spec {ok : α → Bool} {sl : α → Int} : ∀ {l : List α} {last : Int}, sndF ok sl last l = true ↔ (l.Pairwise (fun a b => sl a < sl b) ∧ ∀ d ∈ l, ok d = true ∧ last < sl d)
 | [], _ => by simp [sndF]
 | d :: l, last => by
  have ih := sndF_spec (ok := ok) (sl := sl) (l := l) (last := sl d)
  simp only [sndF, Bool.and_eq_true, decide_eq_true_eq, List.pairwise_cons, List.mem_cons, forall_eq_or_imp]
  rw [ih]
  constructor
  ·rintro ⟨⟨h1, h2⟩, h3, h4⟩
   exact ⟨⟨fun a ha => (h4 a ha).2, h3⟩, ⟨h1, h2⟩, fun a ha => ⟨(h4 a ha).1, Int.lt_trans h2 (h4 a ha).2⟩⟩
  ·rintro ⟨⟨h1, h2⟩, ⟨h3, h4⟩, h5⟩
   exact ⟨⟨h3, h4⟩, h2, fun a ha => ⟨(h5 a ha).1, h1 a ha⟩⟩
def idxF (q : α → Bool) : List α → Nat → Int
 | [], _ => -1
 | d :: l, i => if q d = true then i else idxF q l (i + 1)
def idxD (q : α → Bool) (l : List α) : Int := idxF q l 0
theorem idxF_hit {q : α → Bool} {rs : List α} {k : Nat} {r : α} (h : rs[k]? = some r) (hb : q r = true) : idxF q (rs.drop k) k = k := by
 have hl : k < rs.length := (List.getElem?_eq_some_iff.1 h).1
 rw [List.drop_eq_getElem_cons hl, show rs[k] = r from (List.getElem?_eq_some_iff.1 h).2]
 simp [idxF, hb]
theorem idxF_miss {q : α → Bool} {rs : List α} {k : Nat} {r : α} (h : rs[k]? = some r) (hb : q r = false) : idxF q (rs.drop k) k = idxF q (rs.drop (k + 1)) (k + 1) := by
 have hl : k < rs.length := (List.getElem?_eq_some_iff.1 h).1
 rw [List.drop_eq_getElem_cons hl, show rs[k] = r from (List.getElem?_eq_some_iff.1 h).2]
 simp [idxF, hb]
theorem idxF_end {q : α → Bool} {rs : List α} {k : Nat} (h : rs.length ≤ k) : idxF q (rs.drop k) k = -1 := by
 rw [List.drop_of_length_le h]; rfl
theorem idxF_cases {q : α → Bool} : ∀ (l : List α) (i : Nat), (idxF q l i = -1 ∧ l.any q = false) ∨ ∃ k r, l[k]? = some r ∧ q r = true ∧ idxF q l i = ((i + k : Nat) : Int) ∧ l.any q = true ∧ l.find? q = some r ∧ (l.take k).any q = false
 | [], i => Or.inl ⟨rfl, rfl⟩
 | r :: l, i => by
  cases h : q r with
  | true => exact Or.inr ⟨0, r, rfl, h, by simp [idxF, h], by simp [h], by simp [h], by simp⟩
  | false =>
   rcases idxF_cases (q := q) l (i + 1) with ⟨h1, h2⟩ | ⟨k, s, h1, h2, h3, h4, h5, h6⟩
   ·exact Or.inl ⟨by simp [idxF, h, h1], by simp [h, h2]⟩
   ·exact Or.inr ⟨k + 1, s, by simpa using h1, h2, by simp only [idxF, h, h3, if_neg (show ¬ (false = true) by simp)]; omega, by simp [h, h4], by simp [h, h5], by simp [h, h6]⟩
theorem idx_cases (q : α → Bool) (l : List α) : (idxD q l = -1 ∧ l.any q = false) ∨ ∃ (k : Nat) (r : α), l[k]? = some r ∧ q r = true ∧ idxD q l = (k : Int) ∧ l.any q = true ∧ l.find? q = some r ∧ (l.take k).any q = false := by
 simpa [idxD] using idxF_cases (q := q) l 0
theorem idx_any (q : α → Bool) (l : List α) : decide (0 ≤ idxD q l) = l.any q := by
 rcases idx_cases q l with ⟨h1, h2⟩ | ⟨k, r, _, _, h1, h2, _⟩
 ·rw [h1, h2]; rfl
 ·rw [h1, h2]; simp
def DelR (keep : α → Bool) (ls : List α) (j : Nat) (row qs mid : List α) : Prop := row = qs ++ mid ++ ls.drop j ∧ qs = (ls.take j).filter keep ∧ 0 < mid.length ∧ qs.length + mid.length = j
theorem delR_at {keep : α → Bool} {ls row qs mid : List α} {j : Nat} {d : α} (h : DelR keep ls j row qs mid) (hd : ls[j]? = some d) : row[j]? = some d := by
 obtain ⟨rfl, _, _, hl⟩ := h
 have hj := (List.getElem?_eq_some_iff.1 hd).1
 rw [List.getElem?_append_right (by rw [List.length_append]; omega), List.length_append, hl, Nat.sub_self, List.drop_eq_getElem_cons hj]
 simpa using hd
theorem delR_keep {keep : α → Bool} {ls row qs mid : List α} {j : Nat} {d : α} (h : DelR keep ls j row qs mid) (hd : ls[j]? = some d) (hk : keep d = true) : ∃ mid', DelR keep ls (j + 1) (row.set qs.length d) (qs ++ [d]) mid' := by
 obtain ⟨rfl, hq, hm, hl⟩ := h
 have hj := (List.getElem?_eq_some_iff.1 hd).1
 have he : ls[j] = d := (List.getElem?_eq_some_iff.1 hd).2
 cases mid with
 | nil => simp at hm
 | cons m mid =>
  refine ⟨mid ++ [d], ?_, ?_, by simp, by simp at hl ⊢; omega⟩
  ·rw [List.drop_eq_getElem_cons hj, he]
   simp [List.set_append_right]
  ·rw [List.take_succ_eq_append_getElem hj, he, List.filter_append, ← hq]; simp [hk]
theorem delR_drop {keep : α → Bool} {ls row qs mid : List α} {j : Nat} {d : α} (h : DelR keep ls j row qs mid) (hd : ls[j]? = some d) (hk : keep d = false) : ∃ mid', DelR keep ls (j + 1) row qs mid' := by
 obtain ⟨rfl, hq, hm, hl⟩ := h
 have hj := (List.getElem?_eq_some_iff.1 hd).1
 have he : ls[j] = d := (List.getElem?_eq_some_iff.1 hd).2
 refine ⟨mid ++ [d], ?_, ?_, by simp, by simp; omega⟩
 ·rw [List.drop_eq_getElem_cons hj, he]; simp
 ·rw [List.take_succ_eq_append_getElem hj, he, List.filter_append, ← hq]; simp [hk]
theorem delR_start {q : α → Bool} {ls : List α} {k : Nat} {d : α} (hk : ls[k]? = some d) (hd : q d = true) (hp : (ls.take k).any q = false) : DelR (fun d => !q d) ls (k + 1) ls (ls.take k) [d] := by
 have hl := (List.getElem?_eq_some_iff.1 hk).1
 have he : ls[k] = d := (List.getElem?_eq_some_iff.1 hk).2
 have hq : (ls.take k).filter (fun d => !q d) = ls.take k := List.filter_eq_self.2 fun a ha => by
  have := List.any_eq_false.1 hp a ha; simpa using this
 refine ⟨?_, ?_, by simp, by simp; omega⟩
 ·have : ls = ls.take k ++ ls.drop k := (List.take_append_drop k ls).symm
  rw [List.drop_eq_getElem_cons hl, he] at this
  rw [List.append_assoc]; exact this
 ·rw [List.take_succ_eq_append_getElem hl, he, List.filter_append, hq]; simp [hd]
theorem filt_none {q : α → Bool} {ls : List α} (h : ls.any q = false) : ls.filter (fun d => !q d) = ls := List.filter_eq_self.2 fun a ha => by
 have := List.any_eq_false.1 h a ha; simpa using this
theorem delR_end {q : α → Bool} {ls row qs mid : List α} (h : DelR q ls ls.length row qs mid) : qs = ls.filter q ∧ row = qs ++ mid ∧ qs.length < ls.length ∧ mid.length = ls.length - qs.length := by
 obtain ⟨h1, h2, h3, h4⟩ := h
 rw [List.take_length] at h2
 rw [List.drop_length, List.append_nil] at h1
 exact ⟨h2, h1, by omega, by omega⟩
theorem take_snocG {aS : List α} {i : Nat} {a : α} (h : aS[i]? = some a) : aS.take (i + 1) = aS.take i ++ [a] := by
 obtain ⟨hl, he⟩ := List.getElem?_eq_some_iff.1 h
 rw [List.take_succ_eq_append_getElem hl, he]
theorem mem_of_at {aS : List α} {i : Nat} {a : α} (h : aS[i]? = some a) : a ∈ aS := List.mem_of_getElem? h
end
def oneB (us : List Us) (gs : List Gr) (ks : List Ak) : Bool := decide ((us.map Us.s ++ gs.map Gr.s ++ ks.map Ak.s).Nodup)
def sndU (N D : Int) (us : List Us) : Bool := sndF (usB N D) Us.s (-1) us
def sndG (N D : Int) (gs : List Gr) : Bool := sndF (grB N D) Gr.s (-1) gs
def sndA (N D : Int) (ks : List Ak) : Bool := sndF (akB N D) Ak.s (-1) ks
def lenB (us : List Us) (gs : List Gr) (ks : List Ak) : Bool := decide ((us.length : Int) + (gs.length : Int) ≤ 24) && decide ((ks.length : Int) ≤ 24)
def vldT (N D : Int) (us : List Us) (gs : List Gr) (ks : List Ak) : Bool := layB N D && (lenB us gs ks && (sndU N D us && (sndG N D gs && (sndA N D ks && oneB us gs ks))))
def bsyB (s : Int) (us : List Us) (gs : List Gr) : Bool := us.any (fun d => d.s == s) || gs.any (fun d => d.s == s)
end Go.Proofs.YtmopiifamopidaaGreat
end
section
namespace Go.Proofs.YtmopiifamopidaaGreat
open Go.RowKit
section
variable {α : Type}
def insL (q : α → Bool) (x : α) : List α → List α
 | [] => [x]
 | a :: l => if q a = true then x :: a :: l else a :: insL q x l
theorem insL_none {q : α → Bool} {x : α} : ∀ {l : List α}, l.any q = false → insL q x l = l ++ [x]
 | [], _ => rfl
 | a :: l, h => by
  simp only [List.any_cons, Bool.or_eq_false_iff] at h
  simp [insL, h.1, insL_none h.2]
theorem insL_some {q : α → Bool} {x r : α} : ∀ {l : List α} {k : Nat}, l[k]? = some r → q r = true → (l.take k).any q = false → insL q x l = l.take k ++ x :: l.drop k
 | [], k, h, _, _ => by simp at h
 | a :: l, 0, h, hq, _ => by
  simp at h; subst h; simp [insL, hq]
 | a :: l, k + 1, h, hq, hp => by
  simp only [List.take_succ_cons, List.any_cons, Bool.or_eq_false_iff] at hp
  have ih := insL_some (x := x) (l := l) (k := k) (by simpa using h) hq hp.2
  simp [insL, hp.1, ih]
theorem mem_insL {q : α → Bool} {x d : α} : ∀ {l : List α}, d ∈ insL q x l ↔ d = x ∨ d ∈ l
 | [] => by simp [insL]
 | a :: l => by
  unfold insL
  cases h : q a with
  | true => simp
  | false =>
   simp only [Bool.false_eq_true, if_false, List.mem_cons, mem_insL (l := l)]
   constructor
   ·rintro (h | h | h) <;> simp [h]
   ·rintro (h | h | h) <;> simp [h]
theorem length_insL {q : α → Bool} {x : α} : ∀ {l : List α}, (insL q x l).length = l.length + 1
 | [] => rfl
 | a :: l => by
  unfold insL
  cases h : q a with
  | true => simp
  | false => simp [length_insL (l := l)]
def Srt (sl : α → Int) (l : List α) : Prop := l.Pairwise (fun a b => sl a < sl b)
theorem srt_ext {sl : α → Int} : ∀ {l m : List α}, Srt sl l → Srt sl m → (∀ d, d ∈ l ↔ d ∈ m) → l = m
 | [], [], _, _, _ => rfl
 | [], b :: m, _, _, h => by have := (h b).2 (by simp); simp at this
 | a :: l, [], _, _, h => by have := (h a).1 (by simp); simp at this
 | a :: l, b :: m, h1, h2, h => by
  obtain ⟨p1, q1⟩ := List.pairwise_cons.1 h1
  obtain ⟨p2, q2⟩ := List.pairwise_cons.1 h2
  have ha := (h a).1 (by simp)
  have hb := (h b).2 (by simp)
  simp only [List.mem_cons] at ha hb
  obtain rfl : a = b := by
   rcases ha with ha | ha
   ·exact ha
   ·rcases hb with hb | hb
    ·exact hb.symm
    ·have := p1 _ hb; have := p2 _ ha; omega
  rw [srt_ext q1 q2 fun d => ?_]
  have hd := h d
  simp only [List.mem_cons] at hd
  constructor
  ·intro hm
   rcases hd.1 (Or.inr hm) with e | hm'
   ·subst e; have := p1 _ hm; omega
   ·exact hm'
  ·intro hm
   rcases hd.2 (Or.inr hm) with e | hm'
   ·subst e; have := p2 _ hm; omega
   ·exact hm'
theorem srt_insL {sl : α → Int} {x : α} : ∀ {l : List α}, Srt sl l → (∀ d ∈ l, sl d ≠ sl x) → Srt sl (insL (fun d => decide (sl x < sl d)) x l)
 | [], _, _ => List.pairwise_singleton _ _
 | a :: l, h, hn => by
  obtain ⟨p, q⟩ := List.pairwise_cons.1 h
  have h0 := hn a (by simp)
  unfold insL
  by_cases hx : sl x < sl a
  ·rw [if_pos (by simpa using hx)]
   exact List.pairwise_cons.2 ⟨fun b hb => by
    rcases List.mem_cons.1 hb with rfl | hb
    ·exact hx
    ·have := p _ hb; omega, h⟩
  ·rw [if_neg (by simpa using hx)]
   refine List.pairwise_cons.2 ⟨fun b hb => ?_, srt_insL q fun d hd => hn d (by simp [hd])⟩
   rcases mem_insL.1 hb with rfl | hb
   ·omega
   ·exact p _ hb
theorem srt_filter {sl : α → Int} {q : α → Bool} {l : List α} (h : Srt sl l) : Srt sl (l.filter q) := List.Pairwise.filter q h
end
def refE (N D : Int) (us : List Us) (gs : List Gr) (ks : List Ak) (ok : Bool) (s : Int) : Int :=
 if (vldT N D us gs ks && ok) = true then (if bsyB s us gs = true then 5 else if 24 ≤ (us.length : Int) + (gs.length : Int) then 10 else 0) else 1
theorem refE_v0 {N D : Int} {us : List Us} {gs : List Gr} {ks : List Ak} {ok : Bool} {s : Int} (h : vldT N D us gs ks = false) : refE N D us gs ks ok s = 1 := by simp [refE, h]
theorem refE_v1 {N D : Int} {us : List Us} {gs : List Gr} {ks : List Ak} {ok : Bool} {s : Int} (h : ok = false) : refE N D us gs ks ok s = 1 := by simp [refE, h]
theorem refE_b {N D : Int} {us : List Us} {gs : List Gr} {ks : List Ak} {ok : Bool} {s : Int} (h : vldT N D us gs ks = true) (ho : ok = true) (hb : bsyB s us gs = true) : refE N D us gs ks ok s = 5 := by simp [refE, h, ho, hb]
theorem refE_f {N D : Int} {us : List Us} {gs : List Gr} {ks : List Ak} {ok : Bool} {s : Int} (h : vldT N D us gs ks = true) (ho : ok = true) (hb : bsyB s us gs = false) (hf : 24 ≤ (us.length : Int) + (gs.length : Int)) : refE N D us gs ks ok s = 10 := by simp [refE, h, ho, hb, hf]
theorem refE_o {N D : Int} {us : List Us} {gs : List Gr} {ks : List Ak} {ok : Bool} {s : Int} (h : vldT N D us gs ks = true) (ho : ok = true) (hb : bsyB s us gs = false) (hf : ¬ 24 ≤ (us.length : Int) + (gs.length : Int)) : refE N D us gs ks ok s = 0 := by simp [refE, h, ho, hb, hf]
theorem refE_ok {N D : Int} {us : List Us} {gs : List Gr} {ks : List Ak} {ok : Bool} {s : Int} (h : refE N D us gs ks ok s = 0) : vldT N D us gs ks = true ∧ ok = true ∧ bsyB s us gs = false ∧ (us.length : Int) + (gs.length : Int) < 24 := by
 unfold refE at h
 cases hv : vldT N D us gs ks <;> cases ok <;> cases hb : bsyB s us gs <;> simp [hv, hb] at h
 simp; omega
def adU (x : Us) (us : List Us) : List Us := insL (fun d => decide (x.s < d.s)) x us
def adG (x : Gr) (gs : List Gr) : List Gr := insL (fun d => decide (x.s < d.s)) x gs
def una (s : Int) (ks : List Ak) : List Ak := ks.filter (fun d => !(d.s == s))
def auE (N D : Int) (us : List Us) (gs : List Gr) (ks : List Ak) (x : Us) : Int := refE N D us gs ks (usB N D x) x.s
def agE (N D : Int) (us : List Us) (gs : List Gr) (ks : List Ak) (x : Gr) : Int := refE N D us gs ks (grB N D x) x.s
end Go.Proofs.YtmopiifamopidaaGreat
end
section
namespace Go.Proofs.YtmopiifamopidaaGreat
open Go.RowKit
structure Val (N D : Int) (us : List Us) (gs : List Gr) (ks : List Ak) : Prop where
 lay : layB N D = true
 n24 : us.length + gs.length ≤ 24
 k24 : ks.length ≤ 24
 su : Srt Us.s us
 sg : Srt Gr.s gs
 sa : Srt Ak.s ks
 ou : ∀ d ∈ us, usB N D d = true
 og : ∀ d ∈ gs, grB N D d = true
 oa : ∀ d ∈ ks, akB N D d = true
 ug : ∀ a ∈ us, ∀ b ∈ gs, a.s ≠ b.s
 ua : ∀ a ∈ us, ∀ b ∈ ks, a.s ≠ b.s
 ga : ∀ a ∈ gs, ∀ b ∈ ks, a.s ≠ b.s
theorem us_slot {N D : Int} {d : Us} (h : usB N D d = true) : 0 ≤ d.s ∧ d.s < D := by
 simp only [usB, Bool.and_eq_true] at h
 exact (plcB_iff.1 h.1.1).1
theorem gr_slot {N D : Int} {d : Gr} (h : grB N D d = true) : 0 ≤ d.s ∧ d.s < D := by
 simp only [grB, Bool.and_eq_true] at h
 exact (plcB_iff.1 h.1.1.1).1
theorem ak_slot {N D : Int} {d : Ak} (h : akB N D d = true) : 0 ≤ d.s ∧ d.s < D := by
 exact (plcB_iff.1 h).1
theorem srt_map {α : Type} {sl : α → Int} {l : List α} : Srt sl l ↔ (l.map sl).Pairwise (· < ·) := by
 rw [Srt, List.pairwise_map]
theorem srt_nodup {α : Type} {sl : α → Int} {l : List α} (h : Srt sl l) : (l.map sl).Nodup := (srt_map.1 h).imp fun h => by omega
theorem snd_iff {α : Type} {ok : α → Bool} {sl : α → Int} {l : List α} (h : ∀ d, ok d = true → 0 ≤ sl d) : sndF ok sl (-1) l = true ↔ Srt sl l ∧ ∀ d ∈ l, ok d = true := by
 rw [sndF_spec]
 constructor
 ·rintro ⟨h1, h2⟩; exact ⟨h1, fun d hd => (h2 d hd).1⟩
 ·rintro ⟨h1, h2⟩; exact ⟨h1, fun d hd => ⟨h2 d hd, by have := h d (h2 d hd); omega⟩⟩
theorem nodup3 {a b c : List Int} (ha : a.Nodup) (hb : b.Nodup) (hc : c.Nodup) : (a ++ b ++ c).Nodup ↔ (∀ x ∈ a, ∀ y ∈ b, x ≠ y) ∧ (∀ x ∈ a, ∀ y ∈ c, x ≠ y) ∧ (∀ x ∈ b, ∀ y ∈ c, x ≠ y) := by
 rw [List.nodup_append, List.nodup_append]
 constructor
 ·rintro ⟨⟨_, _, h1⟩, _, h2⟩
  exact ⟨h1, fun x hx y hy => h2 x (by simp [hx]) y hy, fun x hx y hy => h2 x (by simp [hx]) y hy⟩
 ·rintro ⟨h1, h2, h3⟩
  refine ⟨⟨ha, hb, h1⟩, hc, fun x hx y hy => ?_⟩
  rcases List.mem_append.1 hx with hx | hx
  ·exact h2 x hx y hy
  ·exact h3 x hx y hy
theorem vld_iff {N D : Int} {us : List Us} {gs : List Gr} {ks : List Ak} : vldT N D us gs ks = true ↔ Val N D us gs ks := by
 simp only [vldT, lenB, sndU, sndG, sndA, oneB, Bool.and_eq_true, decide_eq_true_eq]
 rw [snd_iff (fun d h => (us_slot h).1), snd_iff (fun d h => (gr_slot h).1), snd_iff (fun d h => (ak_slot h).1)]
 constructor
 ·rintro ⟨h1, ⟨h2, h3⟩, ⟨h4, h5⟩, ⟨h6, h7⟩, ⟨h8, h9⟩, h⟩
  obtain ⟨e1, e2, e3⟩ := (nodup3 (srt_nodup h4) (srt_nodup h6) (srt_nodup h8)).1 h
  exact ⟨h1, by omega, by omega, h4, h6, h8, h5, h7, h9, fun a ha b hb => e1 _ (List.mem_map_of_mem ha) _ (List.mem_map_of_mem hb), fun a ha b hb => e2 _ (List.mem_map_of_mem ha) _ (List.mem_map_of_mem hb), fun a ha b hb => e3 _ (List.mem_map_of_mem ha) _ (List.mem_map_of_mem hb)⟩
 ·intro h
  refine ⟨h.lay, ⟨by have := h.n24; omega, by have := h.k24; omega⟩, ⟨h.su, h.ou⟩, ⟨h.sg, h.og⟩, ⟨h.sa, h.oa⟩, (nodup3 (srt_nodup h.su) (srt_nodup h.sg) (srt_nodup h.sa)).2 ⟨?_, ?_, ?_⟩⟩
  ·intro x hx y hy
   obtain ⟨a, ha, rfl⟩ := List.mem_map.1 hx
   obtain ⟨b, hb, rfl⟩ := List.mem_map.1 hy
   exact h.ug a ha b hb
  ·intro x hx y hy
   obtain ⟨a, ha, rfl⟩ := List.mem_map.1 hx
   obtain ⟨b, hb, rfl⟩ := List.mem_map.1 hy
   exact h.ua a ha b hb
  ·intro x hx y hy
   obtain ⟨a, ha, rfl⟩ := List.mem_map.1 hx
   obtain ⟨b, hb, rfl⟩ := List.mem_map.1 hy
   exact h.ga a ha b hb
theorem bsy_false {s : Int} {us : List Us} {gs : List Gr} : bsyB s us gs = false ↔ (∀ d ∈ us, d.s ≠ s) ∧ ∀ d ∈ gs, d.s ≠ s := by
 simp [bsyB]
theorem mem_una {s : Int} {ks : List Ak} {d : Ak} : d ∈ una s ks ↔ d ∈ ks ∧ d.s ≠ s := by
 simp [una, List.mem_filter]
theorem una_len (s : Int) (ks : List Ak) : (una s ks).length ≤ ks.length := List.length_filter_le _ _
theorem val_addU {N D : Int} {us : List Us} {gs : List Gr} {ks : List Ak} {x : Us} (h : Val N D us gs ks) (hx : usB N D x = true) (hbz : bsyB x.s us gs = false) (hl : us.length + gs.length < 24) : Val N D (adU x us) gs (una x.s ks) := by
 obtain ⟨b1, b2⟩ := bsy_false.1 hbz
 clear hbz
 refine ⟨h.lay, by rw [adU, length_insL]; omega, Nat.le_trans (una_len _ _) h.k24, srt_insL h.su b1, h.sg, srt_filter h.sa, fun d hd => ?_, h.og, fun d hd => h.oa d (mem_una.1 hd).1, fun a ha b hb => ?_, fun a ha b hb => ?_, fun a ha b hb => h.ga a ha b (mem_una.1 hb).1⟩
 ·rcases mem_insL.1 hd with rfl | hd
  ·exact hx
  ·exact h.ou d hd
 ·rcases mem_insL.1 ha with rfl | ha
  ·exact fun e => b2 b hb e.symm
  ·exact h.ug a ha b hb
 ·rcases mem_insL.1 ha with rfl | ha
  ·exact fun e => (mem_una.1 hb).2 e.symm
  ·exact h.ua a ha b (mem_una.1 hb).1
theorem val_addG {N D : Int} {us : List Us} {gs : List Gr} {ks : List Ak} {x : Gr} (h : Val N D us gs ks) (hx : grB N D x = true) (hbz : bsyB x.s us gs = false) (hl : us.length + gs.length < 24) : Val N D us (adG x gs) (una x.s ks) := by
 obtain ⟨b1, b2⟩ := bsy_false.1 hbz
 clear hbz
 refine ⟨h.lay, by rw [adG, length_insL]; omega, Nat.le_trans (una_len _ _) h.k24, h.su, srt_insL h.sg b2, srt_filter h.sa, h.ou, fun d hd => ?_, fun d hd => h.oa d (mem_una.1 hd).1, fun a ha b hb => ?_, fun a ha b hb => h.ua a ha b (mem_una.1 hb).1, fun a ha b hb => ?_⟩
 ·rcases mem_insL.1 hd with rfl | hd
  ·exact hx
  ·exact h.og d hd
 ·rcases mem_insL.1 hb with rfl | hb
  ·exact b1 a ha
  ·exact h.ug a ha b hb
 ·rcases mem_insL.1 ha with rfl | ha
  ·exact fun e => (mem_una.1 hb).2 e.symm
  ·exact h.ga a ha b (mem_una.1 hb).1
theorem val_sub {N D : Int} {us : List Us} {gs : List Gr} {ks : List Ak} (p : Us → Bool) (q : Gr → Bool) (r : Ak → Bool) (h : Val N D us gs ks) : Val N D (us.filter p) (gs.filter q) (ks.filter r) := by
 have h1 := List.length_filter_le p us
 have h2 := List.length_filter_le q gs
 have h3 := List.length_filter_le r ks
 have := h.n24; have := h.k24
 refine ⟨h.lay, by omega, by omega, srt_filter h.su, srt_filter h.sg, srt_filter h.sa, fun d hd => h.ou d (List.mem_filter.1 hd).1, fun d hd => h.og d (List.mem_filter.1 hd).1, fun d hd => h.oa d (List.mem_filter.1 hd).1, fun a ha b hb => h.ug a (List.mem_filter.1 ha).1 b (List.mem_filter.1 hb).1, fun a ha b hb => h.ua a (List.mem_filter.1 ha).1 b (List.mem_filter.1 hb).1, fun a ha b hb => h.ga a (List.mem_filter.1 ha).1 b (List.mem_filter.1 hb).1⟩
theorem filt_all {α : Type} {p : α → Bool} {l : List α} (h : ∀ d ∈ l, p d = true) : l.filter p = l := List.filter_eq_self.2 h
theorem auE_ok {N D : Int} {us : List Us} {gs : List Gr} {ks : List Ak} {x : Us} (h : auE N D us gs ks x = 0) : Val N D us gs ks ∧ usB N D x = true ∧ bsyB x.s us gs = false ∧ us.length + gs.length < 24 := by
 obtain ⟨h1, h2, h3, h4⟩ := refE_ok h
 exact ⟨vld_iff.1 h1, h2, h3, by omega⟩
theorem agE_ok {N D : Int} {us : List Us} {gs : List Gr} {ks : List Ak} {x : Gr} (h : agE N D us gs ks x = 0) : Val N D us gs ks ∧ grB N D x = true ∧ bsyB x.s us gs = false ∧ us.length + gs.length < 24 := by
 obtain ⟨h1, h2, h3, h4⟩ := refE_ok h
 exact ⟨vld_iff.1 h1, h2, h3, by omega⟩
end Go.Proofs.YtmopiifamopidaaGreat
end
section
namespace Go.Proofs.YtmopiifamopidaaGreat
open Go.RowKit
theorem own5 {w : World} {b : Nat} {t : TypeId} {x0 x1 x2 x3 x4 : Value} (h : Own w b [x0, x1, x2, x3, x4] t) : w.cell? ⟨b, 0, none⟩ = some x0 ∧ w.cell? ⟨b, 1, none⟩ = some x1 ∧ w.cell? ⟨b, 2, none⟩ = some x2 ∧ w.cell? ⟨b, 3, none⟩ = some x3 ∧ w.cell? ⟨b, 4, none⟩ = some x4 ∧ (∀ o, w.frozen? ⟨b, o, none⟩ = false) ∧ b < w.heap.size := ⟨h.cell rfl, h.cell rfl, h.cell rfl, h.cell rfl, h.cell rfl, h.frozen, h.lt⟩
set_option maxRecDepth 100000 in
set_option maxHeartbeats 2000000 in
theorem placed_any (s o p N D : Int) (w : World) : Calls Tryz.prog 140 #[.agg #[.int .i64 s, .int .i64 o], .int .i64 p, .agg #[.int .i64 N, .int .i64 D]] w fun e w' => e = .returned (.bool (plcB s o p N D)) ∧ Below w.heap.size w w' := by
 go_enter Tryz.func140, Tryz.ntmps140
 go_wp2
 all_goals (go_ret; exact ⟨ret_bool (by first | (simp [plcB, *]; done) | (simp [plcB, *]; omega)), ((Below.refl _ _).alloc (Nat.le_refl _) _).alloc (by simp) _⟩)
theorem placed_lit (s o p N D : Int) (x : Bool) (w : World) (h : plcB s o p N D = x) : Calls Tryz.prog 140 #[.agg #[.int .i64 s, .int .i64 o], .int .i64 p, .agg #[.int .i64 N, .int .i64 D]] w fun e w' => e = .returned (.bool x) ∧ Below w.heap.size w w' := by
 have := placed_any s o p N D w
 rwa [h] at this
set_option maxRecDepth 100000 in
set_option maxHeartbeats 2000000 in
theorem rcell_any (s o p N D : Int) (w : World) : Calls Tryz.prog 18 #[.agg #[.int .i64 s, .int .i64 o], .int .i64 p, .agg #[.int .i64 N, .int .i64 D]] w fun e w' => e = .returned (.bool (plcB s o p N D)) ∧ Below w.heap.size w w' := by
 go_enter Tryz.func18, Tryz.ntmps18
 go_wp2
 all_goals (go_ret; exact ⟨ret_bool (by first | (simp [plcB, *]; done) | (simp [plcB, *]; omega)), ((Below.refl _ _).alloc (Nat.le_refl _) _).alloc (by simp) _⟩)
theorem rcell_lit (s o p N D : Int) (x : Bool) (w : World) (h : plcB s o p N D = x) : Calls Tryz.prog 18 #[.agg #[.int .i64 s, .int .i64 o], .int .i64 p, .agg #[.int .i64 N, .int .i64 D]] w fun e w' => e = .returned (.bool x) ∧ Below w.heap.size w w' := by
 have := rcell_any s o p N D w
 rwa [h] at this
set_option maxRecDepth 100000 in
set_option maxHeartbeats 2000000 in
theorem uval_c (s o p m N D : Int) (w : World) : Calls Tryz.prog 139 #[.agg #[.int .i64 s, .int .i64 o, .int .i64 p, .int .i64 m], .agg #[.int .i64 N, .int .i64 D]] w fun e w' => e = .returned (.bool (usB N D ⟨s, o, p, m⟩)) ∧ Below w.heap.size w w' := by
 cases hp : plcB s o p N D with
 | false =>
  have HP := Lib.hid hp
  clear hp
  go_enter Tryz.func139, Tryz.ntmps139
  go_wp2_with fail
  refine (placed_lit s o p N D false _ HP.out).mono ?_
  rintro e w1 ⟨rfl, hb⟩
  have oX : Own w1 w.heap.size [.int .i64 s, .int .i64 o, .int .i64 p, .int .i64 m] 128 := ((own_at _ _ rfl).alloc _).below hb
  have oL : Own w1 (w.heap.size + 1) [.int .i64 N, .int .i64 D] 31 := (own_at _ _ (by simp)).below hb
  have bel := belowTo (((Below.refl w.heap.size w).alloc (by simp) _).alloc (by simp) _) hb (by simp; omega)
  clear hb
  obtain ⟨cX0, cX1, cX2, cX3, fX, zX⟩ := own4 oX
  obtain ⟨cL0, cL1, fL, zL⟩ := own2 oL
  go_wp2_with fail
  all_goals (go_ret; exact ⟨ret_bool (by first | (simp [usB, HP.out, *]; done) | (simp [usB, HP.out, *]; omega)), bel⟩)
 | true =>
  have HP := Lib.hid hp
  clear hp
  go_enter Tryz.func139, Tryz.ntmps139
  go_wp2_with fail
  refine (placed_lit s o p N D true _ HP.out).mono ?_
  rintro e w1 ⟨rfl, hb⟩
  have oX : Own w1 w.heap.size [.int .i64 s, .int .i64 o, .int .i64 p, .int .i64 m] 128 := ((own_at _ _ rfl).alloc _).below hb
  have oL : Own w1 (w.heap.size + 1) [.int .i64 N, .int .i64 D] 31 := (own_at _ _ (by simp)).below hb
  have bel := belowTo (((Below.refl w.heap.size w).alloc (by simp) _).alloc (by simp) _) hb (by simp; omega)
  clear hb
  obtain ⟨cX0, cX1, cX2, cX3, fX, zX⟩ := own4 oX
  obtain ⟨cL0, cL1, fL, zL⟩ := own2 oL
  go_wp2_with fail
  all_goals (go_ret; exact ⟨ret_bool (by first | (simp [usB, HP.out, *]; done) | (simp [usB, HP.out, *]; omega)), bel⟩)
theorem uval_lit (d : Us) (N D : Int) (x : Bool) (w : World) (h : usB N D d = x) : Calls Tryz.prog 139 #[.agg #[.int .i64 d.s, .int .i64 d.o, .int .i64 d.p, .int .i64 d.m], .agg #[.int .i64 N, .int .i64 D]] w fun e w' => e = .returned (.bool x) ∧ Below w.heap.size w w' := by
 have := uval_c d.s d.o d.p d.m N D w
 rwa [show (⟨d.s, d.o, d.p, d.m⟩ : Us) = d from rfl, h] at this
set_option maxRecDepth 100000 in
set_option maxHeartbeats 2000000 in
theorem ruval_c (s o p m N D : Int) (w : World) : Calls Tryz.prog 16 #[.agg #[.int .i64 s, .int .i64 o, .int .i64 p, .int .i64 m], .agg #[.int .i64 N, .int .i64 D]] w fun e w' => e = .returned (.bool (usB N D ⟨s, o, p, m⟩)) ∧ Below w.heap.size w w' := by
 cases hp : plcB s o p N D with
 | false =>
  have HP := Lib.hid hp
  clear hp
  go_enter Tryz.func16, Tryz.ntmps16
  go_wp2_with fail
  refine (rcell_lit s o p N D false _ HP.out).mono ?_
  rintro e w1 ⟨rfl, hb⟩
  have oX : Own w1 w.heap.size [.int .i64 s, .int .i64 o, .int .i64 p, .int .i64 m] 50 := ((own_at _ _ rfl).alloc _).below hb
  have oL : Own w1 (w.heap.size + 1) [.int .i64 N, .int .i64 D] 31 := (own_at _ _ (by simp)).below hb
  have bel := belowTo (((Below.refl w.heap.size w).alloc (by simp) _).alloc (by simp) _) hb (by simp; omega)
  clear hb
  obtain ⟨cX0, cX1, cX2, cX3, fX, zX⟩ := own4 oX
  obtain ⟨cL0, cL1, fL, zL⟩ := own2 oL
  go_wp2_with fail
  all_goals (go_ret; exact ⟨ret_bool (by first | (simp [usB, HP.out, *]; done) | (simp [usB, HP.out, *]; omega)), bel⟩)
 | true =>
  have HP := Lib.hid hp
  clear hp
  go_enter Tryz.func16, Tryz.ntmps16
  go_wp2_with fail
  refine (rcell_lit s o p N D true _ HP.out).mono ?_
  rintro e w1 ⟨rfl, hb⟩
  have oX : Own w1 w.heap.size [.int .i64 s, .int .i64 o, .int .i64 p, .int .i64 m] 50 := ((own_at _ _ rfl).alloc _).below hb
  have oL : Own w1 (w.heap.size + 1) [.int .i64 N, .int .i64 D] 31 := (own_at _ _ (by simp)).below hb
  have bel := belowTo (((Below.refl w.heap.size w).alloc (by simp) _).alloc (by simp) _) hb (by simp; omega)
  clear hb
  obtain ⟨cX0, cX1, cX2, cX3, fX, zX⟩ := own4 oX
  obtain ⟨cL0, cL1, fL, zL⟩ := own2 oL
  go_wp2_with fail
  all_goals (go_ret; exact ⟨ret_bool (by first | (simp [usB, HP.out, *]; done) | (simp [usB, HP.out, *]; omega)), bel⟩)
theorem ruval_lit (d : Us) (N D : Int) (x : Bool) (w : World) (h : usB N D d = x) : Calls Tryz.prog 16 #[.agg #[.int .i64 d.s, .int .i64 d.o, .int .i64 d.p, .int .i64 d.m], .agg #[.int .i64 N, .int .i64 D]] w fun e w' => e = .returned (.bool x) ∧ Below w.heap.size w w' := by
 have := ruval_c d.s d.o d.p d.m N D w
 rwa [show (⟨d.s, d.o, d.p, d.m⟩ : Us) = d from rfl, h] at this
set_option maxRecDepth 100000 in
set_option maxHeartbeats 2000000 in
theorem gval_c (s o p m u N D : Int) (w : World) : Calls Tryz.prog 142 #[.agg #[.int .i64 s, .int .i64 o, .int .i64 p, .int .i64 m, .int .i64 u], .agg #[.int .i64 N, .int .i64 D]] w fun e w' => e = .returned (.bool (grB N D ⟨s, o, p, m, u⟩)) ∧ Below w.heap.size w w' := by
 cases hp : plcB s o p N D with
 | false =>
  have HP := Lib.hid hp
  clear hp
  go_enter Tryz.func142, Tryz.ntmps142
  go_wp2_with fail
  refine (placed_lit s o p N D false _ HP.out).mono ?_
  rintro e w1 ⟨rfl, hb⟩
  have oX : Own w1 w.heap.size [.int .i64 s, .int .i64 o, .int .i64 p, .int .i64 m, .int .i64 u] 138 := ((own_at _ _ rfl).alloc _).below hb
  have oL : Own w1 (w.heap.size + 1) [.int .i64 N, .int .i64 D] 31 := (own_at _ _ (by simp)).below hb
  have bel := belowTo (((Below.refl w.heap.size w).alloc (by simp) _).alloc (by simp) _) hb (by simp; omega)
  clear hb
  obtain ⟨cX0, cX1, cX2, cX3, cX4, fX, zX⟩ := own5 oX
  obtain ⟨cL0, cL1, fL, zL⟩ := own2 oL
  go_wp2_with fail
  all_goals (go_ret; exact ⟨ret_bool (by first | (simp [grB, HP.out, *]; done) | (simp [grB, HP.out, *]; omega)), bel⟩)
 | true =>
  have HP := Lib.hid hp
  clear hp
  go_enter Tryz.func142, Tryz.ntmps142
  go_wp2_with fail
  refine (placed_lit s o p N D true _ HP.out).mono ?_
  rintro e w1 ⟨rfl, hb⟩
  have oX : Own w1 w.heap.size [.int .i64 s, .int .i64 o, .int .i64 p, .int .i64 m, .int .i64 u] 138 := ((own_at _ _ rfl).alloc _).below hb
  have oL : Own w1 (w.heap.size + 1) [.int .i64 N, .int .i64 D] 31 := (own_at _ _ (by simp)).below hb
  have bel := belowTo (((Below.refl w.heap.size w).alloc (by simp) _).alloc (by simp) _) hb (by simp; omega)
  clear hb
  obtain ⟨cX0, cX1, cX2, cX3, cX4, fX, zX⟩ := own5 oX
  obtain ⟨cL0, cL1, fL, zL⟩ := own2 oL
  go_wp2_with fail
  all_goals (go_ret; exact ⟨ret_bool (by first | (simp [grB, HP.out, *]; done) | (simp [grB, HP.out, *]; omega)), bel⟩)
theorem gval_lit (d : Gr) (N D : Int) (x : Bool) (w : World) (h : grB N D d = x) : Calls Tryz.prog 142 #[.agg #[.int .i64 d.s, .int .i64 d.o, .int .i64 d.p, .int .i64 d.m, .int .i64 d.u], .agg #[.int .i64 N, .int .i64 D]] w fun e w' => e = .returned (.bool x) ∧ Below w.heap.size w w' := by
 have := gval_c d.s d.o d.p d.m d.u N D w
 rwa [show (⟨d.s, d.o, d.p, d.m, d.u⟩ : Gr) = d from rfl, h] at this
set_option maxRecDepth 100000 in
set_option maxHeartbeats 2000000 in
theorem rgval_c (s o p m u N D : Int) (w : World) : Calls Tryz.prog 17 #[.agg #[.int .i64 s, .int .i64 o, .int .i64 p, .int .i64 m, .int .i64 u], .agg #[.int .i64 N, .int .i64 D]] w fun e w' => e = .returned (.bool (grB N D ⟨s, o, p, m, u⟩)) ∧ Below w.heap.size w w' := by
 cases hp : plcB s o p N D with
 | false =>
  have HP := Lib.hid hp
  clear hp
  go_enter Tryz.func17, Tryz.ntmps17
  go_wp2_with fail
  refine (rcell_lit s o p N D false _ HP.out).mono ?_
  rintro e w1 ⟨rfl, hb⟩
  have oX : Own w1 w.heap.size [.int .i64 s, .int .i64 o, .int .i64 p, .int .i64 m, .int .i64 u] 52 := ((own_at _ _ rfl).alloc _).below hb
  have oL : Own w1 (w.heap.size + 1) [.int .i64 N, .int .i64 D] 31 := (own_at _ _ (by simp)).below hb
  have bel := belowTo (((Below.refl w.heap.size w).alloc (by simp) _).alloc (by simp) _) hb (by simp; omega)
  clear hb
  obtain ⟨cX0, cX1, cX2, cX3, cX4, fX, zX⟩ := own5 oX
  obtain ⟨cL0, cL1, fL, zL⟩ := own2 oL
  go_wp2_with fail
  all_goals (go_ret; exact ⟨ret_bool (by first | (simp [grB, HP.out, *]; done) | (simp [grB, HP.out, *]; omega)), bel⟩)
 | true =>
  have HP := Lib.hid hp
  clear hp
  go_enter Tryz.func17, Tryz.ntmps17
  go_wp2_with fail
  refine (rcell_lit s o p N D true _ HP.out).mono ?_
  rintro e w1 ⟨rfl, hb⟩
  have oX : Own w1 w.heap.size [.int .i64 s, .int .i64 o, .int .i64 p, .int .i64 m, .int .i64 u] 52 := ((own_at _ _ rfl).alloc _).below hb
  have oL : Own w1 (w.heap.size + 1) [.int .i64 N, .int .i64 D] 31 := (own_at _ _ (by simp)).below hb
  have bel := belowTo (((Below.refl w.heap.size w).alloc (by simp) _).alloc (by simp) _) hb (by simp; omega)
  clear hb
  obtain ⟨cX0, cX1, cX2, cX3, cX4, fX, zX⟩ := own5 oX
  obtain ⟨cL0, cL1, fL, zL⟩ := own2 oL
  go_wp2_with fail
  all_goals (go_ret; exact ⟨ret_bool (by first | (simp [grB, HP.out, *]; done) | (simp [grB, HP.out, *]; omega)), bel⟩)
theorem rgval_lit (d : Gr) (N D : Int) (x : Bool) (w : World) (h : grB N D d = x) : Calls Tryz.prog 17 #[.agg #[.int .i64 d.s, .int .i64 d.o, .int .i64 d.p, .int .i64 d.m, .int .i64 d.u], .agg #[.int .i64 N, .int .i64 D]] w fun e w' => e = .returned (.bool x) ∧ Below w.heap.size w w' := by
 have := rgval_c d.s d.o d.p d.m d.u N D w
 rwa [show (⟨d.s, d.o, d.p, d.m, d.u⟩ : Gr) = d from rfl, h] at this
set_option maxRecDepth 100000 in
set_option maxHeartbeats 2000000 in
theorem aval_c (s o p N D : Int) (w : World) : Calls Tryz.prog 144 #[.agg #[.int .i64 s, .int .i64 o, .int .i64 p], .agg #[.int .i64 N, .int .i64 D]] w fun e w' => e = .returned (.bool (akB N D ⟨s, o, p⟩)) ∧ Below w.heap.size w w' := by
 cases hp : plcB s o p N D with
 | false =>
  have HP := Lib.hid hp
  clear hp
  go_enter Tryz.func144, Tryz.ntmps144
  go_wp2_with fail
  refine (placed_lit s o p N D false _ HP.out).mono ?_
  rintro e w1 ⟨rfl, hb⟩
  have oX : Own w1 w.heap.size [.int .i64 s, .int .i64 o, .int .i64 p] 160 := ((own_at _ _ rfl).alloc _).below hb
  have oL : Own w1 (w.heap.size + 1) [.int .i64 N, .int .i64 D] 31 := (own_at _ _ (by simp)).below hb
  have bel := belowTo (((Below.refl w.heap.size w).alloc (by simp) _).alloc (by simp) _) hb (by simp; omega)
  clear hb
  obtain ⟨cX0, cX1, cX2, fX, zX⟩ := own3 oX
  obtain ⟨cL0, cL1, fL, zL⟩ := own2 oL
  go_wp2_with fail
  all_goals (go_ret; exact ⟨ret_bool (by first | (simp [akB, HP.out, *]; done) | (simp [akB, HP.out, *]; omega)), bel⟩)
 | true =>
  have HP := Lib.hid hp
  clear hp
  go_enter Tryz.func144, Tryz.ntmps144
  go_wp2_with fail
  refine (placed_lit s o p N D true _ HP.out).mono ?_
  rintro e w1 ⟨rfl, hb⟩
  have oX : Own w1 w.heap.size [.int .i64 s, .int .i64 o, .int .i64 p] 160 := ((own_at _ _ rfl).alloc _).below hb
  have oL : Own w1 (w.heap.size + 1) [.int .i64 N, .int .i64 D] 31 := (own_at _ _ (by simp)).below hb
  have bel := belowTo (((Below.refl w.heap.size w).alloc (by simp) _).alloc (by simp) _) hb (by simp; omega)
  clear hb
  obtain ⟨cX0, cX1, cX2, fX, zX⟩ := own3 oX
  obtain ⟨cL0, cL1, fL, zL⟩ := own2 oL
  go_wp2_with fail
  all_goals (go_ret; exact ⟨ret_bool (by first | (simp [akB, HP.out, *]; done) | (simp [akB, HP.out, *]; omega)), bel⟩)
theorem aval_lit (d : Ak) (N D : Int) (x : Bool) (w : World) (h : akB N D d = x) : Calls Tryz.prog 144 #[.agg #[.int .i64 d.s, .int .i64 d.o, .int .i64 d.p], .agg #[.int .i64 N, .int .i64 D]] w fun e w' => e = .returned (.bool x) ∧ Below w.heap.size w w' := by
 have := aval_c d.s d.o d.p N D w
 rwa [show (⟨d.s, d.o, d.p⟩ : Ak) = d from rfl, h] at this
set_option maxRecDepth 100000 in
set_option maxHeartbeats 2000000 in
theorem ucell_any (s o p m : Int) (w : World) : Calls Tryz.prog 138 #[.agg #[.int .i64 s, .int .i64 o, .int .i64 p, .int .i64 m]] w fun e w' => e = .returned (.agg #[.int .i64 s, .int .i64 o]) ∧ Below w.heap.size w w' := by
 go_enter Tryz.func138, Tryz.ntmps138
 go_wp2
 refine bodyPost_ret (v := .agg #[.int .i64 s, .int .i64 o]) (by simp [results, Tryz.results138, go_sem, *]) rfl ⟨rfl, ?_⟩
 repeat (first | (with_reducible exact Below.refl _ _) | (with_reducible refine belowSet' ?_ _ _ _ ?_) | (with_reducible refine Below.drew ?_) | (with_reducible refine belowN ?_) | (with_reducible refine Below.alloc ?_ ?_ _))
 all_goals (first | omega | (simp; omega) | (simp; done))
set_option maxRecDepth 100000 in
set_option maxHeartbeats 2000000 in
theorem uto_any (s o p m : Int) (w : World) : Calls Tryz.prog 57 #[.agg #[.int .i64 s, .int .i64 o, .int .i64 p, .int .i64 m]] w fun e w' => e = .returned (.agg #[.int .i64 s, .int .i64 o, .int .i64 p, .int .i64 m]) ∧ Below w.heap.size w w' := by
 go_enter Tryz.func57, Tryz.ntmps57
 go_wp2
 refine bodyPost_ret (v := .agg #[.int .i64 s, .int .i64 o, .int .i64 p, .int .i64 m]) (by simp [results, Tryz.results57, go_sem, *]) rfl ⟨rfl, ?_⟩
 repeat (first | (with_reducible exact Below.refl _ _) | (with_reducible refine belowSet' ?_ _ _ _ ?_) | (with_reducible refine Below.drew ?_) | (with_reducible refine belowN ?_) | (with_reducible refine Below.alloc ?_ ?_ _))
 all_goals (first | omega | (simp; omega) | (simp; done))
set_option maxRecDepth 100000 in
set_option maxHeartbeats 2000000 in
theorem gcell_any (s o p m u : Int) (w : World) : Calls Tryz.prog 141 #[.agg #[.int .i64 s, .int .i64 o, .int .i64 p, .int .i64 m, .int .i64 u]] w fun e w' => e = .returned (.agg #[.int .i64 s, .int .i64 o]) ∧ Below w.heap.size w w' := by
 go_enter Tryz.func141, Tryz.ntmps141
 go_wp2
 refine bodyPost_ret (v := .agg #[.int .i64 s, .int .i64 o]) (by simp [results, Tryz.results141, go_sem, *]) rfl ⟨rfl, ?_⟩
 repeat (first | (with_reducible exact Below.refl _ _) | (with_reducible refine belowSet' ?_ _ _ _ ?_) | (with_reducible refine Below.drew ?_) | (with_reducible refine belowN ?_) | (with_reducible refine Below.alloc ?_ ?_ _))
 all_goals (first | omega | (simp; omega) | (simp; done))
set_option maxRecDepth 100000 in
set_option maxHeartbeats 2000000 in
theorem gto_any (s o p m u : Int) (w : World) : Calls Tryz.prog 64 #[.agg #[.int .i64 s, .int .i64 o, .int .i64 p, .int .i64 m, .int .i64 u]] w fun e w' => e = .returned (.agg #[.int .i64 s, .int .i64 o, .int .i64 p, .int .i64 m, .int .i64 u]) ∧ Below w.heap.size w w' := by
 go_enter Tryz.func64, Tryz.ntmps64
 go_wp2
 refine bodyPost_ret (v := .agg #[.int .i64 s, .int .i64 o, .int .i64 p, .int .i64 m, .int .i64 u]) (by simp [results, Tryz.results64, go_sem, *]) rfl ⟨rfl, ?_⟩
 repeat (first | (with_reducible exact Below.refl _ _) | (with_reducible refine belowSet' ?_ _ _ _ ?_) | (with_reducible refine Below.drew ?_) | (with_reducible refine belowN ?_) | (with_reducible refine Below.alloc ?_ ?_ _))
 all_goals (first | omega | (simp; omega) | (simp; done))
set_option maxRecDepth 100000 in
set_option maxHeartbeats 2000000 in
theorem acell_any (s o p : Int) (w : World) : Calls Tryz.prog 143 #[.agg #[.int .i64 s, .int .i64 o, .int .i64 p]] w fun e w' => e = .returned (.agg #[.int .i64 s, .int .i64 o]) ∧ Below w.heap.size w w' := by
 go_enter Tryz.func143, Tryz.ntmps143
 go_wp2
 refine bodyPost_ret (v := .agg #[.int .i64 s, .int .i64 o]) (by simp [results, Tryz.results143, go_sem, *]) rfl ⟨rfl, ?_⟩
 repeat (first | (with_reducible exact Below.refl _ _) | (with_reducible refine belowSet' ?_ _ _ _ ?_) | (with_reducible refine Below.drew ?_) | (with_reducible refine belowN ?_) | (with_reducible refine Below.alloc ?_ ?_ _))
 all_goals (first | omega | (simp; omega) | (simp; done))
set_option maxRecDepth 100000 in
set_option maxHeartbeats 2000000 in
theorem ato_any (s o p : Int) (w : World) : Calls Tryz.prog 88 #[.agg #[.int .i64 s, .int .i64 o, .int .i64 p]] w fun e w' => e = .returned (.agg #[.int .i64 s, .int .i64 o, .int .i64 p]) ∧ Below w.heap.size w w' := by
 go_enter Tryz.func88, Tryz.ntmps88
 go_wp2
 refine bodyPost_ret (v := .agg #[.int .i64 s, .int .i64 o, .int .i64 p]) (by simp [results, Tryz.results88, go_sem, *]) rfl ⟨rfl, ?_⟩
 repeat (first | (with_reducible exact Below.refl _ _) | (with_reducible refine belowSet' ?_ _ _ _ ?_) | (with_reducible refine Below.drew ?_) | (with_reducible refine belowN ?_) | (with_reducible refine Below.alloc ?_ ?_ _))
 all_goals (first | omega | (simp; omega) | (simp; done))
set_option maxRecDepth 100000 in
set_option maxHeartbeats 2000000 in
theorem rlay_any (N D : Int) (w : World) : Calls Tryz.prog 15 #[.agg #[.int .i64 N, .int .i64 D]] w fun e w' => e = .returned (.bool (layB N D)) ∧ Below w.heap.size w w' := by
 go_enter Tryz.func15, Tryz.ntmps15
 go_wp2
 all_goals (go_ret; exact ⟨ret_bool (by first | (simp [layB, *]; done) | (simp [layB, *]; omega)), (Below.refl _ _).alloc (Nat.le_refl _) _⟩)
theorem rlay_lit (N D : Int) (x : Bool) (w : World) (h : layB N D = x) : Calls Tryz.prog 15 #[.agg #[.int .i64 N, .int .i64 D]] w fun e w' => e = .returned (.bool x) ∧ Below w.heap.size w w' := by
 have := rlay_any N D w
 rwa [h] at this
end Go.Proofs.YtmopiifamopidaaGreat
end
section
namespace Go.Proofs.YtmopiifamopidaaGreat
open Go.RowKit
def inB (n h : Int) : Bool := decide (0 ≤ n) && decide (n ≤ h)
set_option maxRecDepth 100000 in
set_option maxHeartbeats 2000000 in
theorem in_any (n h : Int) (w : World) : Calls Tryz.prog 33 #[.int .i64 n, .int .i64 h] w fun e w' => e = .returned (.bool (inB n h)) ∧ Below w.heap.size w w' := by
 go_enter Tryz.func33, Tryz.ntmps33
 go_wp2
 all_goals (go_ret; exact ⟨ret_bool (by first | (simp [inB, *]; done) | (simp [inB, *]; omega)), Below.refl _ _⟩)
theorem in_lit (n h : Int) (x : Bool) (w : World) (hx : inB n h = x) : Calls Tryz.prog 33 #[.int .i64 n, .int .i64 h] w fun e w' => e = .returned (.bool x) ∧ Below w.heap.size w w' := by
 rw [← hx]; exact in_any n h w
end Go.Proofs.YtmopiifamopidaaGreat
end
section
namespace Go.Proofs.YtmopiifamopidaaGreat
open Go.RowKit
def betB (s p s2 p2 : Int) : Bool := decide (s < s2) || (s == s2 && decide (p < p2))
set_option maxRecDepth 100000 in
set_option maxHeartbeats 2000000 in
theorem bet_any (s p s2 p2 : Int) (w : World) : Calls Tryz.prog 59 #[.agg #[.int .i64 s, .int .i64 p], .agg #[.int .i64 s2, .int .i64 p2]] w fun e w' => e = .returned (.bool (betB s p s2 p2)) ∧ Below w.heap.size w w' := by
 rcases Int.lt_trichotomy s s2 with h | h | h
 ·have h1 : (s == s2) = false := by simp; omega
  go_enter Tryz.func59, Tryz.ntmps59
  go_wp2
  all_goals (go_ret; exact ⟨ret_bool (by simp [betB, h]), ((Below.refl _ _).alloc (Nat.le_refl _) _).alloc (by simp) _⟩)
 ·have h1 : (s == s2) = true := by simp [h]
  have h2 : ¬ s < s2 := by omega
  have H := Lib.hid h
  clear h
  go_enter Tryz.func59, Tryz.ntmps59
  go_wp2
  all_goals (go_ret; exact ⟨ret_bool (by first | (simp [betB, h1, h2, *]; done) | (simp [betB, h1, h2, *]; omega)), ((Below.refl _ _).alloc (Nat.le_refl _) _).alloc (by simp) _⟩)
 ·have h1 : (s == s2) = false := by simp; omega
  have h2 : ¬ s < s2 := by omega
  go_enter Tryz.func59, Tryz.ntmps59
  go_wp2
  all_goals (go_ret; exact ⟨ret_bool (by simp [betB, h1, h2]), ((Below.refl _ _).alloc (Nat.le_refl _) _).alloc (by simp) _⟩)
end Go.Proofs.YtmopiifamopidaaGreat
end

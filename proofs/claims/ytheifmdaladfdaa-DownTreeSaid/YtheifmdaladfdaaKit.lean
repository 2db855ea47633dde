/- Small facts on worlds, values and rows that every walk and every row of this seat uses. No program is in sight here. -/
import Derived.WalkKit
import Derived.WalkSpells
import Derived.WalkLawsBesides
import Derived.ProofKit
import Derived.OpenShut
import Derived.ChangeOld
import Derived.Below
import Derived.Lib.Hide
import Derived.Deep.QuietTactic
import Derived.BigQuiet
import Derived.Deep.RegionWith
namespace Go.Proofs.Ytheifmdaladfdaa
open Go.ChangeShapes Go.WideShapes Go.ChangeAt Go.RowKit

/-- Below the old size of the heap every cell and every mark reads as before; a block that was there is there. -/
theorem bcell {W w1 : World} (hb : Below W.heap.size W w1) : (∀ b o, b < W.heap.size → w1.cell? ⟨b, o, none⟩ = W.cell? ⟨b, o, none⟩) ∧ (∀ b o, b < W.heap.size → w1.frozen? ⟨b, o, none⟩ = W.frozen? ⟨b, o, none⟩) ∧
    (∀ b, b < W.heap.size → b < w1.heap.size) :=
  ⟨fun b o h => hb.cell (p := ⟨b, o, none⟩) h, fun b o h => hb.frozen (p := ⟨b, o, none⟩) h, fun _ h => Nat.lt_of_lt_of_le h hb.size⟩

/-- Two steps, the second stated from its own start. -/
theorem belowTo {B : Nat} {a b c : World} (h : Below B a b) (k : Below b.heap.size b c) (hB : B ≤ b.heap.size) : Below B a c := h.trans (k.mono hB)

theorem belowN {B : Nat} {a w : World} {n : Nat} (h : Below B a w) : Below B a (w.drewN n) := ⟨h.os, h.tape, h.output, h.size, h.block⟩
/-- A world that has only grown by one new block. -/
theorem belowNew (w : World) (o : Obj) : Below w.heap.size w (w.alloc o) := (Below.refl _ _).alloc (Nat.le_refl _) _

theorem ret_bool {a b : Bool} (h : a = b) : Ending.returned (.bool a) = .returned (.bool b) := by rw [h]
theorem ret_int {a b : Int} (h : a = b) : Ending.returned (.int .i64 a) = .returned (.int .i64 b) := by rw [h]

/-! ### The arguments of a law: flat values, and that they read behind the call as before it -/

theorem trodAll_below {H : Type} {enc : TypeId × Value → H} {P : Program} (hl : laidOutB P = true) {W W' : World} (hb : Below W.heap.size W W') :
    ∀ {ts : List TypeId} {vs : List Value} {ds : List (DataW H)} {ps : List MemPlace}, (ts.all fun t => P.readableRec t && decide (t < P.types.size)) = true →
      DataW.TrodAll enc P W 0 (fun _ => true) true ts vs ds ps → DataW.TrodAll enc P W' 0 (fun b => decide (b < W.heap.size)) true ts vs ds ps := by
  intro ts
  induction ts with
  | nil =>
    intro vs ds ps _ h
    obtain ⟨rfl, rfl, rfl⟩ := trodAll_nil h
    exact trodAll_mk0
  | cons t ts ih =>
    intro vs ds ps hall h
    simp only [List.all_cons, Bool.and_eq_true, decide_eq_true_eq] at hall
    obtain ⟨v, vs', d, ds', p, q, rfl, rfl, rfl, h0, r0⟩ := trodAll_cons h
    have lt0 : ∀ x ∈ p, x.block < W.heap.size := by obtain ⟨m, hm⟩ := h0; exact DataW.trod_lt m _ _ _ hm
    exact trodAll_cons_mk (Below.trod hl hall.1.1 hall.1.2 h0 hb lt0) (ih (by simpa using hall.2) r0)

/-- The kinds of a flat value's cells: an integer kind, or none for a bool. -/
def kindOf (P : Program) (t : TypeId) : Option (Option IntKind) :=
  match P.underlying t with
  | some (.int k) => some (some k)
  | some .bool => some none
  | _ => none

def okCells : List (Option IntKind) → List Value → Prop
  | [], l => l = []
  | some k :: ks, l => ∃ n vs, l = .int k n :: vs ∧ k.has n ∧ okCells ks vs
  | none :: ks, l => ∃ b vs, l = .bool b :: vs ∧ okCells ks vs

theorem okCells_of {P : Program} {w : World} {r : Reach} {base : Nat} : ∀ (ts : List TypeId) (ks : List (Option IntKind)) (l : List Value),
    ts.mapM (kindOf P) = some ks → l.length = ts.length → (∀ (i : Nat) (v : Value) (u : TypeId), l[i]? = some v → ts[i]? = some u → Cell.okWide P w r base u v) → okCells ks l := by
  intro ts
  induction ts with
  | nil =>
    intro ks l hk hl _
    simp at hk hl
    subst hk hl
    rfl
  | cons t ts ih =>
    intro ks l hk hl h
    match l, hl with
    | v :: vs, hl =>
      simp only [List.mapM_cons, Option.bind_eq_bind, Option.bind_eq_some_iff] at hk
      obtain ⟨k, hk0, ks', hk1, hk2⟩ := hk
      simp only [pure, Option.some.injEq] at hk2
      subst hk2
      have h0 := h 0 v t rfl rfl
      have hr : okCells ks' vs := ih ks' vs hk1 (by simpa using hl) (fun i v' u hv hu => h (i + 1) v' u (by simpa using hv) (by simpa using hu))
      unfold kindOf at hk0
      unfold Cell.okWide at h0
      cases hu : P.underlying t with
      | none => simp [hu] at hk0
      | some d =>
        cases d <;> simp [hu] at hk0
        · subst hk0
          cases v <;> simp [hu, Cell.ok] at h0
          exact ⟨_, vs, rfl, hr⟩
        · subst hk0
          cases v <;> simp [hu, Cell.ok] at h0
          obtain ⟨rfl, hn⟩ := h0
          exact ⟨_, vs, rfl, hn, hr⟩

/-- A struct of integers and bools that came in by value: its cells, written out. -/
theorem open_flat {P : Program} {w : World} {r : Reach} {base : Nat} {t : TypeId} {v : Value} {ts : List TypeId} {ks : List (Option IntKind)} {fs : Array Field}
    (hs : P.underlying t = some (.struct fs)) (ht : P.cellTypes P.depth t = some ts) (hc : P.cellsOf t = ts.length) (hk : ts.mapM (kindOf P) = some ks)
    (h : Value.okWide P w r base t v) : ∃ l : List Value, v = .agg l.toArray ∧ okCells ks l := by
  unfold Value.okWide at h
  simp only [hs] at h
  obtain ⟨cs, rfl, hsz, ts', ht', _, hcell⟩ := h
  rw [ht] at ht'
  obtain rfl := Option.some.inj ht'
  refine ⟨cs.toList, by simp, okCells_of (P := P) (w := w) (r := r) (base := base) ts ks cs.toList hk (by simp [hsz, hc]) ?_⟩
  intro i v u hv hu
  obtain ⟨u', hu', hok⟩ := hcell i v (by simpa using hv)
  have hi : i < ts.length := by
    rcases Nat.lt_or_ge i ts.length with hlt | hge
    · exact hlt
    · rw [List.getElem?_eq_none hge] at hu; cases hu
  rw [Nat.mod_eq_of_lt hi, hu] at hu'
  obtain rfl := Option.some.inj hu'
  exact hok

/-- An integer that came in. -/
theorem open_num {P : Program} {w : World} {r : Reach} {base : Nat} {t : TypeId} {v : Value} {k : IntKind}
    (hs : P.underlying t = some (.int k)) (h : Value.okWide P w r base t v) : ∃ n, v = .int k n ∧ k.has n := by
  unfold Value.okWide at h
  simp only [hs] at h
  unfold Cell.okWide at h
  cases v <;> simp [hs, Cell.ok] at h
  obtain ⟨rfl, hn⟩ := h
  exact ⟨_, rfl, hn⟩

/-- A bool that came in. -/
theorem open_flag {P : Program} {w : World} {r : Reach} {base : Nat} {t : TypeId} {v : Value}
    (hs : P.underlying t = some .bool) (h : Value.okWide P w r base t v) : ∃ b, v = .bool b := by
  unfold Value.okWide at h
  simp only [hs] at h
  unfold Cell.okWide at h
  cases v <;> simp [hs, Cell.ok] at h
  exact ⟨_, rfl⟩

/-! ### A region that draws its order, whose operations read, and whose callees may make memory of their own -/

/-- A world in which all that was there lies as it lay. -/
structure Past (w : World) where
  to : World
  h : Below w.heap.size w to
def past (w : World) (x : Past w) : World := x.to
instance pastNonempty (w : World) : Nonempty (Past w) := ⟨⟨w, Below.refl _ _⟩⟩

theorem past_below (w : World) (x : Past w) : Below w.heap.size w (past w x) := x.h
theorem past_cell {w : World} (x : Past w) {b o : Nat} {v : Value} (h : w.cell? ⟨b, o, none⟩ = some v) (hb : b < w.heap.size) : (past w x).cell? ⟨b, o, none⟩ = some v := by
  rw [← h]; exact x.h.cell (p := ⟨b, o, none⟩) hb

theorem wp_region_past {P : Program} {id : Nat} {Q : Exit → Act → World → Prop} {a : Act} {w : World} {l : List Oper} (hm : P.follows .mixedOrders = true) (hB : Region.lexB .any l.toArray = true)
    (h : wpQuiet P l.toArray (fun w' => ∃ x, w' = past w x) (fun a' => ∀ w', (∃ x, w' = past w x) → Q .normal a' w') l a) : (Code.region id l.toArray true).wp P Q a w :=
  wp_region_quiet (C := fun w' => ∃ x, w' = past w x) hm hB ⟨⟨_, (Below.refl _ _).drew⟩, rfl⟩ (by simpa using h)

/-- A callee's contract, met in such a world. -/
theorem calls_past {P : Program} {f : FuncId} {args : Array Value} {w : World} {x : Past w} {v : Value}
    (h : Calls P f args (past w x) fun e w' => e = .returned v ∧ Below (past w x).heap.size (past w x) w') : Calls P f args (past w x) fun e w'' => e = .returned v ∧ ∃ y, w'' = past w y :=
  h.mono fun _ w' ⟨he, hb⟩ => ⟨he, ⟨w', x.h.trans (hb.mono x.h.size)⟩, rfl⟩

/-! ### A block of cells of the call's own, known whole -/

def Own (w : World) (b : Nat) (cs : List Value) (t : TypeId) : Prop := w.heap[b]? = some (.cells cs.toArray t (0, 0))

theorem own_new (w : World) (cs : Array Value) (t : TypeId) : Own (w.alloc (.cells cs t)) w.heap.size cs.toList t := by
  show (w.heap.push _)[w.heap.size]? = _
  simp
theorem own_at {w : World} {n : Nat} (cs : List Value) (t : TypeId) (hn : n = w.heap.size) : Own (w.alloc (.cells cs.toArray t)) n cs t := by
  subst hn; exact own_new w cs.toArray t
theorem Own.lt {w : World} {b : Nat} {cs : List Value} {t : TypeId} (h : Own w b cs t) : b < w.heap.size := (Array.getElem?_eq_some_iff.1 h).1
theorem Own.alloc {w : World} {b : Nat} {cs : List Value} {t : TypeId} (h : Own w b cs t) (o : Obj) : Own (w.alloc o) b cs t := by
  show (w.heap.push o)[b]? = _
  rw [Array.getElem?_push, if_neg (by have := h.lt; omega)]; exact h
theorem Own.drew {w : World} {b : Nat} {cs : List Value} {t : TypeId} (h : Own w b cs t) : Own w.drew b cs t := h
theorem Own.drewN {w : World} {b : Nat} {cs : List Value} {t : TypeId} (h : Own w b cs t) (n : Nat) : Own (w.drewN n) b cs t := h
theorem Own.below {w w' : World} {b : Nat} {cs : List Value} {t : TypeId} (h : Own w b cs t) (hb : Below w.heap.size w w') : Own w' b cs t := (hb.block b h.lt).trans h
theorem Own.past {w : World} {b : Nat} {cs : List Value} {t : TypeId} (h : Own w b cs t) (x : Past w) : Own (past w x) b cs t := h.below x.h
theorem Own.set {w : World} {b : Nat} {cs : List Value} {t : TypeId} (h : Own w b cs t) (i : Nat) (v : Value) : Own (w.setCell ⟨b, i, none⟩ v) b (cs.set i v) t := by
  show (w.heap.modify b _)[b]? = _
  rw [Array.getElem?_modify, if_pos rfl, show w.heap[b]? = _ from h]
  simp
theorem Own.other {w : World} {b : Nat} {cs : List Value} {t : TypeId} (h : Own w b cs t) {a : Addr} (hne : b ≠ a.block) (v : Value) : Own (w.setCell a v) b cs t :=
  (Below.heap_setCell w a v b hne).trans h
theorem Own.cell {w : World} {b : Nat} {cs : List Value} {t : TypeId} (h : Own w b cs t) {i : Nat} {x : Value} (hx : cs[i]? = some x) : w.cell? ⟨b, i, none⟩ = some x := by
  simp only [World.cell?, show w.heap[b]? = _ from h]
  simpa using hx
theorem Own.frozen {w : World} {b : Nat} {cs : List Value} {t : TypeId} (h : Own w b cs t) (o : Nat) : w.frozen? ⟨b, o, none⟩ = false := by
  simp only [World.frozen?, show w.heap[b]? = _ from h]
  simp

theorem own1 {w : World} {b : Nat} {t : TypeId} {x0 : Value} (h : Own w b [x0] t) : w.cell? ⟨b, 0, none⟩ = some x0 ∧ (∀ o, w.frozen? ⟨b, o, none⟩ = false) ∧ b < w.heap.size := ⟨h.cell rfl, h.frozen, h.lt⟩
theorem own2 {w : World} {b : Nat} {t : TypeId} {x0 x1 : Value} (h : Own w b [x0, x1] t) : w.cell? ⟨b, 0, none⟩ = some x0 ∧ w.cell? ⟨b, 1, none⟩ = some x1 ∧ (∀ o, w.frozen? ⟨b, o, none⟩ = false) ∧ b < w.heap.size := ⟨h.cell rfl, h.cell rfl, h.frozen, h.lt⟩
theorem own3 {w : World} {b : Nat} {t : TypeId} {x0 x1 x2 : Value} (h : Own w b [x0, x1, x2] t) : w.cell? ⟨b, 0, none⟩ = some x0 ∧ w.cell? ⟨b, 1, none⟩ = some x1 ∧ w.cell? ⟨b, 2, none⟩ = some x2 ∧ (∀ o, w.frozen? ⟨b, o, none⟩ = false) ∧ b < w.heap.size := ⟨h.cell rfl, h.cell rfl, h.cell rfl, h.frozen, h.lt⟩
theorem own4 {w : World} {b : Nat} {t : TypeId} {x0 x1 x2 x3 : Value} (h : Own w b [x0, x1, x2, x3] t) : w.cell? ⟨b, 0, none⟩ = some x0 ∧ w.cell? ⟨b, 1, none⟩ = some x1 ∧ w.cell? ⟨b, 2, none⟩ = some x2 ∧ w.cell? ⟨b, 3, none⟩ = some x3 ∧ (∀ o, w.frozen? ⟨b, o, none⟩ = false) ∧ b < w.heap.size := ⟨h.cell rfl, h.cell rfl, h.cell rfl, h.cell rfl, h.frozen, h.lt⟩

theorem has_i64 {n : Int} (h : IntKind.i64.has n) : -9223372036854775808 ≤ n ∧ n ≤ 9223372036854775807 := by
  simpa [IntKind.has, IntKind.min, IntKind.max, IntKind.signed, IntKind.bits] using h

end Go.Proofs.Ytheifmdaladfdaa

/- Slices of flat structs (numbers and bools, nested structs too): as an argument, and as a typed list. No program is in sight here. -/
import Derived.Test.YtheifmdaladfdaaKit
import Derived.Deep.Slices
import Derived.ChangeArms
import Derived.ChangeSame
import Derived.Laws.AppendOwn
namespace Go.Proofs.Ytheifmdaladfdaa
open Go.ChangeShapes Go.WideShapes Go.Deep Go.RowKit

/-- The kinds of a flat type's cells. -/
def flatK (P : Program) : Nat → TypeId → Option (List (Option IntKind))
  | 0, _ => none
  | n + 1, t =>
    match P.underlying t with
    | some (.int k) => some [some k]
    | some .bool => some [none]
    | some (.struct fs) => (fs.toList.mapM fun f => flatK P n f.type).map List.flatten
    | _ => none
/-- The fields lie one behind the other. -/
def packed (P : Program) : Nat → List Field → Bool
  | _, [] => true
  | o, f :: l => f.offset == o && packed P (o + P.cellsOf f.type) l
def packedT (P : Program) : Nat → TypeId → Bool
  | 0, _ => false
  | n + 1, t =>
    match P.underlying t with
    | some (.int _) => P.cellsOf t == 1
    | some .bool => P.cellsOf t == 1
    | some (.struct fs) => packed P 0 fs.toList && (P.cellsOf t == (fs.toList.map fun f => P.cellsOf f.type).sum) && fs.toList.all fun f => packedT P n f.type
    | _ => false

theorem okCells_append : ∀ {a b : List (Option IntKind)} {x y : List Value}, okCells a x → okCells b y → okCells (a ++ b) (x ++ y)
  | [], _, _, _, h, k => by simp only [okCells] at h; subst h; simpa using k
  | some _ :: a, _, _, _, h, k => by
    obtain ⟨n, vs, rfl, hn, h⟩ := h
    exact ⟨n, vs ++ _, rfl, hn, okCells_append h k⟩
  | none :: a, _, _, _, h, k => by
    obtain ⟨n, vs, rfl, h⟩ := h
    exact ⟨n, vs ++ _, rfl, okCells_append h k⟩
theorem okCells_len : ∀ {a : List (Option IntKind)} {x : List Value}, okCells a x → x.length = a.length
  | [], _, h => by simp only [okCells] at h; subst h; rfl
  | some _ :: a, _, h => by obtain ⟨n, vs, rfl, hn, h⟩ := h; simp [okCells_len h]
  | none :: a, _, h => by obtain ⟨n, vs, rfl, h⟩ := h; simp [okCells_len h]

section
variable {H : Type} {enc : TypeId × Value → H} {P : Program} {w : World} {base : Nat} {spare : Nat → Bool} {held : Bool}
theorem flat_fields {n m : Nat} (ih : ∀ (t : TypeId) (cs : List Value) (x : DataW H × List MemPlace) (ks : List (Option IntKind)), flatK P n t = some ks → packedT P n t = true → DataW.trod enc P w base spare held m t cs = some x → okCells ks cs) :
    ∀ (l : List Field) (o : Nat) (cs : List Value) (kss : List (List (Option IntKind))), l.mapM (fun f => flatK P n f.type) = some kss → packed P o l = true → (l.all fun f => packedT P n f.type) = true →
      cs.length = o + (l.map fun f => P.cellsOf f.type).sum → (∀ f ∈ l, ∃ y, DataW.trod enc P w base spare held m f.type ((cs.drop f.offset).take (P.cellsOf f.type)) = some y) → okCells kss.flatten (cs.drop o)
  | [], o, cs, kss, h, _, _, hl, _ => by
    simp at h hl
    subst h
    simp only [List.flatten_nil, okCells]
    exact List.drop_of_length_le (by omega)
  | f :: l, o, cs, kss, h, hp, ha, hl, ht => by
    simp only [List.mapM_cons, Option.bind_eq_bind, Option.bind_eq_some_iff] at h
    obtain ⟨k, hk, kl, hkl, e⟩ := h
    simp only [pure, Option.some.injEq] at e
    subst e
    simp only [packed, Bool.and_eq_true, beq_iff_eq] at hp
    simp only [List.all_cons, Bool.and_eq_true] at ha
    obtain ⟨rfl, hp⟩ := hp
    obtain ⟨y, hy⟩ := ht f (by simp)
    have h1 := ih f.type _ y k hk ha.1 hy
    have h2 := flat_fields ih l (f.offset + P.cellsOf f.type) cs kl hkl hp ha.2 (by simp at hl; omega) (fun g hg => ht g (by simp [hg]))
    rw [List.flatten_cons, show cs.drop f.offset = (cs.drop f.offset).take (P.cellsOf f.type) ++ cs.drop (f.offset + P.cellsOf f.type) by rw [← List.drop_drop, List.take_append_drop]]
    exact okCells_append h1 h2
theorem trod_flat : ∀ (n m : Nat) (t : TypeId) (cs : List Value) (x : DataW H × List MemPlace) (ks : List (Option IntKind)), flatK P n t = some ks → packedT P n t = true → DataW.trod enc P w base spare held m t cs = some x → okCells ks cs := by
  intro n
  induction n with
  | zero => intro m t cs x ks h; simp [flatK] at h
  | succ n ih =>
    intro m t cs x ks hk hp h
    unfold flatK at hk
    unfold packedT at hp
    cases hu : P.underlying t with
    | none => simp [hu] at hk
    | some d =>
      cases d <;> simp [hu] at hk
      · subst hk
        obtain ⟨b, rfl, _⟩ := DataW.trod_bool hu h
        exact ⟨b, [], rfl, rfl⟩
      · subst hk
        cases m with
        | zero => simp [DataW.trod] at h
        | succ m =>
          unfold DataW.trod at h
          simp only [hu] at h
          split at h <;> simp_all
          obtain ⟨h1, h2⟩ := h
          exact ⟨_, [], rfl, by simpa [Lit.wf, IntKind.has] using h1.2, rfl⟩
      · rename_i fs
        obtain ⟨kss, hm, rfl⟩ := hk
        simp only [hu, Bool.and_eq_true, beq_iff_eq] at hp
        obtain ⟨ys, n', _, _, hlen, hyl, hf⟩ := DataW.trod_struct hu h
        have := flat_fields (n := n) (m := n') (fun t cs x ks h1 h2 h3 => ih n' t cs x ks h1 h2 h3) fs.toList 0 cs kss hm hp.1.1 hp.2 (by rw [hlen, hp.1.2]; omega) (fun f hfm => by
          obtain ⟨j, hj⟩ := List.getElem?_of_mem hfm
          have hj' : fs[j]? = some f := by simpa using hj
          have h1 := hf j f hj'
          cases hy : ys[j]? with
          | none =>
            have := (Array.getElem?_eq_some_iff.1 hj').1
            have := List.getElem?_eq_none_iff.1 hy
            omega
          | some y => rw [hy] at h1; exact ⟨y, by first | exact h1 | exact h1.symm⟩)
        simpa using this

/-- The value is a slice that reads as these rows of k cells. -/
def SlV (w : World) (v : Value) (k : Nat) (rows : List (List Value)) : Prop :=
  ∃ p cap, v = .slice p rows.length cap ∧ rows.length ≤ cap ∧ cap ≤ maxLen ∧ (p = none → cap = 0) ∧ ∀ i cs, rows[i]? = some cs → ∃ b off, p = some ⟨b, off, none⟩ ∧ b < w.heap.size ∧ ∀ j x, cs[j]? = some x → w.cell? ⟨b, off + i * k + j, none⟩ = some x

theorem lt_of_cellF {w : World} {a : Addr} {v : Value} (h : w.cell? a = some v) : a.block < w.heap.size := by
  rcases Nat.lt_or_ge a.block w.heap.size with h' | h'
  · exact h'
  · simp [World.cell?, Array.getElem?_eq_none h'] at h

theorem open_slv {t e : TypeId} {ks : List (Option IntKind)} {n fuel : Nat} {v : Value} {x : DataW H × List MemPlace} (ht : P.underlying t = some (.slice e)) (hk : flatK P n e = some ks) (hp : packedT P n e = true) (hC : P.cellsOf e = ks.length) (hk0 : 0 < ks.length)
    (h : DataW.trod enc P w base spare held fuel t [v] = some x) : ∃ rows, SlV w v ks.length rows ∧ ∀ cs ∈ rows, okCells ks cs := by
  rcases open_slice ht h with ⟨h0, _⟩ | ⟨a, len, cap, m, n', D, Pl, hcs, hb, hl, hm, hmm, hx, hi⟩
  · exact ⟨[], ⟨none, 0, by simpa using h0, Nat.le_refl _, Nat.zero_le _, fun _ => rfl, fun i cs hi => by simp at hi⟩, by simp⟩
  · obtain rfl : v = .slice (some a) len cap := by simpa using hcs
    have hlm : len ≤ m := by rw [hmm]; split <;> omega
    have hrow : ∀ i, i < len → ∃ cs : List Value, okCells ks cs ∧ ∀ j x, cs[j]? = some x → w.cell? (a.add (i * ks.length + j)) = some x := by
      intro i hil
      obtain ⟨cs', hc, ht'⟩ := hi i (by omega)
      rw [hC] at hc
      obtain ⟨_, hcl, hat⟩ := World.cells?_some hc
      refine ⟨cs', trod_flat n n' e cs' _ ks hk hp ht', fun j x hj => ?_⟩
      have := hat j (by have := (List.getElem?_eq_some_iff.1 hj).1; omega)
      rw [Go.Deep.add_add] at this
      rw [this]; exact hj
    obtain ⟨R, hR⟩ := choose_lt (α := List Value) (p := fun i cs => okCells ks cs ∧ ∀ j x, cs[j]? = some x → w.cell? (a.add (i * ks.length + j)) = some x) hrow
    refine ⟨(List.range len).map R, ⟨some a, cap, by simp, by simpa using hl, hm, (fun e => (by cases e)), fun i cs hics => ?_⟩, fun cs hcs' => ?_⟩
    · have hil : i < len := by
        have := (List.getElem?_eq_some_iff.1 hics).1
        simpa using this
      have e : R i = cs := by simpa [hil] using hics
      obtain ⟨q1, q2⟩ := hR i hil
      rw [e] at q1 q2
      have hlen := okCells_len q1
      obtain ⟨bb, off, spot⟩ := a
      have c0 : cs[0]? = some (cs[0]'(by omega)) := List.getElem?_eq_getElem (by omega)
      have k0 := q2 0 _ c0
      have hspot : spot = none := by
        obtain ⟨r1, r2⟩ := hR 0 (by omega)
        have hlen0 := okCells_len r1
        have k00 := r2 0 _ (List.getElem?_eq_getElem (by omega))
        simpa [Addr.add] using World.cell?_spot k00
      subst hspot
      rw [Go.WideShapes.add_plain] at k0
      refine ⟨bb, off, rfl, lt_of_cellF k0, fun j x hj => ?_⟩
      have := q2 j x hj
      rw [Go.WideShapes.add_plain] at this
      rw [show off + i * ks.length + j = off + (i * ks.length + j) by omega]
      exact this
    · obtain ⟨i, hil, rfl⟩ := List.mem_map.1 hcs'
      exact (hR i (by simpa using hil)).1
end

theorem SlV.below {w w' : World} {v : Value} {k : Nat} {rows : List (List Value)} (h : SlV w v k rows) (hb : Below w.heap.size w w') : SlV w' v k rows := by
  obtain ⟨p, cap, h1, h2, h3, h4, h5⟩ := h
  refine ⟨p, cap, h1, h2, h3, h4, fun i cs hi => ?_⟩
  obtain ⟨b, off, e, hlt, hc⟩ := h5 i cs hi
  exact ⟨b, off, e, Nat.lt_of_lt_of_le hlt hb.size, fun j x hx => by rw [← hc j x hx]; exact hb.cell (p := ⟨b, off + i * k + j, none⟩) hlt⟩
/-- Rows that are all of a kind are a typed list. -/
theorem rows_typed {α : Type} {f : α → List Value} : ∀ {rows : List (List Value)}, (∀ cs ∈ rows, ∃ a, cs = f a) → ∃ as : List α, rows = as.map f
  | [], _ => ⟨[], rfl⟩
  | cs :: rows, h => by
    obtain ⟨a, rfl⟩ := h cs (by simp)
    obtain ⟨as, rfl⟩ := rows_typed (rows := rows) (fun c hc => h c (by simp [hc]))
    exact ⟨a :: as, rfl⟩
/-- As rows_typed, with a fact on each element. -/
theorem rows_typedP {α : Type} {f : α → List Value} {Q : α → Prop} : ∀ {rows : List (List Value)}, (∀ cs ∈ rows, ∃ a, cs = f a ∧ Q a) → ∃ as : List α, rows = as.map f ∧ ∀ a ∈ as, Q a
  | [], _ => ⟨[], rfl, by simp⟩
  | cs :: rows, h => by
    obtain ⟨a, rfl, hq⟩ := h cs (by simp)
    obtain ⟨as, rfl, hqs⟩ := rows_typedP (rows := rows) (fun c hc => h c (by simp [hc]))
    exact ⟨a :: as, rfl, by simpa [hq] using hqs⟩

end Go.Proofs.Ytheifmdaladfdaa

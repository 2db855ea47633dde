/- A slice of structs whose fields are numbers, as an argument: its cells, and that they read as before in every later world. No program is in sight here. -/
import Derived.Test.YtlfdbmndikdhdaaMem27
import Derived.Deep.Slices
namespace Go.Proofs.Ytlfdbmndikdhdaa
open Go.ChangeShapes Go.WideShapes Go.Deep Go.RowKit

/-- Element i of a row of structs is these numbers. -/
def RowIn (w : World) (b off : Nat) (ks : List IntKind) (i : Nat) (ns : List Int) : Prop :=
  ns.length = ks.length ∧ ∀ (j : Nat) (k : IntKind) (n : Int), ks[j]? = some k → ns[j]? = some n → k.has n ∧ w.cell? ⟨b, off + i * ks.length + j, none⟩ = some (.int k n)
/-- The value is a slice that reads as these rows. -/
def Sl (w : World) (v : Value) (ks : List IntKind) (rows : List (List Int)) : Prop :=
  (rows = [] ∧ ∃ p cap, v = .slice p 0 cap ∧ cap ≤ maxLen ∧ (p = none → cap = 0)) ∨
  ∃ b off cap, 0 < rows.length ∧ v = .slice (some ⟨b, off, none⟩) rows.length cap ∧ rows.length ≤ cap ∧ cap ≤ maxLen ∧ b < w.heap.size ∧ ∀ i ns, rows[i]? = some ns → RowIn w b off ks i ns

theorem lt_of_cell {w : World} {a : Addr} {v : Value} (h : w.cell? a = some v) : a.block < w.heap.size := by
  rcases Nat.lt_or_ge a.block w.heap.size with h' | h'
  · exact h'
  · simp [World.cell?, Array.getElem?_eq_none h'] at h

theorem wf_has {k : IntKind} {n : Int} (h : (Lit.int k n).wf = true) : k.has n := by
  simpa [Lit.wf, IntKind.has] using h

section
variable {H : Type} {enc : TypeId × Value → H} {P : Program} {w : World} {base : Nat} {spare : Nat → Bool} {held : Bool}
theorem trod_num {t : TypeId} {k : IntKind} {m : Nat} {cs : List Value} {x : DataW H × List MemPlace} (ht : P.underlying t = some (.int k)) (h : DataW.trod enc P w base spare held m t cs = some x) : ∃ n, cs = [.int k n] ∧ k.has n := by
  cases m with
  | zero => simp [DataW.trod] at h
  | succ m =>
    unfold DataW.trod at h
    simp only [ht] at h
    split at h <;> simp_all
    obtain ⟨h1, h2⟩ := h
    exact wf_has h1.2

theorem open_rows {t e : TypeId} {fs : Array Field} {ks : List IntKind} {fuel : Nat} {v : Value} {x : DataW H × List MemPlace} (ht : P.underlying t = some (.slice e)) (he : P.underlying e = some (.struct fs)) (hC : P.cellsOf e = ks.length) (hk : ks ≠ [])
    (hfs : ∀ (j : Nat) (k : IntKind), ks[j]? = some k → ∃ f : Field, fs[j]? = some f ∧ P.underlying f.type = some (.int k) ∧ f.offset = j ∧ P.cellsOf f.type = 1) (h : DataW.trod enc P w base spare held fuel t [v] = some x) :
    ∃ rows, Sl w v ks rows := by
  have hk0 : 0 < ks.length := List.length_pos_iff.2 hk
  rcases open_slice ht h with ⟨h0, _⟩ | ⟨a, len, cap, m, n, D, Pl, hcs, hb, hl, hm, hmm, hx, hi⟩
  · exact ⟨[], .inl ⟨rfl, none, 0, by simpa using h0, Nat.zero_le _, fun _ => rfl⟩⟩
  · obtain rfl : v = .slice (some a) len cap := by simpa using hcs
    have hlm : len ≤ m := by rw [hmm]; split <;> omega
    have hrow : ∀ i, i < len → ∃ ns : List Int, ns.length = ks.length ∧ ∀ (j : Nat) (k : IntKind) (n : Int), ks[j]? = some k → ns[j]? = some n → k.has n ∧ w.cell? (a.add (i * ks.length + j)) = some (.int k n) := by
      intro i hil
      obtain ⟨cs', hc, ht'⟩ := hi i (by omega)
      rw [hC] at hc
      obtain ⟨ys, n', _, _, hlen, hyl, hf⟩ := DataW.trod_struct he ht'
      obtain ⟨_, hcl, hat⟩ := World.cells?_some hc
      have each : ∀ j, j < ks.length → ∃ n : Int, (ks.getD j .i64).has n ∧ w.cell? (a.add (i * ks.length + j)) = some (.int (ks.getD j .i64) n) := by
        intro j hj
        have hkj : ks[j]? = some (ks.getD j .i64) := by simp [List.getD, List.getElem?_eq_getElem hj]
        obtain ⟨f, hf1, hf2, hf3, hf4⟩ := hfs j _ hkj
        have h1 := hf j f hf1
        rw [hf3, hf4] at h1
        have hone' : (cs'.drop j).take 1 = [cs'[j]'(by omega)] := by
          rw [List.drop_eq_getElem_cons (by omega)]
          rfl
        rw [hone'] at h1
        cases hy : ys[j]? with
        | none =>
          have := (Array.getElem?_eq_some_iff.1 hf1).1
          have := List.getElem?_eq_none_iff.1 hy
          omega
        | some y =>
          rw [hy] at h1
          obtain ⟨n, hn, hh⟩ := trod_num hf2 (by first | exact h1 | exact h1.symm)
          refine ⟨n, hh, ?_⟩
          have := hat j (by omega)
          rw [Go.Deep.add_add] at this
          rw [this, List.getElem?_eq_getElem (by omega)]
          simpa using hn
      obtain ⟨g, hg⟩ := choose_lt (α := Int) (p := fun j n => (ks.getD j .i64).has n ∧ w.cell? (a.add (i * ks.length + j)) = some (.int (ks.getD j .i64) n)) each
      refine ⟨(List.range ks.length).map g, by simp, fun j k n hkj hnj => ?_⟩
      have hj : j < ks.length := (List.getElem?_eq_some_iff.1 hkj).1
      have e1 : ks.getD j .i64 = k := by simp [List.getD, hkj]
      have e2 : g j = n := by simpa [hj] using hnj
      have := hg j hj
      rwa [e1, e2] at this
    by_cases h0 : len = 0
    · subst h0
      exact ⟨[], .inl ⟨rfl, some a, cap, rfl, hm, fun e => by cases e⟩⟩
    · obtain ⟨R, hR⟩ := choose_lt (α := List Int) (p := fun i ns => ns.length = ks.length ∧ ∀ (j : Nat) (k : IntKind) (n : Int), ks[j]? = some k → ns[j]? = some n → k.has n ∧ w.cell? (a.add (i * ks.length + j)) = some (.int k n)) hrow
      obtain ⟨bb, off, spot⟩ := a
      have hspot : spot = none := by
        obtain ⟨hl0, hc0⟩ := hR 0 (by omega)
        have k0 : ks[0]? = some (ks[0]'hk0) := List.getElem?_eq_getElem hk0
        have n0 : (R 0)[0]? = some ((R 0)[0]'(by omega)) := List.getElem?_eq_getElem (by omega)
        have := (hc0 0 _ _ k0 n0).2
        simpa [Addr.add] using World.cell?_spot this
      subst hspot
      have cell : ∀ i ns, ((List.range len).map R)[i]? = some ns → RowIn w bb off ks i ns := by
        intro i ns hins
        have hil : i < len := by
          have := (List.getElem?_eq_some_iff.1 hins).1
          simpa using this
        have e : R i = ns := by simpa [hil] using hins
        obtain ⟨q1, q2⟩ := hR i hil
        rw [e] at q1 q2
        refine ⟨q1, fun j k n hkj hnj => ?_⟩
        have := q2 j k n hkj hnj
        rw [Go.WideShapes.add_plain] at this
        rw [show off + i * ks.length + j = off + (i * ks.length + j) by omega]
        exact this
      refine ⟨(List.range len).map R, .inr ⟨bb, off, cap, by simp; omega, by simp, by simpa using hl, hm, ?_, cell⟩⟩
      obtain ⟨q1, q2⟩ := cell 0 (R 0) (by rw [List.getElem?_map, List.getElem?_range (by omega)]; rfl)
      have k0 : ks[0]? = some (ks[0]'hk0) := List.getElem?_eq_getElem hk0
      have n0 : (R 0)[0]? = some ((R 0)[0]'(by omega)) := List.getElem?_eq_getElem (by omega)
      exact lt_of_cell (q2 0 _ _ k0 n0).2
end

/-- A closed look at the element's type. -/
def rowOkB (P : Program) (t e : TypeId) (ks : List IntKind) : Bool :=
  match P.underlying t, P.underlying e with
  | some (.slice e'), some (.struct fs) => e' == e && P.cellsOf e == ks.length && (List.range ks.length).all fun j =>
    match fs[j]?, ks[j]? with
    | some f, some k => (match P.underlying f.type with | some (.int k') => decide (k' = k) | _ => false) && f.offset == j && P.cellsOf f.type == 1
    | _, _ => false
  | _, _ => false
theorem open_rows_c {H : Type} {enc : TypeId × Value → H} {P : Program} {w : World} {base : Nat} {spare : Nat → Bool} {held : Bool} {t e : TypeId} {ks : List IntKind} {v : Value} {x : DataW H × List MemPlace} {fuel : Nat}
    (hk : ks ≠ []) (hB : rowOkB P t e ks = true) (hf : DataW.trod enc P w base spare held fuel t [v] = some x) : ∃ rows, Sl w v ks rows := by
  unfold rowOkB at hB
  split at hB
  · rename_i e' fs ht he
    simp only [Bool.and_eq_true, beq_iff_eq, List.all_eq_true, List.mem_range] at hB
    obtain ⟨⟨h1, h2⟩, h3⟩ := hB
    subst h1
    refine open_rows ht he h2 hk ?_ hf
    intro j k hkj
    have hj : j < ks.length := (List.getElem?_eq_some_iff.1 hkj).1
    have := h3 j hj
    rw [hkj] at this
    cases hfj : fs[j]? with
    | none => simp [hfj] at this
    | some f =>
      simp only [hfj, Bool.and_eq_true, beq_iff_eq] at this
      obtain ⟨⟨q1, q2⟩, q3⟩ := this
      refine ⟨f, rfl, ?_, q2, q3⟩
      split at q1
      · rename_i k' hk'; rw [hk']; simp only [decide_eq_true_eq] at q1; rw [q1]
      · cases q1
  · cases hB

theorem Sl.below {w w' : World} {v : Value} {ks : List IntKind} {rows : List (List Int)} (h : Sl w v ks rows) (hb : Below w.heap.size w w') : Sl w' v ks rows := by
  rcases h with h | ⟨b, off, cap, h0, h1, h2, h3, h4, h5⟩
  · exact .inl h
  · refine .inr ⟨b, off, cap, h0, h1, h2, h3, Nat.lt_of_lt_of_le h4 hb.size, fun i ns hi => ⟨(h5 i ns hi).1, fun j k n hk hn => ?_⟩⟩
    obtain ⟨q1, q2⟩ := (h5 i ns hi).2 j k n hk hn
    exact ⟨q1, by rw [← q2]; exact hb.cell (p := ⟨b, off + i * ks.length + j, none⟩) h4⟩

theorem RowIn.at {w : World} {b off i : Nat} {ks : List IntKind} {ns : List Int} (h : RowIn w b off ks i ns) (j : Nat) {k : IntKind} (hj : ks[j]? = some k) : ∃ n, ns[j]? = some n ∧ k.has n ∧ w.cell? ⟨b, off + i * ks.length + j, none⟩ = some (.int k n) := by
  have hl : j < ns.length := by rw [h.1]; exact (List.getElem?_eq_some_iff.1 hj).1
  have e : ns[j]? = some (ns[j]'hl) := List.getElem?_eq_getElem hl
  exact ⟨_, e, h.2 j k _ hj e⟩


/-- The row's numbers as a reading. -/
def rdOf (ns : List Int) : Rd := ⟨ns.getD 0 0, ns.getD 1 0, ns.getD 2 0, ns.getD 3 0, ns.getD 4 0⟩
def RdIn (r : Rd) : Prop := IntKind.i64.has r.o ∧ IntKind.i64.has r.n ∧ IntKind.i64.has r.k ∧ IntKind.i64.has r.v ∧ IntKind.i64.has r.a
theorem rdOf_at {w : World} {b off i : Nat} {ns : List Int} (h : RowIn w b off [.i64, .i64, .i64, .i64, .i64] i ns) : RdIn (rdOf ns) ∧ ∀ j x, (rdOf ns).cells[j]? = some x → w.cell? ⟨b, off + i * 5 + j, none⟩ = some x := by
  obtain ⟨hl, hc⟩ := h
  match ns, hl with
  | [a, b', c, d, e], _ =>
    refine ⟨⟨(hc 0 _ _ rfl rfl).1, (hc 1 _ _ rfl rfl).1, (hc 2 _ _ rfl rfl).1, (hc 3 _ _ rfl rfl).1, (hc 4 _ _ rfl rfl).1⟩, fun j x hx => ?_⟩
    match j with
    | 0 => obtain rfl := Option.some.inj hx; exact (hc 0 _ _ rfl rfl).2
    | 1 => obtain rfl := Option.some.inj hx; exact (hc 1 _ _ rfl rfl).2
    | 2 => obtain rfl := Option.some.inj hx; exact (hc 2 _ _ rfl rfl).2
    | 3 => obtain rfl := Option.some.inj hx; exact (hc 3 _ _ rfl rfl).2
    | 4 => obtain rfl := Option.some.inj hx; exact (hc 4 _ _ rfl rfl).2
    | j + 5 => simp [Rd.cells] at hx
theorem slr_of_sl {w : World} {v : Value} {rows : List (List Int)} (h : Sl w v [.i64, .i64, .i64, .i64, .i64] rows) : SlR w v (rows.map rdOf) ∧ NilOk v ∧ ∀ r ∈ rows.map rdOf, RdIn r := by
  rcases h with ⟨rfl, p, cap, rfl, hm, hn⟩ | ⟨b, off, cap, h0, rfl, h2, h3, h4, h5⟩
  · exact ⟨⟨p, cap, rfl, Nat.zero_le _, hm, fun i r h => by simp at h⟩, fun n c e => by injection e with e1 e2 e3; subst e1 e3; exact hn rfl, by simp⟩
  · refine ⟨⟨_, cap, by rw [List.length_map], by rwa [List.length_map], h3, fun i r hi => ?_⟩, fun n c e => (by injection e with e1; cases e1), fun r hr => ?_⟩
    · rw [List.getElem?_map] at hi
      cases e : rows[i]? with
      | none => rw [e] at hi; cases hi
      | some ns =>
        rw [e] at hi
        obtain rfl : rdOf ns = r := by simpa using hi
        exact ⟨b, off, rfl, h4, (rdOf_at (h5 i ns e)).2⟩
    · obtain ⟨ns, hns, rfl⟩ := List.mem_map.1 hr
      obtain ⟨i, hi⟩ := List.getElem?_of_mem hns
      exact (rdOf_at (h5 i ns hi)).1

/-- A struct of one slice of structs of numbers, as an argument. -/
theorem open_queue {H : Type} {enc : TypeId × Value → H} {P : Program} {w : World} {r : Reach} {base b0 : Nat} {spare : Nat → Bool} {held : Bool} {tq ts te : TypeId} {f0 : Field} {ks : List IntKind} {v : Value} {d : DataW H} {ps : List MemPlace}
    (hs : P.underlying tq = some (.struct #[f0])) (hf : f0.type = ts) (ho : f0.offset = 0) (hC : P.cellsOf tq = 1) (hC1 : P.cellsOf ts = 1) (hk : ks ≠ []) (hB : rowOkB P ts te ks = true)
    (hok : Value.okWide P w r b0 tq v) (h : DataW.Trod enc P w base spare held tq v d ps) : ∃ u rows, v = .agg #[u] ∧ Sl w u ks rows := by
  obtain ⟨cs, rfl, hsz⟩ := Go.WideShapes.okWide_struct hs hok
  rw [hC] at hsz
  obtain ⟨u, rfl⟩ : ∃ u, cs = #[u] := by
    match cs, hsz with
    | ⟨[u]⟩, _ => exact ⟨u, rfl⟩
  obtain ⟨fuel, h⟩ := h
  obtain ⟨y0, n, _, _, h1⟩ := trod_struct1 hs h
  rw [hf, ho, hC1] at h1
  obtain ⟨rows, hr⟩ := open_rows_c hk hB (v := u) (x := y0) (fuel := n) (by simpa [Value.cells] using h1)
  exact ⟨u, rows, rfl, hr⟩

end Go.Proofs.Ytlfdbmndikdhdaa

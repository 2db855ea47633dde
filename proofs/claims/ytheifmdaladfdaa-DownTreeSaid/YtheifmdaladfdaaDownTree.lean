/- The walk of DownTree. -/
import Derived.Test.YtheifmdaladfdaaTree21p
import Derived.Test.YtheifmdaladfdaaDownNewest
import Derived.Laws.MakeOwn
import Derived.IntWalk
import Derived.Deep.RegionHeld3
namespace Go.Proofs.Ytheifmdaladfdaa
open Go.RowKit

def rowF (n : Nat) (g : Nat → Value) : List Value := (List.range n).map g
theorem rowF_at {n j : Nat} {g : Nat → Value} (h : j < n) : (rowF n g)[j]? = some (g j) := by rw [rowF, List.getElem?_map, List.getElem?_range h]; rfl
theorem rowF_set {n j : Nat} {g : Nat → Value} {v : Value} : (rowF n g).set j v = rowF n (fun k => if k = j then v else g k) := by
  apply List.ext_getElem?
  intro i
  rw [List.getElem?_set]
  by_cases hi : i < n
  · by_cases e : j = i
    · subst e
      rw [if_pos rfl, if_pos (by rw [rowF, List.length_map, List.length_range]; exact hi), rowF_at hi]; simp
    · rw [if_neg e, rowF_at hi, rowF_at hi, if_neg (fun e2 => e e2.symm)]
  · by_cases e : j = i
    · subst e
      rw [if_pos rfl, if_neg (by rw [rowF, List.length_map, List.length_range]; exact hi), List.getElem?_eq_none (by rw [rowF, List.length_map, List.length_range]; omega)]
    · rw [if_neg e, List.getElem?_eq_none (by rw [rowF, List.length_map, List.length_range]; omega), List.getElem?_eq_none (by rw [rowF, List.length_map, List.length_range]; omega)]
theorem rowF_rep (n : Nat) (z : Value) : rowF n (fun _ => z) = List.replicate n z := by
  refine List.eq_replicate_iff.2 ⟨by simp [rowF], fun b hb => ?_⟩
  simp only [rowF, List.mem_map] at hb
  obtain ⟨_, _, rfl⟩ := hb
  rfl
theorem infoT_int : (Try.prog.info? 3).map (fun i => (i.zero, i.size, i.bytes)) = some (some (.int .i64 0), 1, 8) := by kernel_rfl
theorem make_int (l : Nat) (hl : l ≤ 40) (w : World) : (Instr.makeSlice 41 (.int .i64 ((l : Int) + 1)) (.int .i64 ((l : Int) + 1))).run Try.prog w = .ok (.slice (some ⟨w.heap.size, 0, none⟩) (l + 1) (l + 1)) (w.alloc (.cells (rowF (l + 1) (fun _ => .int .i64 0)).toArray 3)) := by
  obtain ⟨i0, hi, hz, hs0, hb0⟩ := info_parts infoT_int
  have h := run_make w 41 3 i0 (.int .i64 0) (by kernel_rfl) hi hz .i64 .i64 ((l : Int) + 1) ((l : Int) + 1) (by omega) (by omega) (by rw [hb0]; omega) (by omega)
  rw [h]
  have e : madeCells (Value.cells (.int .i64 0)) ((((l : Int) + 1)).toNat * i0.size) = (rowF (l + 1) (fun _ => .int .i64 0)).toArray := by
    rw [hs0, show Value.cells (.int .i64 0) = #[.int .i64 0] from rfl]
    apply Array.ext'
    rw [toList_madeCells_one, rowF_rep]
    have : ((l : Int) + 1).toNat = l + 1 := by omega
    simp [this]
  rw [e]
  have : ((l : Int) + 1).toNat = l + 1 := by omega
  simp [this]
theorem infoT_bool : (Try.prog.info? 4).map (fun i => (i.zero, i.size, i.bytes)) = some (some (.bool false), 1, 1) := by kernel_rfl
theorem make_bool (l : Nat) (hl : l ≤ 40) (w : World) : (Instr.makeSlice 44 (.int .i64 ((l : Int) + 1)) (.int .i64 ((l : Int) + 1))).run Try.prog w = .ok (.slice (some ⟨w.heap.size, 0, none⟩) (l + 1) (l + 1)) (w.alloc (.cells (rowF (l + 1) (fun _ => .bool false)).toArray 4)) := by
  obtain ⟨i0, hi, hz, hs0, hb0⟩ := info_parts infoT_bool
  have h := run_make w 44 4 i0 (.bool false) (by kernel_rfl) hi hz .i64 .i64 ((l : Int) + 1) ((l : Int) + 1) (by omega) (by omega) (by rw [hb0]; omega) (by omega)
  rw [h]
  have e : madeCells (Value.cells (.bool false)) ((((l : Int) + 1)).toNat * i0.size) = (rowF (l + 1) (fun _ => .bool false)).toArray := by
    rw [hs0, show Value.cells (.bool false) = #[.bool false] from rfl]
    apply Array.ext'
    rw [toList_madeCells_one, rowF_rep]
    have : ((l : Int) + 1).toNat = l + 1 := by omega
    simp [this]
  rw [e]
  have : ((l : Int) + 1).toNat = l + 1 := by omega
  simp [this]
theorem infoT_rts : (Try.prog.info? 22).map (fun i => (i.zero, i.size, i.bytes)) = some (some (.slice none 0 0), 1, 24) := by kernel_rfl
theorem make_rts (l : Nat) (hl : l ≤ 40) (w : World) : (Instr.makeSlice 42 (.int .i64 ((l : Int) + 1)) (.int .i64 ((l : Int) + 1))).run Try.prog w = .ok (.slice (some ⟨w.heap.size, 0, none⟩) (l + 1) (l + 1)) (w.alloc (.cells (rowF (l + 1) (fun _ => .slice none 0 0)).toArray 22)) := by
  obtain ⟨i0, hi, hz, hs0, hb0⟩ := info_parts infoT_rts
  have h := run_make w 42 22 i0 (.slice none 0 0) (by kernel_rfl) hi hz .i64 .i64 ((l : Int) + 1) ((l : Int) + 1) (by omega) (by omega) (by rw [hb0]; omega) (by omega)
  rw [h]
  have e : madeCells (Value.cells (.slice none 0 0)) ((((l : Int) + 1)).toNat * i0.size) = (rowF (l + 1) (fun _ => .slice none 0 0)).toArray := by
    rw [hs0, show Value.cells (.slice none 0 0) = #[.slice none 0 0] from rfl]
    apply Array.ext'
    rw [toList_madeCells_one, rowF_rep]
    have : ((l : Int) + 1).toNat = l + 1 := by omega
    simp [this]
  rw [e]
  have : ((l : Int) + 1).toNat = l + 1 := by omega
  simp [this]
def shL : Lay Int := ⟨fun x => [.int .u16 x], 1, by decide, fun _ => rfl, fun a u h => by simp only [List.mem_cons, List.not_mem_nil, or_false] at h; subst h; rfl⟩
theorem sh_of {cs : List Value} (h : okCells [some .u16] cs) : ∃ d : Int, cs = shL.f d ∧ (0 ≤ d ∧ d < 65536) := by
  simp only [okCells] at h
  obtain ⟨a, _, rfl, ha, rfl⟩ := h
  have h1 : (0 : Int) ≤ a := ha.1
  have h2 : a ≤ 65535 := ha.2
  exact ⟨a, rfl, h1, by omega⟩
/-- The tree that the picks say. -/
def prT (ps : List Int) (j : Nat) : Nat := if j = 0 then 0 else (ps.getD (j - 1) 0).toNat % j
theorem prT_tre (ps : List Int) : Tre (prT ps) := fun j hj => by
  rw [prT, if_neg (by omega)]; exact Nat.mod_lt _ hj
theorem prT_at {ps : List Int} {k : Nat} {x : Int} (h : ps[k]? = some x) (hx : 0 ≤ x) : x.tmod ((k : Int) + 1) = ((prT ps (k + 1) : Nat) : Int) := by
  obtain ⟨y, rfl⟩ : ∃ y : Nat, x = (y : Int) := ⟨x.toNat, by omega⟩
  rw [prT, if_neg (by omega), show k + 1 - 1 = k by omega, List.getD_eq_getElem?_getD, h]
  simp only [Option.getD_some, Int.toNat_natCast]
  rw [show ((k : Int) + 1) = ((k + 1 : Nat) : Int) by omega, ← Int.ofNat_tmod]
theorem SlT.slc {α : Type} {L : Lay α} {w : World} {v : Value} {l : List α} (h : SlT L w v l) : ∃ p n c, v = .slice p n c := by
  obtain ⟨p, cap, h1, _⟩ := h
  exact ⟨p, _, cap, h1⟩
/-- A layout whose cells are numbers. -/
def NumL {α : Type} (L : Lay α) : Prop := ∀ a, ∀ u ∈ L.f a, ∃ n, u = .int .i64 n
theorem numD : NumL dnL := fun a u h => by
  have h' : u ∈ a.cells := h
  simp only [Dn.cells, List.mem_cons, List.not_mem_nil, or_false] at h'
  rcases h' with rfl | rfl | rfl | rfl <;> exact ⟨_, rfl⟩
/-- A slice of numbers does not lie in a block of other things: it reads as before when only that block changes. -/
theorem SlT.apart {α : Type} {L : Lay α} {w w' : World} {v : Value} {l : List α} {b : Nat} {cs : List Value} {t : TypeId} (h : SlT L w v l) (hN : NumL L) (o : Own w b cs t) (hn : ∀ c ∈ cs, ∀ k n, c ≠ .int k n) (hs : w.heap.size ≤ w'.heap.size)
    (hw : ∀ b', b' ≠ b → b' < w.heap.size → w'.heap[b']? = w.heap[b']?) : SlT L w' v l := by
  obtain ⟨p, cap, h1, h2, h3, h4, h5⟩ := h
  refine ⟨p, cap, h1, h2, h3, h4, fun i cs' hi => ?_⟩
  obtain ⟨b', off, e, hlt, hc⟩ := h5 i cs' hi
  refine ⟨b', off, e, Nat.lt_of_lt_of_le hlt hs, fun j x hx => ?_⟩
  have h0 := hc j x hx
  have hne : b' ≠ b := fun e => by
    subst e
    rw [List.getElem?_map] at hi
    cases ha : l[i]? with
    | none => rw [ha] at hi; cases hi
    | some a =>
      rw [ha] at hi
      obtain rfl : L.f a = cs' := by simpa using hi
      obtain ⟨n, rfl⟩ := hN a x (List.mem_of_getElem? hx)
      simp only [World.cell?, show w.heap[b']? = _ from o] at h0
      have h9 : cs[off + i * L.k + j]? = some (.int .i64 n) := by simpa using h0
      exact hn _ (List.mem_of_getElem? h9) _ _ rfl
  rw [← h0]
  exact World.cell?_of_block (a := ⟨b', _, none⟩) (hw b' hne hlt)
/-- A store of a slice into the block of slices. -/
theorem slt_store {w : World} {v : Value} {l : List Dn} {b i n : Nat} {g : Nat → Value} {t : TypeId} {x : Value} (h : SlD w v l) (o : Own w b (rowF n g) t) (hg : ∀ j, j < n → ∃ p m c, g j = .slice p m c) : SlD (w.setCell ⟨b, i, none⟩ x) v l :=
  SlT.apart h numD o (fun c hc k m e => by
    simp only [rowF, List.mem_map, List.mem_range] at hc
    obtain ⟨j, hj, rfl⟩ := hc
    obtain ⟨p, m', c', e2⟩ := hg j hj
    rw [e2] at e; cases e) (by simp) (fun b' hne _ => Below.heap_setCell w ⟨b, i, none⟩ x b' hne)


section
variable {P : Program} {ops : Array Oper} {Q : Exit → Act → World → Prop} {md : Region.Mode} {S : World → Prop}

theorem region_H {id : Nat} {a : Act} {w : World} (sz : Nat) (l0 : Array Bool) (hsz : ops.size = sz) (hl0 : Array.replicate sz false = l0) (S : World → Prop) (hm : P.follows .mixedOrders = true) (hS : S w.drew)
    (h : S w.drew → wpAnyH P .any ops Q S sz l0 a w.drew) : (Code.region id ops true).wp P Q a w := by
  subst hsz hl0
  exact wp_region_held_drew hm hS h
theorem wpH_take {i : Nat} (dst : Option Tmp) {oi : Oper} {v : Value} {fuel : Nat} {listed : Array Bool} {a : Act} {w : World} (hi : ops[i]? = some oi)
    (hs : Region.noSelect ops = true) (hf : Region.free md ops listed i = true) (hr : (Region.ready md ops listed).contains i = true)
    (hdst : oi.dst = dst) (hQ : ∀ c a w, Q (.panic c) (a.put dst v) w → Q (.panic c) a w) (hy : YieldsIf P ops S oi v a) (hS : S w)
    (h : wpAnyH P md ops Q S fuel (listed.setIfInBounds i true) (a.put dst v) w) : wpAnyH P md ops Q S (fuel + 1) listed a w := by
  subst hdst
  exact wpAnyH_take hi hs hf hr hQ hy hS h
/-- The one operation that may come up now. -/
theorem wpH_one {i : Nat} {o : Oper} {fuel : Nat} {listed : Array Bool} {a : Act} {w : World} (hr : Region.ready md ops listed = [i]) (ho : ops[i]? = some o)
    (h : ∀ K' : Act → World → Prop, Shut (∀ a w, S w → (S w → wpAnyH P md ops Q S fuel (listed.setIfInBounds i true) a w) → K' a w) → if Region.wanted o (yielded ops a.tmps) = true then Oper.wp P o a w K' Q else K' (a.put o.dst undef) w) : wpAnyH P md ops Q S (fuel + 1) listed a w :=
  wpAnyH_ready hr (by simp) (AllReadyH.cons ho h AllReadyH.nil)
end

set_option linter.unusedSimpArgs false in
set_option linter.unusedVariables false in
set_option maxRecDepth 100000 in
set_option maxHeartbeats 6000000 in
theorem tree_w0 (vp vq : Value) (ps qs : List Int) (f : Int) (w : World) (sp : SlT chL w vp ps) (hp : ∀ a ∈ ps, 0 ≤ a ∧ a < 256) (sq : SlT shL w vq qs) (hq : ∀ a ∈ qs, 0 ≤ a ∧ a < 65536) (pl : (ps.length : Int) ≤ 1000000000000000000) (h1 : decide (20 < (ps.length : Int) + 1) = true) : Calls Try.prog 6 #[vp, vq, .int .i64 f] w fun e w' => e = .returned (.bool true) ∧ Below w.heap.size w w' := by
  obtain ⟨pp, cp, e0, hlp, hcp, _⟩ := sp.form ps.length rfl
  subst e0
  obtain ⟨pq, cq, e0, hlq, hcq, _⟩ := sq.form qs.length rfl
  subst e0
  have SP := Lib.hid sp
  have SQ := Lib.hid sq
  have SQ0 := Lib.hid sq
  have HP := Lib.hid hp
  have HQ := Lib.hid hq
  clear sp sq hp hq
  have ip0 : (0 : Int) ≤ (ps.length : Int) := Int.natCast_nonneg _
  have iq0 : (0 : Int) ≤ (qs.length : Int) := Int.natCast_nonneg _
  go_enter Try.func6, Try.ntmps6
  go_wp2_with fail
  refine (head_true _).mono ?_
  rintro e w1 ⟨rfl, hb⟩
  have bel := belowTo (Below.refl w.heap.size w) hb (by simp)
  clear hb
  go_wp2_with fail
  go_ret
  exact ⟨rfl, bel⟩

set_option linter.unusedSimpArgs false in
set_option linter.unusedVariables false in
set_option maxRecDepth 100000 in
set_option maxHeartbeats 6000000 in
theorem tree_w1 (vp vq : Value) (ps qs : List Int) (f : Int) (w : World) (sp : SlT chL w vp ps) (hp : ∀ a ∈ ps, 0 ≤ a ∧ a < 256) (sq : SlT shL w vq qs) (hq : ∀ a ∈ qs, 0 ≤ a ∧ a < 65536) (pl : (ps.length : Int) ≤ 1000000000000000000) (h1 : decide (20 < (ps.length : Int) + 1) = false) (h2 : decide ((qs.length : Int) < (ps.length : Int) + 1) = true) : Calls Try.prog 6 #[vp, vq, .int .i64 f] w fun e w' => e = .returned (.bool true) ∧ Below w.heap.size w w' := by
  obtain ⟨pp, cp, e0, hlp, hcp, _⟩ := sp.form ps.length rfl
  subst e0
  obtain ⟨pq, cq, e0, hlq, hcq, _⟩ := sq.form qs.length rfl
  subst e0
  have SP := Lib.hid sp
  have SQ := Lib.hid sq
  have SQ0 := Lib.hid sq
  have HP := Lib.hid hp
  have HQ := Lib.hid hq
  clear sp sq hp hq
  have ip0 : (0 : Int) ≤ (ps.length : Int) := Int.natCast_nonneg _
  have iq0 : (0 : Int) ≤ (qs.length : Int) := Int.natCast_nonneg _
  go_enter Try.func6, Try.ntmps6
  go_wp2_with fail
  refine (head_true _).mono ?_
  rintro e w1 ⟨rfl, hb⟩
  have bel := belowTo (Below.refl w.heap.size w) hb (by simp)
  clear hb
  go_wp2_with fail
  go_ret
  exact ⟨rfl, bel⟩

set_option linter.unusedSimpArgs false in
set_option linter.unusedVariables false in
set_option maxRecDepth 100000 in
set_option maxHeartbeats 6000000 in
theorem tree_w2 (vp vq : Value) (ps qs : List Int) (f : Int) (w : World) (sp : SlT chL w vp ps) (hp : ∀ a ∈ ps, 0 ≤ a ∧ a < 256) (sq : SlT shL w vq qs) (hq : ∀ a ∈ qs, 0 ≤ a ∧ a < 65536) (pl : (ps.length : Int) ≤ 1000000000000000000) (h1 : decide (20 < (ps.length : Int) + 1) = false) (h2 : decide ((qs.length : Int) < (ps.length : Int) + 1) = false) (h3 : decide (f < 0) = true) : Calls Try.prog 6 #[vp, vq, .int .i64 f] w fun e w' => e = .returned (.bool true) ∧ Below w.heap.size w w' := by
  obtain ⟨pp, cp, e0, hlp, hcp, _⟩ := sp.form ps.length rfl
  subst e0
  obtain ⟨pq, cq, e0, hlq, hcq, _⟩ := sq.form qs.length rfl
  subst e0
  have SP := Lib.hid sp
  have SQ := Lib.hid sq
  have SQ0 := Lib.hid sq
  have HP := Lib.hid hp
  have HQ := Lib.hid hq
  clear sp sq hp hq
  have ip0 : (0 : Int) ≤ (ps.length : Int) := Int.natCast_nonneg _
  have iq0 : (0 : Int) ≤ (qs.length : Int) := Int.natCast_nonneg _
  go_enter Try.func6, Try.ntmps6
  go_wp2_with fail
  refine (head_true _).mono ?_
  rintro e w1 ⟨rfl, hb⟩
  have bel := belowTo (Below.refl w.heap.size w) hb (by simp)
  clear hb
  go_wp2_with fail
  go_ret
  exact ⟨rfl, bel⟩

set_option linter.unusedSimpArgs false in
set_option linter.unusedVariables false in
set_option maxRecDepth 100000 in
set_option maxHeartbeats 6000000 in
theorem tree_w3 (vp vq : Value) (ps qs : List Int) (f : Int) (w : World) (sp : SlT chL w vp ps) (hp : ∀ a ∈ ps, 0 ≤ a ∧ a < 256) (sq : SlT shL w vq qs) (hq : ∀ a ∈ qs, 0 ≤ a ∧ a < 65536) (pl : (ps.length : Int) ≤ 1000000000000000000) (h1 : decide (20 < (ps.length : Int) + 1) = false) (h2 : decide ((qs.length : Int) < (ps.length : Int) + 1) = false) (h3 : decide (f < 0) = false) (h4 : decide (999999997 < f) = true) : Calls Try.prog 6 #[vp, vq, .int .i64 f] w fun e w' => e = .returned (.bool true) ∧ Below w.heap.size w w' := by
  obtain ⟨pp, cp, e0, hlp, hcp, _⟩ := sp.form ps.length rfl
  subst e0
  obtain ⟨pq, cq, e0, hlq, hcq, _⟩ := sq.form qs.length rfl
  subst e0
  have SP := Lib.hid sp
  have SQ := Lib.hid sq
  have SQ0 := Lib.hid sq
  have HP := Lib.hid hp
  have HQ := Lib.hid hq
  clear sp sq hp hq
  have ip0 : (0 : Int) ≤ (ps.length : Int) := Int.natCast_nonneg _
  have iq0 : (0 : Int) ≤ (qs.length : Int) := Int.natCast_nonneg _
  go_enter Try.func6, Try.ntmps6
  go_wp2_with fail
  refine (head_true _).mono ?_
  rintro e w1 ⟨rfl, hb⟩
  have bel := belowTo (Below.refl w.heap.size w) hb (by simp)
  clear hb
  go_wp2_with fail
  go_ret
  exact ⟨rfl, bel⟩

set_option linter.unusedSimpArgs false in
set_option linter.unusedVariables false in
set_option maxRecDepth 100000 in
set_option maxHeartbeats 6000000 in
theorem tree_go (vp vq : Value) (ps qs : List Int) (f : Int) (w : World) (sp : SlT chL w vp ps) (hp : ∀ a ∈ ps, 0 ≤ a ∧ a < 256) (sq : SlT shL w vq qs) (hq : ∀ a ∈ qs, 0 ≤ a ∧ a < 65536) (pl : (ps.length : Int) ≤ 1000000000000000000) (h1 : decide (20 < (ps.length : Int) + 1) = false) (h2 : decide ((qs.length : Int) < (ps.length : Int) + 1) = false) (h3 : decide (f < 0) = false) (h4 : decide (999999997 < f) = false) : Calls Try.prog 6 #[vp, vq, .int .i64 f] w fun e w' => e = .returned (.bool true) ∧ Below w.heap.size w w' := by
  obtain ⟨pp, cp, e0, hlp, hcp, _⟩ := sp.form ps.length rfl
  subst e0
  obtain ⟨pq, cq, e0, hlq, hcq, _⟩ := sq.form qs.length rfl
  subst e0
  have SP := Lib.hid sp
  have SQ := Lib.hid sq
  have SQ0 := Lib.hid sq
  have HP := Lib.hid hp
  have HQ := Lib.hid hq
  clear sp sq hp hq
  have ip0 : (0 : Int) ≤ (ps.length : Int) := Int.natCast_nonneg _
  have iq0 : (0 : Int) ≤ (qs.length : Int) := Int.natCast_nonneg _
  have a1 := of_decide_eq_false h1
  have a2 := of_decide_eq_false h2
  have a3 := of_decide_eq_false h3
  have a4 := of_decide_eq_false h4
  have hl : ps.length ≤ 19 := by omega
  have m1 := make_int ps.length (by omega)
  have m2 := make_rts ps.length (by omega)
  have m3 := make_bool ps.length (by omega)
  have ht := Lib.hid (prT_tre ps)
  go_enter Try.func6, Try.ntmps6
  go_wp2_with fail
  refine (head_true _).mono ?_
  rintro e w1 ⟨rfl, hb⟩
  replace SP := Lib.hid (SP.out.below hb)
  replace SQ := Lib.hid (SQ.out.below hb)
  have bel := belowTo (Below.refl w.heap.size w) hb (by simp)
  clear hb
  go_wp2_with fail
  have BL1 := Lib.hid bel
  clear bel
  have OP0 := Lib.hid (own_at (w := w1) (rowF (ps.length + 1) (fun _ => .int .i64 0)) 3 rfl)
  have B0 := Lib.hid (belowNew w1 (.cells (rowF (ps.length + 1) (fun _ => .int .i64 0)).toArray 3))
  generalize w1.alloc (.cells (rowF (ps.length + 1) (fun _ => .int .i64 0)).toArray 3) = wa at OP0 B0 ⊢
  obtain ⟨bP, hbP⟩ : ∃ bP, w1.heap.size = bP := ⟨_, rfl⟩
  rw [hbP] at OP0
  try rw [hbP]
  have hPw : w1.heap.size ≤ bP := by omega
  clear hbP
  go_loopw [10] (fun ii wz => ∃ (k : Nat), k ≤ ps.length ∧ ii = .int .i64 ((k : Int) + 1) ∧ Own wz bP (rowF (ps.length + 1) (fun j => .int .i64 ((if j < k + 1 then prT ps j else 0 : Nat) : Int))) 3 ∧ Below w1.heap.size w1 wz) (fun i _ => ps.length + 1 - (intOf i).toNat)
  case atStart => exact ⟨0, by omega, rfl, by
    have h9 := OP0.out
    have e9 : (fun j => Value.int .i64 ((if j < 0 + 1 then prT ps j else 0 : Nat) : Int)) = fun _ => .int .i64 0 := by
      funext j
      by_cases h : j < 0 + 1
      · rw [if_pos h, show j = 0 by omega]; rfl
      · rw [if_neg h]; rfl
    rw [e9]; exact h9, B0.out⟩
  case round =>
    rename World => wr
    obtain ⟨k, hk, rfl, hop, hbe⟩ := hrel
    have OPr := Lib.hid hop
    have BE := Lib.hid hbe
    clear hop hbe
    have k0 : (0 : Int) ≤ (k : Int) := Int.natCast_nonneg _
    have k1 : ((k : Int) + 1).toNat = k + 1 := by omega
    have k2 : ¬ ((k : Int) + 1 = 0) := by omega
    have k3 : (k : Int) ≤ 19 := by omega
    by_cases hlt : k < ps.length
    · obtain ⟨x, b, off, hx, rfl, _, hbl, hc⟩ := SP.out.at BE.out hlt
      have d0 : wr.cell? ⟨b, off + k, none⟩ = some (.int .u8 x) := by
        have h9 := hc 0 _ rfl
        rw [show off + k * chL.k + 0 = off + k by show off + k * 1 + 0 = off + k; omega] at h9
        exact h9
      clear hc
      have j1 : (k : Int) < (ps.length : Int) := by omega
      obtain ⟨x0, x1⟩ := HP.out x (List.mem_of_getElem? hx)
      have wx : IntKind.i64.wrap x = x := IntWalk.i64_in _ (by omega)
      have hxm := prT_at hx x0
      have fP := OPr.out.frozen
      have cP : wr.cell? ⟨bP, k + 1, none⟩ = some (.int .i64 0) := OPr.out.cell (by rw [rowF_at (show k + 1 < ps.length + 1 by omega), if_neg (by omega)]; rfl)
      go_wp2_with fail
      go_roundw
      case rel => exact ⟨k + 1, by omega, by go_num, by
        have h9 := OPr.out.set (k + 1) (.int .i64 ((prT ps (k + 1) : Nat) : Int))
        rw [rowF_set] at h9
        have e9 : (fun j => if j = k + 1 then Value.int .i64 ((prT ps (k + 1) : Nat) : Int) else .int .i64 ((if j < k + 1 then prT ps j else 0 : Nat) : Int)) = fun j => .int .i64 ((if j < k + 1 + 1 then prT ps j else 0 : Nat) : Int) := by
          funext j
          by_cases e : j = k + 1
          · subst e; simp
          · simp only [e, if_false]
            by_cases h : j < k + 1
            · rw [if_pos h, if_pos (by omega)]
            · rw [if_neg h, if_neg (by omega)]
        rw [e9] at h9
        exact h9, BE.out.setCell (p := ⟨bP, k + 1, none⟩) hPw _⟩
      case measure => simp [intOf]; omega
    · have hk9 : k = ps.length := by omega
      subst hk9
      have OPn := Lib.hid (show Own wr bP (rowF (ps.length + 1) (fun j => .int .i64 ((prT ps j : Nat) : Int))) 3 from by
        have h9 := OPr.out
        have e9 : rowF (ps.length + 1) (fun j => .int .i64 ((if j < ps.length + 1 then prT ps j else 0 : Nat) : Int)) = rowF (ps.length + 1) (fun j => .int .i64 ((prT ps j : Nat) : Int)) := by
          apply List.map_congr_left
          intro j hj
          rw [if_pos (List.mem_range.1 hj)]
        rw [e9] at h9; exact h9)
      have BLr := Lib.hid (belowTo BL1.out BE.out BL1.out.size)
      clear OPr OP0 B0
      go_wp2_with fail
      have OR0 := Lib.hid (own_at (w := wr) (rowF (ps.length + 1) (fun _ => .slice none 0 0)) 22 rfl)
      have OPm := Lib.hid (OPn.out.alloc (.cells (rowF (ps.length + 1) (fun _ => .slice none 0 0)).toArray 22))
      have BLm := Lib.hid (BLr.out.alloc BLr.out.size (.cells (rowF (ps.length + 1) (fun _ => .slice none 0 0)).toArray 22))
      have hPR : ¬ bP = wr.heap.size := by have := OPn.out.lt; omega
      have hRw : w.heap.size ≤ wr.heap.size := BLr.out.size
      generalize wr.alloc (.cells (rowF (ps.length + 1) (fun _ => .slice none 0 0)).toArray 22) = wm at OR0 OPm BLm ⊢
      obtain ⟨bR, hbR⟩ : ∃ bR, wr.heap.size = bR := ⟨_, rfl⟩
      rw [hbR] at OR0 hPR hRw
      try rw [hbR]
      clear hbR OPn BLr
      go_loopw [12] (fun ii wz => ∃ (i : Nat) (ρ : Nat → List Dn) (vs : Nat → Value), i ≤ ps.length ∧ ii = .int .i64 i ∧ TInv (prT ps) (ps.length + 1) i ρ ∧ (∀ j, j < ps.length + 1 → (ρ j).length ≤ 60) ∧ Own wz bP (rowF (ps.length + 1) (fun j => .int .i64 ((prT ps j : Nat) : Int))) 3 ∧ Own wz bR (rowF (ps.length + 1) vs) 22 ∧ (∀ j, j < ps.length + 1 → SlD wz (vs j) (ρ j)) ∧ Below w.heap.size w wz) (fun i _ => (intOf i).toNat)
      case atStart => exact ⟨ps.length, fun _ => [], fun _ => .slice none 0 0, by omega, rfl, tinv_start ht.out, fun _ _ => by simp, OPm.out, OR0.out, fun _ _ => slt_nil _, BLm.out⟩
      case round =>
        rename World => wq
        obtain ⟨i, ρ, vs, hi, rfl, hI, hln, hop, hor, hsl, hbe⟩ := hrel
        have HI := Lib.hid hI
        have HLN := Lib.hid hln
        have OPq := Lib.hid hop
        have ORq := Lib.hid hor
        have HS := Lib.hid hsl
        have BLq := Lib.hid hbe
        clear hI hln hop hor hsl hbe
        have i0 : (0 : Int) ≤ (i : Int) := Int.natCast_nonneg _
        by_cases hlt : 0 < i
        · have i1 : (0 : Int) < (i : Int) := by omega
          have i2 : (i : Int) < (ps.length : Int) + 1 := by omega
          have i3 : (i : Int) < (qs.length : Int) := by omega
          have i4 : i < ps.length + 1 := by omega
          obtain ⟨p, hpe⟩ : ∃ p, prT ps i = p := ⟨_, rfl⟩
          have hpi : p < i := by rw [← hpe]; exact ht.out i hlt
          have hpn : p < ps.length + 1 := by omega
          have p0 : (0 : Int) ≤ (p : Int) := Int.natCast_nonneg _
          have p1 : (p : Int) < (ps.length : Int) + 1 := by omega
          have cP : wq.cell? ⟨bP, i, none⟩ = some (.int .i64 (p : Int)) := OPq.out.cell (by rw [rowF_at i4, hpe])
          have cRp : wq.cell? ⟨bR, p, none⟩ = some (vs p) := ORq.out.cell (rowF_at hpn)
          have cRi : wq.cell? ⟨bR, i, none⟩ = some (vs i) := ORq.out.cell (rowF_at i4)
          obtain ⟨sx, b, off, hx, rfl, _, hbl, hc⟩ := SQ0.out.at BLq.out (show i < qs.length by omega)
          have d0 : wq.cell? ⟨b, off + i, none⟩ = some (.int .u16 sx) := by
            have h9 := hc 0 _ rfl
            rw [show off + i * shL.k + 0 = off + i by show off + i * 1 + 0 = off + i; omega] at h9
            exact h9
          clear hc
          have hbq : b < wq.heap.size := Nat.lt_of_lt_of_le hbl BLq.out.size
          obtain ⟨s0, s1⟩ := HQ.out sx (List.mem_of_getElem? hx)
          have wx : IntKind.i64.wrap sx = sx := IntWalk.i64_in _ (by omega)
          have HB := Lib.hid (show lrnB (ρ p) (telL (ρ i)) i sx f = true from by rw [← hpe]; exact tinv_learn ht.out HI.out (by omega) hlt i4 ⟨s0, by omega⟩ ⟨by omega, by omega⟩)
          have HI2 := Lib.hid (show TInv (prT ps) (ps.length + 1) (i - 1) (fun j => if j = p then lrL (ρ p) (telL (ρ i)) i sx f else ρ j) from by
            have h9 := HB.out
            rw [← hpe] at h9
            have := tinv_step ht.out HI.out (by omega) hlt i4 h9
            rwa [hpe] at this)
          have HX := Lib.hid (lrX_good HB.out)
          have hlp := HLN.out p hpn
          have hli := HLN.out i i4
          clear hx hpe
          go_wp2_with fail
          have OPd := Lib.hid OPq.out.drew
          have ORd := Lib.hid ORq.out.drew
          have BBd := Lib.hid BLq.out.drew
          refine region_H 25 #[false, false, false, false, false, false, false, false, false, false, false, false, false, false, false, false, false, false, false, false, false, false, false, false, false] (by kernel_rfl) (by kernel_rfl) (fun w' => w'.cell? ⟨bP, i, none⟩ = some (.int .i64 (p : Int)) ∧ w'.cell? ⟨bR, p, none⟩ = some (vs p) ∧ w'.cell? ⟨bR, i, none⟩ = some (vs i) ∧ w'.cell? ⟨b, off + i, none⟩ = some (.int .u16 sx)) (by kernel_rfl) ?x1s (fun hHeld => ?x1r)
          case x1s => exact ⟨cP, cRp, cRi, d0⟩
          refine wpH_take (i := 0) (some 69) (v := ?x2v) rfl (by kernel_rfl) (by kernel_rfl) (by kernel_rfl) rfl (fun _ _ _ h => h) (Or.inl ⟨by rfl, ?x2y⟩) hHeld ?x2r
          case x2y => (intro w hSw; (try dsimp only at hSw); go_simp; try with_reducible rfl)
          try simp only [Act.put, List.setIfInBounds_toArray, List.set_cons_zero, List.set_cons_succ]
          refine wpH_take (i := 1) (some 70) (v := ?x3v) rfl (by kernel_rfl) (by kernel_rfl) (by kernel_rfl) rfl (fun _ _ _ h => h) (Or.inl ⟨by rfl, ?x3y⟩) hHeld ?x3r
          case x3y => (intro w hSw; (try dsimp only at hSw); go_simp; try with_reducible rfl)
          try simp only [Act.put, List.setIfInBounds_toArray, List.set_cons_zero, List.set_cons_succ]
          refine wpH_take (i := 2) (some 71) (v := ?x4v) rfl (by kernel_rfl) (by kernel_rfl) (by kernel_rfl) rfl (fun _ _ _ h => h) (Or.inl ⟨by rfl, ?x4y⟩) hHeld ?x4r
          case x4y => (intro w hSw; (try dsimp only at hSw); go_simp; try with_reducible rfl)
          try simp only [Act.put, List.setIfInBounds_toArray, List.set_cons_zero, List.set_cons_succ]
          refine wpH_take (i := 3) (some 72) (v := ?x5v) rfl (by kernel_rfl) (by kernel_rfl) (by kernel_rfl) rfl (fun _ _ _ h => h) (Or.inl ⟨by rfl, ?x5y⟩) hHeld ?x5r
          case x5y => (intro w hSw; (try dsimp only at hSw); go_simp; try with_reducible rfl)
          try simp only [Act.put, List.setIfInBounds_toArray, List.set_cons_zero, List.set_cons_succ]
          refine wpH_take (i := 4) (some 73) (v := ?x6v) rfl (by kernel_rfl) (by kernel_rfl) (by kernel_rfl) rfl (fun _ _ _ h => h) (Or.inl ⟨by rfl, ?x6y⟩) hHeld ?x6r
          case x6y => (intro w hSw; (try dsimp only at hSw); go_simp; try with_reducible rfl)
          try simp only [Act.put, List.setIfInBounds_toArray, List.set_cons_zero, List.set_cons_succ]
          refine wpH_take (i := 5) (some 74) (v := ?x7v) rfl (by kernel_rfl) (by kernel_rfl) (by kernel_rfl) rfl (fun _ _ _ h => h) (Or.inl ⟨by rfl, ?x7y⟩) hHeld ?x7r
          case x7y => (intro w hSw; (try dsimp only at hSw); go_simp; try with_reducible rfl)
          try simp only [Act.put, List.setIfInBounds_toArray, List.set_cons_zero, List.set_cons_succ]
          refine wpH_take (i := 6) (some 75) (v := ?x8v) rfl (by kernel_rfl) (by kernel_rfl) (by kernel_rfl) rfl (fun _ _ _ h => h) (Or.inl ⟨by rfl, ?x8y⟩) hHeld ?x8r
          case x8y => (intro w hSw; (try dsimp only at hSw); go_simp; try with_reducible rfl)
          try simp only [Act.put, List.setIfInBounds_toArray, List.set_cons_zero, List.set_cons_succ]
          refine wpH_take (i := 7) (some 76) (v := ?x9v) rfl (by kernel_rfl) (by kernel_rfl) (by kernel_rfl) rfl (fun _ _ _ h => h) (Or.inl ⟨by rfl, ?x9y⟩) hHeld ?x9r
          case x9y => (intro w hSw; (try dsimp only at hSw); go_simp; try with_reducible rfl)
          try simp only [Act.put, List.setIfInBounds_toArray, List.set_cons_zero, List.set_cons_succ]
          refine wpH_take (i := 8) (some 77) (v := ?x10v) rfl (by kernel_rfl) (by kernel_rfl) (by kernel_rfl) rfl (fun _ _ _ h => h) (Or.inl ⟨by rfl, ?x10y⟩) hHeld ?x10r
          case x10y => (intro w hSw; (try dsimp only at hSw); go_simp; try with_reducible rfl)
          try simp only [Act.put, List.setIfInBounds_toArray, List.set_cons_zero, List.set_cons_succ]
          refine wpH_take (i := 9) (some 78) (v := ?x11v) rfl (by kernel_rfl) (by kernel_rfl) (by kernel_rfl) rfl (fun _ _ _ h => h) (Or.inl ⟨by rfl, ?x11y⟩) hHeld ?x11r
          case x11y => (intro w hSw; (try dsimp only at hSw); go_simp; try with_reducible rfl)
          try simp only [Act.put, List.setIfInBounds_toArray, List.set_cons_zero, List.set_cons_succ]
          refine wpH_take (i := 10) (some 79) (v := ?x12v) rfl (by kernel_rfl) (by kernel_rfl) (by kernel_rfl) rfl (fun _ _ _ h => h) (Or.inl ⟨by rfl, ?x12y⟩) hHeld ?x12r
          case x12y => (intro w hSw; (try dsimp only at hSw); go_simp; try with_reducible rfl)
          try simp only [Act.put, List.setIfInBounds_toArray, List.set_cons_zero, List.set_cons_succ]
          refine wpH_take (i := 11) (some 80) (v := ?x13v) rfl (by kernel_rfl) (by kernel_rfl) (by kernel_rfl) rfl (fun _ _ _ h => h) (Or.inl ⟨by rfl, ?x13y⟩) hHeld ?x13r
          case x13y => (intro w hSw; (try dsimp only at hSw); go_simp; try with_reducible rfl)
          try simp only [Act.put, List.setIfInBounds_toArray, List.set_cons_zero, List.set_cons_succ]
          refine wpH_take (i := 12) (some 81) (v := ?x14v) rfl (by kernel_rfl) (by kernel_rfl) (by kernel_rfl) rfl (fun _ _ _ h => h) (Or.inl ⟨by rfl, ?x14y⟩) hHeld ?x14r
          case x14y => (intro w hSw; (try dsimp only at hSw); go_simp; try with_reducible rfl)
          try simp only [Act.put, List.setIfInBounds_toArray, List.set_cons_zero, List.set_cons_succ]
          refine wpH_take (i := 13) (some 82) (v := ?x15v) rfl (by kernel_rfl) (by kernel_rfl) (by kernel_rfl) rfl (fun _ _ _ h => h) (Or.inl ⟨by rfl, ?x15y⟩) hHeld ?x15r
          case x15y => (intro w hSw; (try dsimp only at hSw); go_simp; try with_reducible rfl)
          try simp only [Act.put, List.setIfInBounds_toArray, List.set_cons_zero, List.set_cons_succ]
          refine wpH_take (i := 14) (some 83) (v := ?x16v) rfl (by kernel_rfl) (by kernel_rfl) (by kernel_rfl) rfl (fun _ _ _ h => h) (Or.inl ⟨by rfl, ?x16y⟩) hHeld ?x16r
          case x16y => (intro w hSw; (try dsimp only at hSw); go_simp; try with_reducible rfl)
          try simp only [Act.put, List.setIfInBounds_toArray, List.set_cons_zero, List.set_cons_succ]
          refine wpH_take (i := 15) (some 84) (v := ?x17v) rfl (by kernel_rfl) (by kernel_rfl) (by kernel_rfl) rfl (fun _ _ _ h => h) (Or.inl ⟨by rfl, ?x17y⟩) hHeld ?x17r
          case x17y => (intro w hSw; (try dsimp only at hSw); go_simp; try with_reducible rfl)
          try simp only [Act.put, List.setIfInBounds_toArray, List.set_cons_zero, List.set_cons_succ]
          refine wpH_take (i := 16) (some 85) (v := ?x18v) rfl (by kernel_rfl) (by kernel_rfl) (by kernel_rfl) rfl (fun _ _ _ h => h) (Or.inl ⟨by rfl, ?x18y⟩) hHeld ?x18r
          case x18y => (intro w hSw; (try dsimp only at hSw); go_simp; try with_reducible rfl)
          try simp only [Act.put, List.setIfInBounds_toArray, List.set_cons_zero, List.set_cons_succ]
          refine wpH_take (i := 18) (some 87) (v := ?x19v) rfl (by kernel_rfl) (by kernel_rfl) (by kernel_rfl) rfl (fun _ _ _ h => h) (Or.inl ⟨by rfl, ?x19y⟩) hHeld ?x19r
          case x19y => (intro w hSw; (try dsimp only at hSw); go_simp; try with_reducible rfl)
          try simp only [Act.put, List.setIfInBounds_toArray, List.set_cons_zero, List.set_cons_succ]
          refine wpH_one (i := 17) (by kernel_rfl) rfl (fun K hK => ?_)
          rw [if_pos (by rfl)]
          go_simp
          refine (tel_any (vs i) (ρ i) _ ((HS.out i i4).below (Below.refl _ _).drew) (by omega)).mono ?_
          rintro e wk1 ⟨vt, rfl, hs1, hbb⟩
          have TS := Lib.hid hs1
          have BK := Lib.hid (belowTo (Below.refl wq.heap.size wq).drew hbb (Nat.le_refl _))
          clear hs1 hbb
          have cPk1 : wk1.cell? ⟨bP, i, none⟩ = some (.int .i64 (p : Int)) := (BK.out.cell (p := ⟨bP, i, none⟩) (by have := OPq.out.lt; exact this)).trans cP
          have cRpk1 : wk1.cell? ⟨bR, p, none⟩ = some (vs p) := (BK.out.cell (p := ⟨bR, p, none⟩) (by have := ORq.out.lt; exact this)).trans cRp
          have cRik1 : wk1.cell? ⟨bR, i, none⟩ = some (vs i) := (BK.out.cell (p := ⟨bR, i, none⟩) (by have := ORq.out.lt; exact this)).trans cRi
          have e0k1 := (BK.out.cell (p := ⟨b, off + i, none⟩) hbq).trans d0
          refine hK.out _ _ (⟨cPk1, cRpk1, cRik1, e0k1⟩) ?_
          clear hK K hHeld
          intro hHeld
          try simp only [Act.put, List.setIfInBounds_toArray, List.set_cons_zero, List.set_cons_succ]
          refine wpH_one (i := 19) (by kernel_rfl) rfl (fun K hK => ?_)
          rw [if_pos (by rfl)]
          go_simp
          refine (learn_lit (vs p) vt (ρ p) (telL (ρ i)) i sx f _ 0 _ ((HS.out p hpn).below BK.out) TS.out (by omega) (by rw [telL, if_pos (HI.out.v i i4), List.length_map]; omega) HX.out).mono ?_
          rintro e wk2 ⟨vl, rfl, hs1, hbb⟩
          have TL := Lib.hid hs1
          have BK2 := Lib.hid (belowTo BK.out hbb BK.out.size)
          clear hs1 hbb
          obtain ⟨pl1, nl1, cl1, f0⟩ := TL.out.slc
          subst f0
          have cPk2 : wk2.cell? ⟨bP, i, none⟩ = some (.int .i64 (p : Int)) := (BK2.out.cell (p := ⟨bP, i, none⟩) (by have := OPq.out.lt; exact this)).trans cP
          have cRpk2 : wk2.cell? ⟨bR, p, none⟩ = some (vs p) := (BK2.out.cell (p := ⟨bR, p, none⟩) (by have := ORq.out.lt; exact this)).trans cRp
          have cRik2 : wk2.cell? ⟨bR, i, none⟩ = some (vs i) := (BK2.out.cell (p := ⟨bR, i, none⟩) (by have := ORq.out.lt; exact this)).trans cRi
          have e0k2 := (BK2.out.cell (p := ⟨b, off + i, none⟩) hbq).trans d0
          refine hK.out _ _ (⟨cPk2, cRpk2, cRik2, e0k2⟩) ?_
          clear hK K hHeld
          intro hHeld
          try simp only [Act.put, List.setIfInBounds_toArray, List.set_cons_zero, List.set_cons_succ]
          refine wpH_take (i := 20) (some 68) (v := ?x22v) rfl (by kernel_rfl) (by kernel_rfl) (by kernel_rfl) rfl (fun _ _ _ h => h) (Or.inl ⟨by rfl, ?x22y⟩) hHeld ?x22r
          case x22y => (intro w hSw; (try dsimp only at hSw); go_simp; try with_reducible rfl)
          try simp only [Act.put, List.setIfInBounds_toArray, List.set_cons_zero, List.set_cons_succ]
          refine wpH_take (i := 21) (some 89) (v := ?x23v) rfl (by kernel_rfl) (by kernel_rfl) (by kernel_rfl) rfl (fun _ _ _ h => h) (Or.inl ⟨by rfl, ?x23y⟩) hHeld ?x23r
          case x23y => (intro w hSw; (try dsimp only at hSw); go_simp; try with_reducible rfl)
          try simp only [Act.put, List.setIfInBounds_toArray, List.set_cons_zero, List.set_cons_succ]
          refine wpH_take (i := 22) (some 90) (v := ?x24v) rfl (by kernel_rfl) (by kernel_rfl) (by kernel_rfl) rfl (fun _ _ _ h => h) (Or.inl ⟨by rfl, ?x24y⟩) hHeld ?x24r
          case x24y => (intro w hSw; (try dsimp only at hSw); go_simp; try with_reducible rfl)
          try simp only [Act.put, List.setIfInBounds_toArray, List.set_cons_zero, List.set_cons_succ]
          refine wpH_take (i := 23) (some 13) (v := ?x25v) rfl (by kernel_rfl) (by kernel_rfl) (by kernel_rfl) rfl (fun _ _ _ h => h) (Or.inl ⟨by rfl, ?x25y⟩) hHeld ?x25r
          case x25y => (intro w hSw; (try dsimp only at hSw); go_simp; try with_reducible rfl)
          try simp only [Act.put, List.setIfInBounds_toArray, List.set_cons_zero, List.set_cons_succ]
          refine wpH_take (i := 24) (some 14) (v := ?x26v) rfl (by kernel_rfl) (by kernel_rfl) (by kernel_rfl) rfl (fun _ _ _ h => h) (Or.inl ⟨by rfl, ?x26y⟩) hHeld ?x26r
          case x26y => (intro w hSw; (try dsimp only at hSw); go_simp; try with_reducible rfl)
          try simp only [Act.put, List.setIfInBounds_toArray, List.set_cons_zero, List.set_cons_succ]
          refine wpAnyH_done (by kernel_rfl) ?_ _
          have OR2 := Lib.hid (ORq.out.below BK2.out)
          have OP2 := Lib.hid (OPq.out.below BK2.out)
          have fR := OR2.out.frozen
          go_wp2_with fail
          go_roundw
          case rel =>
            have hvs : ∀ j, j < ps.length + 1 → ∃ p m c, vs j = .slice p m c := fun j hj => (HS.out j hj).slc
            refine ⟨i - 1, fun j => if j = p then lrL (ρ p) (telL (ρ i)) i sx f else ρ j, fun j => if j = p then .slice pl1 nl1 cl1 else vs j, by omega, by go_num, HI2.out, fun j hj => ?_, OP2.out.other (by simpa using hPR) _, by rw [← rowF_set]; exact OR2.out.set p _, fun j hj => ?_, (belowTo BLq.out BK2.out BLq.out.size).setCell (p := ⟨bR, p, none⟩) hRw _⟩
            · by_cases e : j = p
              · simp only [e, if_true]; exact tgt_len _ 60
              · simp only [e, if_false]; exact HLN.out j hj
            · by_cases e : j = p
              · simp only [e, if_true]; exact slt_store (i := p) TL.out OR2.out hvs
              · simp only [e, if_false]; exact slt_store (i := p) ((HS.out j hj).below BK2.out) OR2.out hvs
          case measure => simp [intOf]; omega
        · obtain rfl : i = 0 := by omega
          have n0 : ¬ (0 : Int) < 0 := by omega
          go_wp2_with fail
          go_loopw [101] (fun ii wz => ∃ (i : Nat), i ≤ ps.length + 1 ∧ ii = .int .i64 i ∧ Below wq.heap.size wq wz) (fun i _ => ps.length + 1 - (intOf i).toNat)
          case atStart => exact ⟨0, by omega, rfl, Below.refl _ _⟩
          case round =>
            rename World => wt
            obtain ⟨i, hi, rfl, hbe⟩ := hrel
            have BT := Lib.hid hbe
            clear hbe
            have i0 : (0 : Int) ≤ (i : Int) := Int.natCast_nonneg _
            by_cases hlt : i < ps.length + 1
            · have i2 : (i : Int) < (ps.length : Int) + 1 := by omega
              go_wp2_with fail
              have OA0 := Lib.hid (own_at (w := wt) (rowF (ps.length + 1) (fun j => .bool (false))) 4 rfl)
              have BA0 := Lib.hid (belowNew wt (.cells (rowF (ps.length + 1) (fun j => .bool (false))).toArray 4))
              generalize wt.alloc (.cells (rowF (ps.length + 1) (fun j => .bool (false))).toArray 4) = wu at OA0 BA0 ⊢
              obtain ⟨bA, hbA⟩ : ∃ bA, wt.heap.size = bA := ⟨_, rfl⟩
              rw [hbA] at OA0
              try rw [hbA]
              have hAt : wt.heap.size ≤ bA := by omega
              clear hbA
              go_loopw [17] (fun xx wz => ∃ (x : Nat) (ab : Nat → Bool), x < ps.length + 1 ∧ xx = .int .i64 x ∧ MInv (prT ps) i x ab ∧ Own wz bA (rowF (ps.length + 1) (fun j => .bool (ab j))) 4 ∧ Below wt.heap.size wt wz) (fun x _ => (intOf x).toNat)
              case atStart => exact ⟨i, fun _ => false, hlt, rfl, minv_start ht.out, OA0.out, BA0.out⟩
              case round =>
                rename World => wv
                obtain ⟨x, ab, hxn, rfl, hM, hoa, hbe⟩ := hrel
                have HM := Lib.hid hM
                have OAv := Lib.hid hoa
                have BV := Lib.hid hbe
                clear hM hoa hbe
                have x0 : (0 : Int) ≤ (x : Int) := Int.natCast_nonneg _
                have x1 : (x : Int) < (ps.length : Int) + 1 := by omega
                have BTV := Lib.hid (belowTo BT.out BV.out BT.out.size)
                by_cases hx0 : 0 < x
                · have x2 : (0 : Int) < (x : Int) := by omega
                  obtain ⟨p, hpe⟩ : ∃ p, prT ps x = p := ⟨_, rfl⟩
                  have hpx : p < x := by rw [← hpe]; exact ht.out x hx0
                  have p0 : (0 : Int) ≤ (p : Int) := Int.natCast_nonneg _
                  have p1 : (p : Int) < (ps.length : Int) + 1 := by omega
                  have cP : wv.cell? ⟨bP, x, none⟩ = some (.int .i64 (p : Int)) := (OPq.out.below BTV.out).cell (by rw [rowF_at hxn, hpe])
                  have cA : wv.cell? ⟨bA, p, none⟩ = some (.bool (ab p)) := OAv.out.cell (rowF_at (by omega))
                  have fA := OAv.out.frozen
                  have hPA : ¬ bP = bA := by have := OPq.out.lt; have := BT.out.size; omega
                  have HM2 := Lib.hid (show MInv (prT ps) i p (fun a => if a = p then true else ab a) from by have := minv_step ht.out HM.out hx0; rwa [hpe] at this)
                  clear hpe
                  go_wp2_with fail
                  go_roundw
                  case rel => exact ⟨p, fun a => if a = p then true else ab a, by omega, rfl, HM2.out, by
                    have h9 := OAv.out.set p (.bool true)
                    rw [rowF_set] at h9
                    have e9 : (fun k => if k = p then Value.bool true else .bool (ab k)) = fun k => .bool (if k = p then true else ab k) := by funext k; split <;> rfl
                    rw [e9] at h9
                    exact h9, BV.out.setCell (p := ⟨bA, p, none⟩) hAt _⟩
                  case measure => simp [intOf]; omega
                · obtain rfl : x = 0 := by omega
                  have n1 : ¬ (0 : Int) < 0 := by omega
                  go_wp2_with fail
                  go_loopw [120] (fun ii wz => ∃ (a : Nat), a ≤ ps.length + 1 ∧ ii = .int .i64 a ∧ Below wv.heap.size wv wz) (fun i _ => ps.length + 1 - (intOf i).toNat)
                  case atStart => exact ⟨0, by omega, rfl, Below.refl _ _⟩
                  case round =>
                    rename World => wy
                    obtain ⟨a, ha, rfl, hbe⟩ := hrel
                    have BY := Lib.hid hbe
                    clear hbe
                    have q0 : (0 : Int) ≤ (a : Int) := Int.natCast_nonneg _
                    have BTY := Lib.hid (belowTo BTV.out BY.out BTV.out.size)
                    by_cases hat : a < ps.length + 1
                    · have q1 : (a : Int) < (ps.length : Int) + 1 := by omega
                      have cR : wy.cell? ⟨bR, a, none⟩ = some (vs a) := (ORq.out.below BTY.out).cell (rowF_at hat)
                      rcases tree_check ht.out HI.out HM.out hlt hat with ⟨k1, k2, k3⟩ | ⟨c, k1, k2, k3, c0, c1, c2, c3⟩
                      · have KN := Lib.hid (And.intro k1 k2)
                        clear k1 k2
                        go_wp2_with fail
                        refine (dnext_lit _ (ρ a) i 0 false _ ((HS.out a hat).below BTY.out) KN.out).mono ?_
                        rintro e9 w9 ⟨rfl, hb⟩
                        have B9 := Lib.hid (belowTo BTY.out hb BTY.out.size)
                        have BY9 := Lib.hid (belowTo BY.out hb BY.out.size)
                        clear hb cR
                        have cA : w9.cell? ⟨bA, a, none⟩ = some (.bool false) := (OAv.out.below BY9.out).cell (by rw [rowF_at hat, k3])
                        clear k3
                        go_wp2_with fail
                        go_roundw
                        case rel => exact ⟨a + 1, by omega, by go_num, BY9.out⟩
                        case measure => simp [intOf]; omega
                      · have g0 : (0 : Int) < (c : Int) := by omega
                        have g1 : (c : Int) < (ps.length : Int) + 1 := by omega
                        have g2 : ¬ (c : Int) ≤ 0 := by omega
                        have g3 : ¬ (ps.length : Int) + 1 ≤ (c : Int) := by omega
                        have g4 : (0 : Int) ≤ (c : Int) := by omega
                        have gc : ((a : Int) != (a : Int)) = false := by simp
                        have C9 := Lib.hid c2
                        have hce : c = i ∨ (¬ c = i ∧ ab c = true) := by
                          by_cases h : c = i
                          · exact Or.inl h
                          · rcases c3 with h2 | h2
                            · exact absurd h2 h
                            · exact Or.inr ⟨h, h2⟩
                        rcases hce with hci | ⟨hci, hcab⟩
                        · clear c2 c3
                          have gn : ((c : Int) != (i : Int)) = false := by simp; omega
                          have HCI := Lib.hid hci
                          clear hci
                          have KN := Lib.hid (And.intro k1 k2)
                          clear k1 k2
                          go_wp2_with fail
                          refine (dnext_lit _ (ρ a) i (c : Int) true _ ((HS.out a hat).below BTY.out) KN.out).mono ?_
                          rintro e9 w9 ⟨rfl, hb⟩
                          have B9 := Lib.hid (belowTo BTY.out hb BTY.out.size)
                          have BY9 := Lib.hid (belowTo BY.out hb BY.out.size)
                          clear hb cR
                          have cA : w9.cell? ⟨bA, a, none⟩ = some (.bool true) := (OAv.out.below BY9.out).cell (by rw [rowF_at hat, k3])
                          have cP : w9.cell? ⟨bP, c, none⟩ = some (.int .i64 (a : Int)) := (OPq.out.below B9.out).cell (by rw [rowF_at c1, C9.out])
                          clear k3
                          go_wp2_with fail
                          go_roundw
                          case rel => exact ⟨a + 1, by omega, by go_num, BY9.out⟩
                          case measure => simp [intOf]; omega
                        · clear c2 c3
                          have gn : ((c : Int) != (i : Int)) = true := by simp; omega
                          have KN := Lib.hid (And.intro k1 k2)
                          clear k1 k2
                          go_wp2_with fail
                          refine (dnext_lit _ (ρ a) i (c : Int) true _ ((HS.out a hat).below BTY.out) KN.out).mono ?_
                          rintro e9 w9 ⟨rfl, hb⟩
                          have B9 := Lib.hid (belowTo BTY.out hb BTY.out.size)
                          have BY9 := Lib.hid (belowTo BY.out hb BY.out.size)
                          clear hb cR
                          have cA : w9.cell? ⟨bA, a, none⟩ = some (.bool true) := (OAv.out.below BY9.out).cell (by rw [rowF_at hat, k3])
                          have cP : w9.cell? ⟨bP, c, none⟩ = some (.int .i64 (a : Int)) := (OPq.out.below B9.out).cell (by rw [rowF_at c1, C9.out])
                          clear k3
                          have cC : w9.cell? ⟨bA, c, none⟩ = some (.bool true) := (OAv.out.below BY9.out).cell (by rw [rowF_at c1, hcab])
                          go_wp2_with fail
                          go_roundw
                          case rel => exact ⟨a + 1, by omega, by go_num, BY9.out⟩
                          case measure => simp [intOf]; omega
                    · go_wp2_with fail
                      go_roundw
                      case rel => exact ⟨i + 1, by omega, by go_num, BTY.out⟩
                      case measure => simp [intOf]; omega
            · go_wp2_with fail
              go_ret
              exact ⟨rfl, belowTo BLq.out BT.out BLq.out.size⟩

theorem downTree_walk (vp : Value) (ps : List Int) (vq : Value) (qs : List Int) (f : Int) (w : World) (sp : SlT chL w vp ps) (hp : ∀ a ∈ ps, 0 ≤ a ∧ a < 256) (sq : SlT shL w vq qs) (hq : ∀ a ∈ qs, 0 ≤ a ∧ a < 65536) {q0 : Prop} (_ : q0) (pl : (ps.length : Int) ≤ 1000000000000000000) : Calls Try.prog 6 #[vp, vq, .int .i64 f] w fun e w' => e = .returned (.bool true) ∧ Below w.heap.size w w' := by
  cases h1 : decide (20 < (ps.length : Int) + 1) with
  | true => exact tree_w0 vp vq ps qs f w sp hp sq hq pl h1
  | false =>
    cases h2 : decide ((qs.length : Int) < (ps.length : Int) + 1) with
    | true => exact tree_w1 vp vq ps qs f w sp hp sq hq pl h1 h2
    | false =>
      cases h3 : decide (f < 0) with
      | true => exact tree_w2 vp vq ps qs f w sp hp sq hq pl h1 h2 h3
      | false =>
        cases h4 : decide (999999997 < f) with
        | true => exact tree_w3 vp vq ps qs f w sp hp sq hq pl h1 h2 h3 h4
        | false => exact tree_go vp vq ps qs f w sp hp sq hq pl h1 h2 h3 h4

end Go.Proofs.Ytheifmdaladfdaa

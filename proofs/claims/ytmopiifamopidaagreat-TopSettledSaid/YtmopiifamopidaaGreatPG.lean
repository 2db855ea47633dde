/- What bargain.newSide returns. No condition but those named. -/
import Derived.Test.YtmopiifamopidaaGreatPE
import Derived.Test.YtmopiifamopidaaGreatPF
import Derived.Outline
import Derived.Test.YtmopiifamopidaaGreatPA
set_option linter.unusedVariables false
set_option linter.unusedSimpArgs false
section
namespace Go.Proofs.YtmopiifamopidaaGreat
open Go.RowKit
def NewP (w : World) (N D me f : Int) (ns : List Nb) (ok : Bool) (e : Ending) (w' : World) : Prop :=
 match ok with
 | false => e = .returned (.tuple #[.pointer none, .bool false]) ∧ Below w.heap.size w w'
 | true => ∃ (bs : Nat) (sv : Sv) (S : List Nr), e = .returned (.tuple #[.pointer (some ⟨bs, 0, none⟩), .bool true]) ∧ Own w' bs [.int .i64 N, .int .i64 D, .int .i64 me, .slice sv.p sv.n sv.c, .int .i64 f] 93 ∧ SlN w' (.slice sv.p sv.n sv.c) S ∧ NsOk w' S ∧ S.map Nr.b = sidL N D ns ∧ w.heap.size ≤ bs ∧ Below w.heap.size w w'
theorem newP_no {w w' : World} {N D me f : Int} {ns : List Nb} {ok : Bool} {e : Ending} (h : ok = false) (he : e = .returned (.tuple #[.pointer none, .bool false])) (hb : Below w.heap.size w w') : NewP w N D me f ns ok e w' := by
 subst h; exact ⟨he, hb⟩
def NewI (w : World) (bL bS : Nat) (N D me f : Int) (l : List Nr) (i : Nat) (wz : World) : Prop := ∃ (qs : List Nr) (sv : Sv), Own wz bL [.int .i64 N, .int .i64 D] 31 ∧ Own wz bS [.int .i64 N, .int .i64 D, .int .i64 me, .slice sv.p sv.n sv.c, .int .i64 f] 93 ∧ wz.ownsRow w.heap.size 86 31 (.slice sv.p sv.n sv.c) qs.length (flatT nrL qs) ∧ NsRow wz qs ∧ qs.map Nr.b = sidL N D ((l.take i).map Nr.b) ∧ Below w.heap.size w wz
def lastF (l : List Nr) : Nat → Int
 | 0 => -1
 | j + 1 => ((l[j]?).map (fun d => d.b.fm)).getD (-1)
theorem lastF_at {l : List Nr} {i : Nat} {d : Nr} (h : l[i]? = some d) : lastF l (i + 1) = d.b.fm := by simp [lastF, h]
theorem lastF_pos {l : List Nr} {i : Nat} {d : Nr} (hi : 0 < i) (h : l[i - 1]? = some d) : lastF l i = d.b.fm := by
 obtain ⟨j, rfl⟩ : ∃ j, i = j + 1 := ⟨i - 1, by omega⟩
 exact lastF_at (by simpa using h)
theorem nbs_step {N me f : Int} {l : List Nr} {i : Nat} {d : Nr} {last : Int} (h : l[i]? = some d) : nbsB N me f last ((l.drop i).map Nr.b) = (inB d.b.fm (N - 1) && (!(d.b.fm == me) && (decide (last < d.b.fm) && (inB d.b.fr f && nbsB N me f (lastF l (i + 1)) ((l.drop (i + 1)).map Nr.b))))) := by
 obtain ⟨hl, he⟩ := List.getElem?_eq_some_iff.1 h
 rw [lastF_at h, List.drop_eq_getElem_cons hl, he]; rfl
def nb1B (N me f last : Int) (n : Nb) : Bool := inB n.fm (N - 1) && (!(n.fm == me) && (decide (last < n.fm) && inB n.fr f))
theorem nbs_step1 {N me f : Int} {l : List Nr} {i : Nat} {d : Nr} {last : Int} (h : l[i]? = some d) : nbsB N me f last ((l.drop i).map Nr.b) = (nb1B N me f last d.b && nbsB N me f (lastF l (i + 1)) ((l.drop (i + 1)).map Nr.b)) := by
 rw [nbs_step h]; simp [nb1B, Bool.and_assoc]
theorem nbs_end {N me f : Int} {l : List Nr} {i : Nat} {last : Int} (h : l.length ≤ i) : nbsB N me f last ((l.drop i).map Nr.b) = true := by
 rw [List.drop_of_length_le h]; rfl
theorem sid_step {N D : Int} {l : List Nr} {i : Nat} {d : Nr} (h : l[i]? = some d) : sidL N D ((l.take (i + 1)).map Nr.b) = sidL N D ((l.take i).map Nr.b) ++ [sid1 N D d.b] := by
 rw [take_snocG h, List.map_append, sidL, List.map_append]; rfl
theorem info_nr : (Tryz.prog.info? 86).map (fun i => (i.zero, i.size, i.bytes)) = some (some (.agg #[.int .i64 0, .int .i64 0, .int .i64 0, .int .i64 0, .int .i64 0, .int .i64 0, .int .i64 0, .int .i64 0, .int .i64 0, .int .i64 0, .int .i64 0, .int .i64 0, .slice none 0 0, .slice none 0 0, .slice none 0 0, .slice none 0 0, .bool false, .slice none 0 0, .slice none 0 0, .slice none 0 0, .int .i64 0, .int .i64 0, .int .u64 0, .int .i64 0, .int .i64 0, .int .i64 0, .int .i64 0, .int .i64 0, .slice none 0 0, .slice none 0 0, .bool false]), 31, 392) := by kernel_rfl
theorem info_bcS : (Tryz.prog.info? 71).map (·.size) = some 30 := by kernel_rfl
set_option maxRecDepth 100000 in
set_option maxHeartbeats 2000000 in
theorem new_no0 (vu vg va : Value) (us : List Us) (gs : List Gr) (ks : List Ak) (N D me f : Int) (v : Value) (l : List Nr) (w : World) (su : SlU w vu us) (sg : SlG w vg gs) (sa : SlA w va ks) (u70 : us.length ≤ 70) (g70 : gs.length ≤ 70) (k70 : ks.length ≤ 70) (sl : SlN w v l) (ho : NsOk w l) (h1000 : l.length ≤ 1000) (hfew : ∀ r ∈ l, r.b.us.length ≤ 100 ∧ r.b.gs.length ≤ 100 ∧ r.b.ks.length ≤ 100) (hv : vldT N D us gs ks = false) : Calls Tryz.prog 19 #[.agg #[.int .i64 N, .int .i64 D], .agg #[vu, vg, va], .int .i64 me, v, .int .i64 f] w (NewP w N D me f (l.map Nr.b) false) := by
 have SU := Lib.hid su
 have SG := Lib.hid sg
 have SA := Lib.hid sa
 clear su sg sa
 have HV := Lib.hid hv
 clear hv
 go_enter Tryz.func19, Tryz.ntmps19
 go_wp2_with fail
 refine (valid_lit _ _ _ us gs ks N D _ (SU.out.below (((Below.refl _ _).alloc (Nat.le_refl _) _).alloc (by simp) _)) (SG.out.below (((Below.refl _ _).alloc (Nat.le_refl _) _).alloc (by simp) _)) (SA.out.below (((Below.refl _ _).alloc (Nat.le_refl _) _).alloc (by simp) _)) u70 g70 k70 false HV.out).mono ?_
 rintro e w1 ⟨rfl, hb⟩
 have oL : Own w1 w.heap.size [.int .i64 N, .int .i64 D] 31 := ((own_at _ _ rfl).alloc _).below hb
 have oT : Own w1 (w.heap.size + 1) [vu, vg, va] 43 := (own_at _ _ (by simp)).below hb
 have bel := belowTo (((Below.refl w.heap.size w).alloc (by simp) _).alloc (by simp) _) hb (by simp; omega)
 clear hb
 obtain ⟨cL0, cL1, fL, zL⟩ := own2 oL
 obtain ⟨cT0, cT1, cT2, fT, zT⟩ := own3 oT
 go_wp2_with fail
 go_ret2
 exact ⟨rfl, bel⟩
set_option maxRecDepth 100000 in
set_option maxHeartbeats 2000000 in
theorem new_no1 (vu vg va : Value) (us : List Us) (gs : List Gr) (ks : List Ak) (N D me f : Int) (v : Value) (l : List Nr) (w : World) (su : SlU w vu us) (sg : SlG w vg gs) (sa : SlA w va ks) (u70 : us.length ≤ 70) (g70 : gs.length ≤ 70) (k70 : ks.length ≤ 70) (sl : SlN w v l) (ho : NsOk w l) (h1000 : l.length ≤ 1000) (hfew : ∀ r ∈ l, r.b.us.length ≤ 100 ∧ r.b.gs.length ≤ 100 ∧ r.b.ks.length ≤ 100) (hv : vldT N D us gs ks = true) (hm : inB me (N - 1) = false) : Calls Tryz.prog 19 #[.agg #[.int .i64 N, .int .i64 D], .agg #[vu, vg, va], .int .i64 me, v, .int .i64 f] w (NewP w N D me f (l.map Nr.b) false) := by
 have SU := Lib.hid su
 have SG := Lib.hid sg
 have SA := Lib.hid sa
 clear su sg sa
 have HV := Lib.hid hv
 obtain ⟨⟨n0, n1⟩, d0, d1⟩ := layB_iff.1 (vld_iff.1 hv).lay
 have HM := Lib.hid hm
 clear hm
 clear hv
 go_enter Tryz.func19, Tryz.ntmps19
 go_wp2_with fail
 refine (valid_lit _ _ _ us gs ks N D _ (SU.out.below (((Below.refl _ _).alloc (Nat.le_refl _) _).alloc (by simp) _)) (SG.out.below (((Below.refl _ _).alloc (Nat.le_refl _) _).alloc (by simp) _)) (SA.out.below (((Below.refl _ _).alloc (Nat.le_refl _) _).alloc (by simp) _)) u70 g70 k70 true HV.out).mono ?_
 rintro e w1 ⟨rfl, hb⟩
 have oL : Own w1 w.heap.size [.int .i64 N, .int .i64 D] 31 := ((own_at _ _ rfl).alloc _).below hb
 have oT : Own w1 (w.heap.size + 1) [vu, vg, va] 43 := (own_at _ _ (by simp)).below hb
 have bel := belowTo (((Below.refl w.heap.size w).alloc (by simp) _).alloc (by simp) _) hb (by simp; omega)
 clear hb
 obtain ⟨cL0, cL1, fL, zL⟩ := own2 oL
 obtain ⟨cT0, cT1, cT2, fT, zT⟩ := own3 oT
 go_wp2_with fail
 refine (in_lit me (N - 1) false _ HM.out).mono ?_
 rintro e w2 ⟨rfl, hb⟩
 replace oL := oL.below hb
 replace oT := oT.below hb
 replace bel := belowTo bel hb (by exact bel.size)
 clear hb
 clear cL0 cL1 fL zL cT0 cT1 cT2 fT zT
 obtain ⟨cL0, cL1, fL, zL⟩ := own2 oL
 obtain ⟨cT0, cT1, cT2, fT, zT⟩ := own3 oT
 go_wp2_with fail
 go_ret2
 exact ⟨rfl, bel⟩
set_option maxRecDepth 100000 in
set_option maxHeartbeats 2000000 in
theorem new_no2 (vu vg va : Value) (us : List Us) (gs : List Gr) (ks : List Ak) (N D me f : Int) (v : Value) (l : List Nr) (w : World) (su : SlU w vu us) (sg : SlG w vg gs) (sa : SlA w va ks) (u70 : us.length ≤ 70) (g70 : gs.length ≤ 70) (k70 : ks.length ≤ 70) (sl : SlN w v l) (ho : NsOk w l) (h1000 : l.length ≤ 1000) (hfew : ∀ r ∈ l, r.b.us.length ≤ 100 ∧ r.b.gs.length ≤ 100 ∧ r.b.ks.length ≤ 100) (hv : vldT N D us gs ks = true) (hm : inB me (N - 1) = true) (hf : inB f 999999992 = false) : Calls Tryz.prog 19 #[.agg #[.int .i64 N, .int .i64 D], .agg #[vu, vg, va], .int .i64 me, v, .int .i64 f] w (NewP w N D me f (l.map Nr.b) false) := by
 have SU := Lib.hid su
 have SG := Lib.hid sg
 have SA := Lib.hid sa
 clear su sg sa
 have HV := Lib.hid hv
 obtain ⟨⟨n0, n1⟩, d0, d1⟩ := layB_iff.1 (vld_iff.1 hv).lay
 have HM := Lib.hid hm
 clear hm
 have HF := Lib.hid hf
 clear hf
 clear hv
 go_enter Tryz.func19, Tryz.ntmps19
 go_wp2_with fail
 refine (valid_lit _ _ _ us gs ks N D _ (SU.out.below (((Below.refl _ _).alloc (Nat.le_refl _) _).alloc (by simp) _)) (SG.out.below (((Below.refl _ _).alloc (Nat.le_refl _) _).alloc (by simp) _)) (SA.out.below (((Below.refl _ _).alloc (Nat.le_refl _) _).alloc (by simp) _)) u70 g70 k70 true HV.out).mono ?_
 rintro e w1 ⟨rfl, hb⟩
 have oL : Own w1 w.heap.size [.int .i64 N, .int .i64 D] 31 := ((own_at _ _ rfl).alloc _).below hb
 have oT : Own w1 (w.heap.size + 1) [vu, vg, va] 43 := (own_at _ _ (by simp)).below hb
 have bel := belowTo (((Below.refl w.heap.size w).alloc (by simp) _).alloc (by simp) _) hb (by simp; omega)
 clear hb
 obtain ⟨cL0, cL1, fL, zL⟩ := own2 oL
 obtain ⟨cT0, cT1, cT2, fT, zT⟩ := own3 oT
 go_wp2_with fail
 refine (in_lit me (N - 1) true _ HM.out).mono ?_
 rintro e w2 ⟨rfl, hb⟩
 replace oL := oL.below hb
 replace oT := oT.below hb
 replace bel := belowTo bel hb (by exact bel.size)
 clear hb
 clear cL0 cL1 fL zL cT0 cT1 cT2 fT zT
 obtain ⟨cL0, cL1, fL, zL⟩ := own2 oL
 obtain ⟨cT0, cT1, cT2, fT, zT⟩ := own3 oT
 go_wp2_with fail
 refine (in_lit f 999999992 false _ HF.out).mono ?_
 rintro e w3 ⟨rfl, hb⟩
 replace oL := oL.below hb
 replace oT := oT.below hb
 replace bel := belowTo bel hb (by exact bel.size)
 clear hb
 clear cL0 cL1 fL zL cT0 cT1 cT2 fT zT
 obtain ⟨cL0, cL1, fL, zL⟩ := own2 oL
 obtain ⟨cT0, cT1, cT2, fT, zT⟩ := own3 oT
 go_wp2_with fail
 go_ret2
 exact ⟨rfl, bel⟩
theorem alloc_setCells {t : TypeId} : ∀ (vs post pre : List Value) (w : World), post.length = vs.length → (w.alloc (.cells (pre ++ post).toArray t)).setCells w.heap.size pre.length vs = w.alloc (.cells (pre ++ vs).toArray t)
 | [], post, pre, w, hl => by
  obtain rfl : post = [] := List.eq_nil_of_length_eq_zero (by simpa using hl)
  rfl
 | v :: vs, [], pre, w, hl => by simp at hl
 | v :: vs, p :: post, pre, w, hl => by
  have h1 : (w.alloc (.cells (pre ++ p :: post).toArray t)).setCell ⟨w.heap.size, pre.length, none⟩ v = w.alloc (.cells ((pre ++ [v]) ++ post).toArray t) := by
   rw [World.setCell_alloc_new]
   congr 2
   simp [List.set_append_right]
  have h2 := alloc_setCells (t := t) vs post (pre ++ [v]) w (by simpa using hl)
  rw [List.length_append, List.length_singleton] at h2
  show ((w.alloc _).setCell ⟨w.heap.size, pre.length, none⟩ v).setCells w.heap.size (pre.length + 1) vs = _
  rw [h1, h2, List.append_assoc]; rfl
theorem storeNew {ops : Array Oper} {rest : List Oper} {op : Oper} {a : Act} {w : World} {Q : Exit → Act → World → Prop} (ty : TypeId) (vs : List Value) (b : Nat) (cs : List Value) (t : TypeId)
  (hs : ∃ x y : Operand, op.op = .store ty x y ∧ a.eval x = .pointer (some ⟨b, 0, none⟩) ∧ a.eval y = .agg vs.toArray) (hw : Region.wanted op (yielded ops a.tmps) = true) (hb : b = w.heap.size) (hl : cs.length = vs.length) (hi : (Tryz.prog.info? ty).map (·.size) = some vs.length) (h1 : ∀ v ∈ vs, v.oneCell' = true)
  (h : wpList Tryz.prog ops Q rest (a.put op.dst undef) (w.alloc (.cells vs.toArray t))) : wpList Tryz.prog ops Q (op :: rest) a (w.alloc (.cells cs.toArray t)) := by
 obtain ⟨x, y, e, hx, hy⟩ := hs
 subst hb
 refine BigFrame.wpList_want hw fun K hK => wp_store_mid ty x y e w.heap.size 0 vs.toArray hx hy ?_ (by simpa using hi) (all_oneCell_toArray h1) (hK _ _ ?_)
 ·have := own_there (own_at (w := w) cs t rfl); rw [hl] at this; simpa using this
 ·have h9 := alloc_setCells (t := t) vs cs [] w hl
  simp only [List.nil_append, List.length_nil] at h9
  rw [h9]; exact h
theorem nr_one (r : Nr) : ∀ v ∈ r.cells, v.oneCell' = true := nrL.one r
theorem storeNewN {ops : Array Oper} {rest : List Oper} {op : Oper} {a : Act} {w : World} {Q : Exit → Act → World → Prop} (r : Nr) (b : Nat)
  (hs : ∃ x y : Operand, op.op = .store 86 x y ∧ a.eval x = .pointer (some ⟨b, 0, none⟩) ∧ a.eval y = .agg #[.int .i64 r.b.fr, .int .i64 r.b.fm, .int .i64 0, .int .i64 0, .int .i64 0, .int .i64 0, .int .i64 0, .int .i64 0, .int .i64 0, .int .i64 0, .int .i64 0, .int .i64 0, .slice r.vu.p r.vu.n r.vu.c, .slice r.vg.p r.vg.n r.vg.c, .slice r.va.p r.va.n r.va.c, .slice none 0 0, .bool false, .slice none 0 0, .slice none 0 0, .slice none 0 0, .int .i64 0, .int .i64 0, .int .u64 0, .int .i64 0, .int .i64 0, .int .i64 0, .int .i64 0, .int .i64 0, .slice none 0 0, .slice none 0 0, .bool false]) (hw : Region.wanted op (yielded ops a.tmps) = true) (hb : b = w.heap.size)
  (h : wpList Tryz.prog ops Q rest (a.put op.dst undef) (w.alloc (.cells #[.int .i64 r.b.fr, .int .i64 r.b.fm, .int .i64 0, .int .i64 0, .int .i64 0, .int .i64 0, .int .i64 0, .int .i64 0, .int .i64 0, .int .i64 0, .int .i64 0, .int .i64 0, .slice r.vu.p r.vu.n r.vu.c, .slice r.vg.p r.vg.n r.vg.c, .slice r.va.p r.va.n r.va.c, .slice none 0 0, .bool false, .slice none 0 0, .slice none 0 0, .slice none 0 0, .int .i64 0, .int .i64 0, .int .u64 0, .int .i64 0, .int .i64 0, .int .i64 0, .int .i64 0, .int .i64 0, .slice none 0 0, .slice none 0 0, .bool false] 86))) : wpList Tryz.prog ops Q (op :: rest) a (w.alloc (.cells #[.int .i64 0, .int .i64 0, .int .i64 0, .int .i64 0, .int .i64 0, .int .i64 0, .int .i64 0, .int .i64 0, .int .i64 0, .int .i64 0, .int .i64 0, .int .i64 0, .slice none 0 0, .slice none 0 0, .slice none 0 0, .slice none 0 0, .bool false, .slice none 0 0, .slice none 0 0, .slice none 0 0, .int .i64 0, .int .i64 0, .int .u64 0, .int .i64 0, .int .i64 0, .int .i64 0, .int .i64 0, .int .i64 0, .slice none 0 0, .slice none 0 0, .bool false] 86)) :=
 storeNew 86 r.cells b [.int .i64 0, .int .i64 0, .int .i64 0, .int .i64 0, .int .i64 0, .int .i64 0, .int .i64 0, .int .i64 0, .int .i64 0, .int .i64 0, .int .i64 0, .int .i64 0, .slice none 0 0, .slice none 0 0, .slice none 0 0, .slice none 0 0, .bool false, .slice none 0 0, .slice none 0 0, .slice none 0 0, .int .i64 0, .int .i64 0, .int .u64 0, .int .i64 0, .int .i64 0, .int .i64 0, .int .i64 0, .int .i64 0, .slice none 0 0, .slice none 0 0, .bool false] 86 hs hw hb rfl info_nrS (nr_one r) h
theorem rg_new (w : World) (r : Nr) : (w.alloc (.cells #[.int .i64 r.b.fr, .int .i64 r.b.fm, .int .i64 0, .int .i64 0, .int .i64 0, .int .i64 0, .int .i64 0, .int .i64 0, .int .i64 0, .int .i64 0, .int .i64 0, .int .i64 0, .slice r.vu.p r.vu.n r.vu.c, .slice r.vg.p r.vg.n r.vg.c, .slice r.va.p r.va.n r.va.c, .slice none 0 0, .bool false, .slice none 0 0, .slice none 0 0, .slice none 0 0, .int .i64 0, .int .i64 0, .int .u64 0, .int .i64 0, .int .i64 0, .int .i64 0, .int .i64 0, .int .i64 0, .slice none 0 0, .slice none 0 0, .bool false] 86)).rangeAt w.heap.size 0 r.cells := fun j v hv => by
 rw [Nat.zero_add]; exact (own_at (w := w) r.cells 86 rfl).cell hv
theorem rg_own {w : World} {b : Nat} {t : TypeId} {r : Nr} (h : Own w b r.cells t) : w.rangeAt b 0 r.cells := fun j v hv => by rw [Nat.zero_add]; exact h.cell hv
theorem loadNg {ops : Array Oper} {rest : List Oper} {op : Oper} {a : Act} {w : World} {Q : Exit → Act → World → Prop} (r : Nr) (b o : Nat) (hs : ∃ x : Operand, op.op = .load 86 x ∧ a.eval x = .pointer (some ⟨b, o, none⟩))
  (hw : Region.wanted op (yielded ops a.tmps) = true) (hc : w.rangeAt b o r.cells)
  (h : wpList Tryz.prog ops Q rest (a.put op.dst (.agg #[.int .i64 r.b.fr, .int .i64 r.b.fm, .int .i64 0, .int .i64 0, .int .i64 0, .int .i64 0, .int .i64 0, .int .i64 0, .int .i64 0, .int .i64 0, .int .i64 0, .int .i64 0, .slice r.vu.p r.vu.n r.vu.c, .slice r.vg.p r.vg.n r.vg.c, .slice r.va.p r.va.n r.va.c, .slice none 0 0, .bool false, .slice none 0 0, .slice none 0 0, .slice none 0 0, .int .i64 0, .int .i64 0, .int .u64 0, .int .i64 0, .int .i64 0, .int .i64 0, .int .i64 0, .int .i64 0, .slice none 0 0, .slice none 0 0, .bool false])) w) : wpList Tryz.prog ops Q (op :: rest) a w := by
 obtain ⟨x, ho, hx⟩ := hs
 exact BigFrame.wpList_want hw fun K hK => wp_load_mid 86 x ho b o hx r.cells _ hc Tryz.underlying86 rfl info_nrS (hK _ _ h)
end Go.Proofs.YtmopiifamopidaaGreat
end
section
namespace Go.Proofs.YtmopiifamopidaaGreat
open Go.RowKit
set_option maxRecDepth 100000 in
set_option maxHeartbeats 16000000 in
theorem new_loop (vu vg va : Value) (us : List Us) (gs : List Gr) (ks : List Ak) (N D me f : Int) (v : Value) (l : List Nr) (w : World) (su : SlU w vu us) (sg : SlG w vg gs) (sa : SlA w va ks) (u70 : us.length ≤ 70) (g70 : gs.length ≤ 70) (k70 : ks.length ≤ 70) (sl : SlN w v l) (ho : NsOk w l) (h1000 : l.length ≤ 1000) (hfew : ∀ r ∈ l, r.b.us.length ≤ 100 ∧ r.b.gs.length ≤ 100 ∧ r.b.ks.length ≤ 100) (hv : vldT N D us gs ks = true) (hm : inB me (N - 1) = true) (hf : inB f 999999992 = true) (ok : Bool) (hn : nbsB N me f (-1) (l.map Nr.b) = ok) : Calls Tryz.prog 19 #[.agg #[.int .i64 N, .int .i64 D], .agg #[vu, vg, va], .int .i64 me, v, .int .i64 f] w (NewP w N D me f (l.map Nr.b) ok) := by
 have SU := Lib.hid su
 have SG := Lib.hid sg
 have SA := Lib.hid sa
 clear su sg sa
 have HV := Lib.hid hv
 obtain ⟨⟨n0, n1⟩, d0, d1⟩ := layB_iff.1 (vld_iff.1 hv).lay
 have HM := Lib.hid hm
 have HF := Lib.hid hf
 have HNB := Lib.hid hn
 have HO := Lib.hid ho
 have HFEW := Lib.hid hfew
 have hN : 0 ≤ N ∧ N ≤ 60 := ⟨by omega, n1⟩
 have hD : 0 ≤ D ∧ D ≤ 60 := ⟨by omega, d1⟩
 have HND := Lib.hid (And.intro hN hD)
 clear hv hm hf hn ho hfew hN hD
 obtain ⟨p, cap, e0, hlc, hcm, hpn⟩ := sl.form l.length rfl
 subst e0
 have SL := Lib.hid sl
 unfold maxLen at hcm
 clear hpn sl
 obtain ⟨i0, hi, hz, hs0, hb0⟩ := info_parts info_nr
 have IF := Lib.hid (And.intro hi (And.intro hz (And.intro hs0 hb0)))
 clear hi hz hs0 hb0
 go_enter Tryz.func19, Tryz.ntmps19
 go_wp2_with fail
 refine (valid_lit _ _ _ us gs ks N D _ (SU.out.below (((Below.refl _ _).alloc (Nat.le_refl _) _).alloc (by simp) _)) (SG.out.below (((Below.refl _ _).alloc (Nat.le_refl _) _).alloc (by simp) _)) (SA.out.below (((Below.refl _ _).alloc (Nat.le_refl _) _).alloc (by simp) _)) u70 g70 k70 true HV.out).mono ?_
 rintro e w1 ⟨rfl, hb⟩
 have oL : Own w1 w.heap.size [.int .i64 N, .int .i64 D] 31 := ((own_at _ _ rfl).alloc _).below hb
 have oT : Own w1 (w.heap.size + 1) [vu, vg, va] 43 := (own_at _ _ (by simp)).below hb
 have bel := belowTo (((Below.refl w.heap.size w).alloc (by simp) _).alloc (by simp) _) hb (by simp; omega)
 clear hb
 obtain ⟨cL0, cL1, fL, zL⟩ := own2 oL
 obtain ⟨cT0, cT1, cT2, fT, zT⟩ := own3 oT
 go_wp2_with fail
 refine (in_lit me (N - 1) true _ HM.out).mono ?_
 rintro e w2 ⟨rfl, hb⟩
 replace oL := oL.below hb
 replace oT := oT.below hb
 replace bel := belowTo bel hb (by exact bel.size)
 clear hb
 clear cL0 cL1 fL zL cT0 cT1 cT2 fT zT
 obtain ⟨cL0, cL1, fL, zL⟩ := own2 oL
 obtain ⟨cT0, cT1, cT2, fT, zT⟩ := own3 oT
 go_wp2_with fail
 refine (in_lit f 999999992 true _ HF.out).mono ?_
 rintro e w3 ⟨rfl, hb⟩
 replace oL := oL.below hb
 replace oT := oT.below hb
 replace bel := belowTo bel hb (by exact bel.size)
 clear hb
 clear cL0 cL1 fL zL cT0 cT1 cT2 fT zT
 obtain ⟨cL0, cL1, fL, zL⟩ := own2 oL
 obtain ⟨cT0, cT1, cT2, fT, zT⟩ := own3 oT
 have hSB : w.heap.size ≤ w3.heap.size := bel.size
 have hSL : w.heap.size < w3.heap.size := zL
 go_wp2_with fail
 have oS : Own (w3.alloc (Obj.cells #[.int .i64 N, .int .i64 D, .int .i64 me, .slice none 0 0, .int .i64 f] 93)) w3.heap.size [.int .i64 N, .int .i64 D, .int .i64 me, .slice none 0 0, .int .i64 f] 93 := own_at _ _ rfl
 have ltSL : w.heap.size < w3.heap.size := zL
 have ltST : w.heap.size + 1 < w3.heap.size := zT
 replace oL := oL.alloc (Obj.cells #[.int .i64 N, .int .i64 D, .int .i64 me, .slice none 0 0, .int .i64 f] 93)
 replace oT := oT.alloc (Obj.cells #[.int .i64 N, .int .i64 D, .int .i64 me, .slice none 0 0, .int .i64 f] 93)
 replace bel := bel.alloc bel.size (Obj.cells #[.int .i64 N, .int .i64 D, .int .i64 me, .slice none 0 0, .int .i64 f] 93)
 clear cL0 cL1 fL zL cT0 cT1 cT2 fT zT
 generalize w3.alloc (Obj.cells #[.int .i64 N, .int .i64 D, .int .i64 me, .slice none 0 0, .int .i64 f] 93) = w4 at oL oT oS bel ⊢
 obtain ⟨cL0, cL1, fL, zL⟩ := own2 oL
 obtain ⟨cT0, cT1, cT2, fT, zT⟩ := own3 oT
 obtain ⟨cS0, cS1, cS2, cS3, cS4, fS, zS⟩ := own5 oS
 have HI0 := Lib.hid (show NewI w w.heap.size w3.heap.size N D me f l 0 w4 from ⟨[], ⟨none, 0, 0⟩, oL, oS, World.ownsRow_nil _ _ _ _, (fun r hr => by simp at hr), rfl, bel⟩)
 clear cL0 cL1 fL zL cT0 cT1 cT2 fT zT cS0 cS1 cS2 cS3 cS4 fS zS oL oS oT bel
 go_loopw [41] (fun ii wz => ∃ i : Nat, i ≤ l.length ∧ ii = .int .i64 i ∧ nbsB N me f (lastF l i) ((l.drop i).map Nr.b) = ok ∧ NewI w w.heap.size w3.heap.size N D me f l i wz) (fun ii _ => l.length - (intOf ii).toNat)
 case atStart => exact ⟨0, by omega, rfl, HNB.out, HI0.out⟩
 case round =>
  obtain ⟨i, hi, rfl, hT, qs, sv, oL, oS, hrow, hrs, hmap, bel⟩ := hrel
  have HT := Lib.hid hT
  have HROW := Lib.hid hrow
  have HRS := Lib.hid hrs
  have HMAP := Lib.hid hmap
  have BE := Lib.hid bel
  have OS0 := Lib.hid oS
  have hSW : w3.heap.size < wr.heap.size := oS.lt
  have hql : qs.length ≤ 1000 := by
   have h9 := congrArg List.length hmap
   simp only [sidL, List.length_map, List.length_take] at h9
   omega
  clear hT hrow hrs hmap oS
  have j0 : (0 : Int) ≤ (i : Int) := Int.natCast_nonneg _
  by_cases hlt : i < l.length
  ·obtain ⟨d, b, off, hd, rfl, hbl, _, hrg⟩ := SL.out.atN bel hlt
   have j1 : (i : Int) < (l.length : Int) := by omega
   have HR := Lib.hid hrg
   have HD := Lib.hid hd
   have KD := Lib.hid ((HO.out.at hd).below bel)
   obtain ⟨f1, f2, f3⟩ := HFEW.out d (mem_of_at hd)
   have HST := Lib.hid (nbs_step1 (N := N) (me := me) (f := f) (last := lastF l i) hd)
   obtain ⟨nC, hnC⟩ : ∃ nC, (!nb1B N me f (lastF l i) d.b) = nC := ⟨_, rfl⟩
   have HNC := Lib.hid hnC
   clear hnC
   clear hrg hd bel
   have hbx : Below wr.heap.size wr ((wr.alloc (Obj.cells #[.int .i64 0, .int .i64 0, .int .i64 0, .int .i64 0, .int .i64 0, .int .i64 0, .int .i64 0, .int .i64 0, .int .i64 0, .int .i64 0, .int .i64 0, .int .i64 0, .slice none 0 0, .slice none 0 0, .slice none 0 0, .slice none 0 0, .bool false, .slice none 0 0, .slice none 0 0, .slice none 0 0, .int .i64 0, .int .i64 0, .int .u64 0, .int .i64 0, .int .i64 0, .int .i64 0, .int .i64 0, .int .i64 0, .slice none 0 0, .slice none 0 0, .bool false] 86)).setCells wr.heap.size 0 (Nr.cells d)) := below_setCells wr.heap.size (Nat.le_refl _) _ 0 _ (belowNew wr (Obj.cells #[.int .i64 0, .int .i64 0, .int .i64 0, .int .i64 0, .int .i64 0, .int .i64 0, .int .i64 0, .int .i64 0, .int .i64 0, .int .i64 0, .int .i64 0, .int .i64 0, .slice none 0 0, .slice none 0 0, .slice none 0 0, .slice none 0 0, .bool false, .slice none 0 0, .slice none 0 0, .slice none 0 0, .int .i64 0, .int .i64 0, .int .u64 0, .int .i64 0, .int .i64 0, .int .i64 0, .int .i64 0, .int .i64 0, .slice none 0 0, .slice none 0 0, .bool false] 86))
   have oN : Own ((wr.alloc (Obj.cells #[.int .i64 0, .int .i64 0, .int .i64 0, .int .i64 0, .int .i64 0, .int .i64 0, .int .i64 0, .int .i64 0, .int .i64 0, .int .i64 0, .int .i64 0, .int .i64 0, .slice none 0 0, .slice none 0 0, .slice none 0 0, .slice none 0 0, .bool false, .slice none 0 0, .slice none 0 0, .slice none 0 0, .int .i64 0, .int .i64 0, .int .u64 0, .int .i64 0, .int .i64 0, .int .i64 0, .int .i64 0, .int .i64 0, .slice none 0 0, .slice none 0 0, .bool false] 86)).setCells wr.heap.size 0 (Nr.cells d)) wr.heap.size [.int .i64 d.b.fr, .int .i64 d.b.fm, .int .i64 0, .int .i64 0, .int .i64 0, .int .i64 0, .int .i64 0, .int .i64 0, .int .i64 0, .int .i64 0, .int .i64 0, .int .i64 0, .slice d.vu.p d.vu.n d.vu.c, .slice d.vg.p d.vg.n d.vg.c, .slice d.va.p d.va.n d.va.c, .slice none 0 0, .bool false, .slice none 0 0, .slice none 0 0, .slice none 0 0, .int .i64 0, .int .i64 0, .int .u64 0, .int .i64 0, .int .i64 0, .int .i64 0, .int .i64 0, .int .i64 0, .slice none 0 0, .slice none 0 0, .bool false] 86 := own_setAll (own_at (w := wr) [.int .i64 0, .int .i64 0, .int .i64 0, .int .i64 0, .int .i64 0, .int .i64 0, .int .i64 0, .int .i64 0, .int .i64 0, .int .i64 0, .int .i64 0, .int .i64 0, .slice none 0 0, .slice none 0 0, .slice none 0 0, .slice none 0 0, .bool false, .slice none 0 0, .slice none 0 0, .slice none 0 0, .int .i64 0, .int .i64 0, .int .u64 0, .int .i64 0, .int .i64 0, .int .i64 0, .int .i64 0, .int .i64 0, .slice none 0 0, .slice none 0 0, .bool false] 86 rfl) (Nr.cells d) rfl
   generalize hwa : ((wr.alloc (Obj.cells #[.int .i64 0, .int .i64 0, .int .i64 0, .int .i64 0, .int .i64 0, .int .i64 0, .int .i64 0, .int .i64 0, .int .i64 0, .int .i64 0, .int .i64 0, .int .i64 0, .slice none 0 0, .slice none 0 0, .slice none 0 0, .slice none 0 0, .bool false, .slice none 0 0, .slice none 0 0, .slice none 0 0, .int .i64 0, .int .i64 0, .int .u64 0, .int .i64 0, .int .i64 0, .int .i64 0, .int .i64 0, .int .i64 0, .slice none 0 0, .slice none 0 0, .bool false] 86)).setCells wr.heap.size 0 (Nr.cells d)) = wa at hbx oN
   have HWA := Lib.hid hwa
   clear hwa
   replace oL := oL.below hbx
   have bel := hbx
   clear hbx
   obtain ⟨cL0, cL1, fL, zL⟩ := own2 oL
   obtain ⟨cN0, cN1, cN12, cN13, cN14, fN, zN⟩ := own_nr (r := d) oN
   have BA := Lib.hid bel
   clear bel
   go_upto_region 8 with (first | ((with_reducible refine loadN d b (off + i * 31) ?_ ?_ HR.out ?_); (next => rfl); (next => exact ⟨_, rfl, rfl⟩)) | ((with_reducible refine storeN d wr.heap.size _ _ ?_ ?_ (own_at (w := wr) [.int .i64 0, .int .i64 0, .int .i64 0, .int .i64 0, .int .i64 0, .int .i64 0, .int .i64 0, .int .i64 0, .int .i64 0, .int .i64 0, .int .i64 0, .int .i64 0, .slice none 0 0, .slice none 0 0, .slice none 0 0, .slice none 0 0, .bool false, .slice none 0 0, .slice none 0 0, .slice none 0 0, .int .i64 0, .int .i64 0, .int .u64 0, .int .i64 0, .int .i64 0, .int .i64 0, .int .i64 0, .int .i64 0, .slice none 0 0, .slice none 0 0, .bool false] 86 rfl) ?_ ?_); (next => rfl); (next => exact ⟨_, _, rfl, rfl, rfl⟩); (next => rfl); (rw [HWA.out])) | fail)
   clear HWA
   go_cut [81] (fun s81 wx => s81 = .bool nC ∧ Below wa.heap.size wa wx)
   case first =>
    have bel := Below.refl wa.heap.size wa
    by_cases hi0 : i = 0
    ·have HL := Lib.hid (show lastF l i = -1 by rw [hi0]; rfl)
     have hz0 : ¬ 0 < i := by omega
     have hz1 : decide (0 < i) = false := by simp; omega
     have HZ := Lib.hid hi0
     clear hi0
     cases h1 : inB d.b.fm (N - 1) with
     | false =>
      have H1 := Lib.hid h1
      clear h1
      go_wp2_with fail
      refine (in_lit d.b.fm (N - 1) false _ H1.out).mono ?_
      rintro e wb ⟨rfl, hb⟩
      replace oL := oL.below hb
      replace oN := oN.below hb
      replace bel := belowTo bel hb (by exact bel.size)
      clear hb
      clear cL0 cL1 fL zL cN0 cN1 cN12 cN13 cN14 fN zN
      obtain ⟨cL0, cL1, fL, zL⟩ := own2 oL
      obtain ⟨cN0, cN1, cN12, cN13, cN14, fN, zN⟩ := own_nr (r := d) oN
      go_wp2_with fail
      go_meet
      exact ⟨by rw [← HNC.out, nb1B]; simp [H1.out], bel⟩
     | true =>
      have H1 := Lib.hid h1
      clear h1
      cases h2 : (d.b.fm == me) with
      | true =>
       have H2 := Lib.hid h2
       go_wp2_with fail
       refine (in_lit d.b.fm (N - 1) true _ H1.out).mono ?_
       rintro e wb ⟨rfl, hb⟩
       replace oL := oL.below hb
       replace oN := oN.below hb
       replace bel := belowTo bel hb (by exact bel.size)
       clear hb
       clear cL0 cL1 fL zL cN0 cN1 cN12 cN13 cN14 fN zN
       obtain ⟨cL0, cL1, fL, zL⟩ := own2 oL
       obtain ⟨cN0, cN1, cN12, cN13, cN14, fN, zN⟩ := own_nr (r := d) oN
       go_wp2_with fail
       go_meet
       exact ⟨by rw [← HNC.out, nb1B]; simp [H2.out], bel⟩
      | false =>
       have H2 := Lib.hid h2
       have H3 := Lib.hid (show decide (lastF l i < d.b.fm) = true by rw [HL.out]; have h9 := H1.out; simp only [inB, Bool.and_eq_true, decide_eq_true_eq] at h9; simp; omega)
       cases h4 : inB d.b.fr f with
       | false =>
        have H4 := Lib.hid h4
        clear h4
        go_wp2_with fail
        refine (in_lit d.b.fm (N - 1) true _ H1.out).mono ?_
        rintro e wb ⟨rfl, hb⟩
        replace oL := oL.below hb
        replace oN := oN.below hb
        replace bel := belowTo bel hb (by exact bel.size)
        clear hb
        clear cL0 cL1 fL zL cN0 cN1 cN12 cN13 cN14 fN zN
        obtain ⟨cL0, cL1, fL, zL⟩ := own2 oL
        obtain ⟨cN0, cN1, cN12, cN13, cN14, fN, zN⟩ := own_nr (r := d) oN
        go_wp2_with fail
        refine (in_lit d.b.fr f false _ H4.out).mono ?_
        rintro e wc ⟨rfl, hb⟩
        replace oL := oL.below hb
        replace oN := oN.below hb
        replace bel := belowTo bel hb (by exact bel.size)
        clear hb
        clear cL0 cL1 fL zL cN0 cN1 cN12 cN13 cN14 fN zN
        obtain ⟨cL0, cL1, fL, zL⟩ := own2 oL
        obtain ⟨cN0, cN1, cN12, cN13, cN14, fN, zN⟩ := own_nr (r := d) oN
        go_wp2_with fail
        go_meet
        exact ⟨by rw [← HNC.out, nb1B]; simp [H4.out], bel⟩
       | true =>
        have H4 := Lib.hid h4
        clear h4
        go_wp2_with fail
        refine (in_lit d.b.fm (N - 1) true _ H1.out).mono ?_
        rintro e wb ⟨rfl, hb⟩
        replace oL := oL.below hb
        replace oN := oN.below hb
        replace bel := belowTo bel hb (by exact bel.size)
        clear hb
        clear cL0 cL1 fL zL cN0 cN1 cN12 cN13 cN14 fN zN
        obtain ⟨cL0, cL1, fL, zL⟩ := own2 oL
        obtain ⟨cN0, cN1, cN12, cN13, cN14, fN, zN⟩ := own_nr (r := d) oN
        go_wp2_with fail
        refine (in_lit d.b.fr f true _ H4.out).mono ?_
        rintro e wc ⟨rfl, hb⟩
        replace oL := oL.below hb
        replace oN := oN.below hb
        replace bel := belowTo bel hb (by exact bel.size)
        clear hb
        clear cL0 cL1 fL zL cN0 cN1 cN12 cN13 cN14 fN zN
        obtain ⟨cL0, cL1, fL, zL⟩ := own2 oL
        obtain ⟨cN0, cN1, cN12, cN13, cN14, fN, zN⟩ := own_nr (r := d) oN
        go_wp2_with fail
        go_meet
        exact ⟨by rw [← HNC.out, nb1B, H1.out, H2.out, H3.out, H4.out]; rfl, bel⟩
    ·replace hi0 : 0 < i := by omega
     obtain ⟨d9, b9, off9, hd9, e9, _, _, hrg9⟩ := SL.out.atN BE.out (i := i - 1) (by omega)
     cases e9
     have HL := Lib.hid (lastF_pos hi0 hd9)
     have k2 := (BA.out.cell (p := ⟨b, off + (i - 1) * 31 + 1, none⟩) hbl).trans (hrg9 1 _ rfl)
     have i1 : (1 : Int) ≤ (i : Int) := by omega
     clear hd9 hrg9
     cases h1 : inB d.b.fm (N - 1) with
     | false =>
      have H1 := Lib.hid h1
      clear h1
      go_wp2_with fail
      refine (in_lit d.b.fm (N - 1) false _ H1.out).mono ?_
      rintro e wb ⟨rfl, hb⟩
      replace oL := oL.below hb
      replace oN := oN.below hb
      replace bel := belowTo bel hb (by exact bel.size)
      clear hb
      clear cL0 cL1 fL zL cN0 cN1 cN12 cN13 cN14 fN zN
      obtain ⟨cL0, cL1, fL, zL⟩ := own2 oL
      obtain ⟨cN0, cN1, cN12, cN13, cN14, fN, zN⟩ := own_nr (r := d) oN
      go_wp2_with fail
      go_meet
      exact ⟨by rw [← HNC.out, nb1B]; simp [H1.out], bel⟩
     | true =>
      have H1 := Lib.hid h1
      clear h1
      cases h2 : (d.b.fm == me) with
      | true =>
       have H2 := Lib.hid h2
       go_wp2_with fail
       refine (in_lit d.b.fm (N - 1) true _ H1.out).mono ?_
       rintro e wb ⟨rfl, hb⟩
       replace oL := oL.below hb
       replace oN := oN.below hb
       replace bel := belowTo bel hb (by exact bel.size)
       clear hb
       clear cL0 cL1 fL zL cN0 cN1 cN12 cN13 cN14 fN zN
       obtain ⟨cL0, cL1, fL, zL⟩ := own2 oL
       obtain ⟨cN0, cN1, cN12, cN13, cN14, fN, zN⟩ := own_nr (r := d) oN
       go_wp2_with fail
       go_meet
       exact ⟨by rw [← HNC.out, nb1B]; simp [H2.out], bel⟩
      | false =>
       have H2 := Lib.hid h2
       by_cases h3 : d.b.fm ≤ d9.b.fm
       ·go_wp2_with fail
        refine (in_lit d.b.fm (N - 1) true _ H1.out).mono ?_
        rintro e wb ⟨rfl, hb⟩
        replace oL := oL.below hb
        replace oN := oN.below hb
        replace bel := belowTo bel hb (by exact bel.size)
        clear hb
        clear cL0 cL1 fL zL cN0 cN1 cN12 cN13 cN14 fN zN
        obtain ⟨cL0, cL1, fL, zL⟩ := own2 oL
        obtain ⟨cN0, cN1, cN12, cN13, cN14, fN, zN⟩ := own_nr (r := d) oN
        have k3 := (bel.cell (p := ⟨b, off + (i - 1) * 31 + 1, none⟩) (Nat.lt_of_lt_of_le hbl BA.out.size)).trans k2
        have H3 := Lib.hid (show decide (lastF l i < d.b.fm) = false by rw [HL.out]; simpa using h3)
        go_wp2_with fail
        go_meet
        exact ⟨by rw [← HNC.out, nb1B]; simp [H3.out], bel⟩
       ·have h3b : d9.b.fm < d.b.fm := Int.not_le.1 h3
        have h3c : decide (d.b.fm ≤ d9.b.fm) = false := by simpa using h3b
        have H3 := Lib.hid (show decide (lastF l i < d.b.fm) = true by rw [HL.out]; simpa using h3b)
        cases h4 : inB d.b.fr f with
        | false =>
         have H4 := Lib.hid h4
         clear h4
         go_wp2_with fail
         refine (in_lit d.b.fm (N - 1) true _ H1.out).mono ?_
         rintro e wb ⟨rfl, hb⟩
         replace oL := oL.below hb
         replace oN := oN.below hb
         replace bel := belowTo bel hb (by exact bel.size)
         clear hb
         clear cL0 cL1 fL zL cN0 cN1 cN12 cN13 cN14 fN zN
         obtain ⟨cL0, cL1, fL, zL⟩ := own2 oL
         obtain ⟨cN0, cN1, cN12, cN13, cN14, fN, zN⟩ := own_nr (r := d) oN
         have k3 := (bel.cell (p := ⟨b, off + (i - 1) * 31 + 1, none⟩) (Nat.lt_of_lt_of_le hbl BA.out.size)).trans k2
         go_wp2_with fail
         refine (in_lit d.b.fr f false _ H4.out).mono ?_
         rintro e wc ⟨rfl, hb⟩
         replace oL := oL.below hb
         replace oN := oN.below hb
         replace bel := belowTo bel hb (by exact bel.size)
         clear hb
         clear cL0 cL1 fL zL cN0 cN1 cN12 cN13 cN14 fN zN
         obtain ⟨cL0, cL1, fL, zL⟩ := own2 oL
         obtain ⟨cN0, cN1, cN12, cN13, cN14, fN, zN⟩ := own_nr (r := d) oN
         go_wp2_with fail
         go_meet
         exact ⟨by rw [← HNC.out, nb1B]; simp [H4.out], bel⟩
        | true =>
         have H4 := Lib.hid h4
         clear h4
         go_wp2_with fail
         refine (in_lit d.b.fm (N - 1) true _ H1.out).mono ?_
         rintro e wb ⟨rfl, hb⟩
         replace oL := oL.below hb
         replace oN := oN.below hb
         replace bel := belowTo bel hb (by exact bel.size)
         clear hb
         clear cL0 cL1 fL zL cN0 cN1 cN12 cN13 cN14 fN zN
         obtain ⟨cL0, cL1, fL, zL⟩ := own2 oL
         obtain ⟨cN0, cN1, cN12, cN13, cN14, fN, zN⟩ := own_nr (r := d) oN
         have k3 := (bel.cell (p := ⟨b, off + (i - 1) * 31 + 1, none⟩) (Nat.lt_of_lt_of_le hbl BA.out.size)).trans k2
         go_wp2_with fail
         refine (in_lit d.b.fr f true _ H4.out).mono ?_
         rintro e wc ⟨rfl, hb⟩
         replace oL := oL.below hb
         replace oN := oN.below hb
         replace bel := belowTo bel hb (by exact bel.size)
         clear hb
         clear cL0 cL1 fL zL cN0 cN1 cN12 cN13 cN14 fN zN
         obtain ⟨cL0, cL1, fL, zL⟩ := own2 oL
         obtain ⟨cN0, cN1, cN12, cN13, cN14, fN, zN⟩ := own_nr (r := d) oN
         go_wp2_with fail
         go_meet
         exact ⟨by rw [← HNC.out, nb1B, H1.out, H2.out, H3.out, H4.out]; rfl, bel⟩
   case rest =>
    obtain ⟨rfl, hx⟩ := hcut
    replace oL := oL.below hx
    replace oN := oN.below hx
    have bel := belowTo BA.out hx BA.out.size
    clear hx BA cL0 cL1 fL zL cN0 cN1 cN12 cN13 cN14 fN zN
    obtain ⟨cL0, cL1, fL, zL⟩ := own2 oL
    obtain ⟨cN0, cN1, cN12, cN13, cN14, fN, zN⟩ := own_nr (r := d) oN
    cases nC with
    | true =>
     go_wp2_with fail
     go_ret2
     exact newP_no (by have h9 := HNC.out; rw [← HT.out, HST.out]; simp only [Bool.not_eq_true'] at h9; rw [h9]; rfl) rfl (belowTo BE.out bel BE.out.size)
    | false =>
     have hB3 : wr.heap.size ≤ wc.heap.size := bel.size
     have ltL : w.heap.size < wc.heap.size := zL
     have ltN : wr.heap.size < wc.heap.size := zN
     have hbx : Below wc.heap.size wc (wc.alloc (Obj.cells #[.int .i64 d.b.fm, .int .i64 0, .int .i64 0, .int .i64 0, .int .i64 0, .int .i64 0, .int .i64 0, .int .i64 0, .int .i64 0, .int .i64 0, .int .i64 0, .slice none 0 0, .slice none 0 0, .slice none 0 0, .slice none 0 0, .bool false, .slice none 0 0, .slice none 0 0, .slice none 0 0, .int .i64 0, .int .i64 0, .int .u64 0, .int .i64 0, .int .i64 0, .int .i64 0, .int .i64 0, .int .i64 0, .slice none 0 0, .slice none 0 0, .bool false] 71)) := belowNew wc (Obj.cells #[.int .i64 d.b.fm, .int .i64 0, .int .i64 0, .int .i64 0, .int .i64 0, .int .i64 0, .int .i64 0, .int .i64 0, .int .i64 0, .int .i64 0, .int .i64 0, .slice none 0 0, .slice none 0 0, .slice none 0 0, .slice none 0 0, .bool false, .slice none 0 0, .slice none 0 0, .slice none 0 0, .int .i64 0, .int .i64 0, .int .u64 0, .int .i64 0, .int .i64 0, .int .i64 0, .int .i64 0, .int .i64 0, .slice none 0 0, .slice none 0 0, .bool false] 71)
     have OLx := Lib.hid (oL.below hbx)
     have BLx := Lib.hid (belowTo bel hbx bel.size)
     clear hbx
     go_wp2_with (first | ((with_reducible refine storeNew 71 [.int .i64 d.b.fm, .int .i64 0, .int .i64 0, .int .i64 0, .int .i64 0, .int .i64 0, .int .i64 0, .int .i64 0, .int .i64 0, .int .i64 0, .int .i64 0, .slice none 0 0, .slice none 0 0, .slice none 0 0, .slice none 0 0, .bool false, .slice none 0 0, .slice none 0 0, .slice none 0 0, .int .i64 0, .int .i64 0, .int .u64 0, .int .i64 0, .int .i64 0, .int .i64 0, .int .i64 0, .int .i64 0, .slice none 0 0, .slice none 0 0, .bool false] wc.heap.size [.int .i64 0, .int .i64 0, .int .i64 0, .int .i64 0, .int .i64 0, .int .i64 0, .int .i64 0, .int .i64 0, .int .i64 0, .int .i64 0, .int .i64 0, .slice none 0 0, .slice none 0 0, .slice none 0 0, .slice none 0 0, .bool false, .slice none 0 0, .slice none 0 0, .slice none 0 0, .int .i64 0, .int .i64 0, .int .u64 0, .int .i64 0, .int .i64 0, .int .i64 0, .int .i64 0, .int .i64 0, .slice none 0 0, .slice none 0 0, .bool false] 71 ?_ ?_ ?_ ?_ ?_ ?_ ?_); (next => exact ⟨_, _, rfl, rfl, rfl⟩); (next => rfl); (next => rfl); (next => rfl); (next => exact info_bcS); (next => simp [Value.oneCell'])) | fail)
     refine (onlyo_u _ d.b.us w.heap.size N D _ HND.out.1 HND.out.2 (KD.out.below BLx.out).1 f1 OLx.out.lt (OLx.out.cell (i := 0) rfl) (OLx.out.cell (i := 1) rfl)).mono ?_
     rintro e w6 ⟨vu, rfl, ru, hb⟩
     replace oL := (oL.alloc _).below hb
     replace oN := (oN.alloc _).below hb
     have oB : Own w6 wc.heap.size [.int .i64 d.b.fm, .int .i64 0, .int .i64 0, .int .i64 0, .int .i64 0, .int .i64 0, .int .i64 0, .int .i64 0, .int .i64 0, .int .i64 0, .int .i64 0, .slice none 0 0, .slice none 0 0, .slice none 0 0, .slice none 0 0, .bool false, .slice none 0 0, .slice none 0 0, .slice none 0 0, .int .i64 0, .int .i64 0, .int .u64 0, .int .i64 0, .int .i64 0, .int .i64 0, .int .i64 0, .int .i64 0, .slice none 0 0, .slice none 0 0, .bool false] 71 := (own_at _ _ rfl).below hb
     replace bel := belowTo (bel.alloc (by have := bel.size; first | (simp; done) | (simp; omega)) _) hb (by have := bel.size; first | (simp; done) | (simp; omega))
     clear hb
     clear cL0 cL1 fL zL cN0 cN1 cN12 cN13 cN14 fN zN
     obtain ⟨cL0, cL1, fL, zL⟩ := own2 oL
     obtain ⟨cN0, cN1, cN12, cN13, cN14, fN, zN⟩ := own_nr (r := d) oN
     have cB11 := oB.cell (i := 11) rfl
     have cB12 := oB.cell (i := 12) rfl
     have cB13 := oB.cell (i := 13) rfl
     have fB := oB.frozen
     have zB := oB.lt
     obtain ⟨su, rfl⟩ := row_slc ru
     have Ru := Lib.hid (row_base ru (Nat.zero_le _))
     clear ru
     go_wp2_with fail
     replace Ru := Lib.hid (row_setT Ru.out oB (by decide) 11 (.slice su.p su.n su.c))
     replace oL := (oL.other (by first | (simp; done) | (simp; omega) | omega | (dsimp only; omega)) (a := ⟨wc.heap.size, 11, none⟩) (.slice su.p su.n su.c))
     replace oN := (oN.other (by first | (simp; done) | (simp; omega) | omega | (dsimp only; omega)) (a := ⟨wc.heap.size, 11, none⟩) (.slice su.p su.n su.c))
     replace bel := (bel.setCell (p := ⟨wc.heap.size, 11, none⟩) (by first | (simp; done) | (simp; omega) | omega | (dsimp only; omega)) (.slice su.p su.n su.c))
     replace oB : Own _ (wc.heap.size) [.int .i64 d.b.fm, .int .i64 0, .int .i64 0, .int .i64 0, .int .i64 0, .int .i64 0, .int .i64 0, .int .i64 0, .int .i64 0, .int .i64 0, .int .i64 0, .slice su.p su.n su.c, .slice none 0 0, .slice none 0 0, .slice none 0 0, .bool false, .slice none 0 0, .slice none 0 0, .slice none 0 0, .int .i64 0, .int .i64 0, .int .u64 0, .int .i64 0, .int .i64 0, .int .i64 0, .int .i64 0, .int .i64 0, .slice none 0 0, .slice none 0 0, .bool false] 71 := (oB.set 11 (.slice su.p su.n su.c))
     clear cL0 cL1 fL zL cN0 cN1 cN12 cN13 cN14 fN zN cB11 cB12 cB13 fB zB
     generalize (w6.setCell ⟨wc.heap.size, 11, none⟩ (.slice su.p su.n su.c)) = w7 at oL oN oB Ru bel ⊢
     obtain ⟨cL0, cL1, fL, zL⟩ := own2 oL
     obtain ⟨cN0, cN1, cN12, cN13, cN14, fN, zN⟩ := own_nr (r := d) oN
     have cB11 := oB.cell (i := 11) rfl
     have cB12 := oB.cell (i := 12) rfl
     have cB13 := oB.cell (i := 13) rfl
     have fB := oB.frozen
     have zB := oB.lt
     go_wp2_with fail
     refine (onlyo_g _ d.b.gs w.heap.size N D _ HND.out.1 HND.out.2 (KD.out.below bel).2.1 f2 zL cL0 cL1).mono ?_
     rintro e w8 ⟨vg, rfl, rg, hb⟩
     replace oL := oL.below hb
     replace oN := oN.below hb
     replace oB := oB.below hb
     replace Ru := Lib.hid (Ru.out.below hb)
     replace bel := belowTo bel hb (by exact bel.size)
     clear hb
     clear cL0 cL1 fL zL cN0 cN1 cN12 cN13 cN14 fN zN cB11 cB12 cB13 fB zB
     obtain ⟨cL0, cL1, fL, zL⟩ := own2 oL
     obtain ⟨cN0, cN1, cN12, cN13, cN14, fN, zN⟩ := own_nr (r := d) oN
     have cB11 := oB.cell (i := 11) rfl
     have cB12 := oB.cell (i := 12) rfl
     have cB13 := oB.cell (i := 13) rfl
     have fB := oB.frozen
     have zB := oB.lt
     obtain ⟨sg, rfl⟩ := row_slc rg
     have Rg := Lib.hid (row_base rg (Nat.zero_le _))
     clear rg
     go_wp2_with fail
     replace Ru := Lib.hid (row_setT Ru.out oB (by decide) 12 (.slice sg.p sg.n sg.c))
     replace Rg := Lib.hid (row_setT Rg.out oB (by decide) 12 (.slice sg.p sg.n sg.c))
     replace oL := (oL.other (by first | (simp; done) | (simp; omega) | omega | (dsimp only; omega)) (a := ⟨wc.heap.size, 12, none⟩) (.slice sg.p sg.n sg.c))
     replace oN := (oN.other (by first | (simp; done) | (simp; omega) | omega | (dsimp only; omega)) (a := ⟨wc.heap.size, 12, none⟩) (.slice sg.p sg.n sg.c))
     replace bel := (bel.setCell (p := ⟨wc.heap.size, 12, none⟩) (by first | (simp; done) | (simp; omega) | omega | (dsimp only; omega)) (.slice sg.p sg.n sg.c))
     replace oB : Own _ (wc.heap.size) [.int .i64 d.b.fm, .int .i64 0, .int .i64 0, .int .i64 0, .int .i64 0, .int .i64 0, .int .i64 0, .int .i64 0, .int .i64 0, .int .i64 0, .int .i64 0, .slice su.p su.n su.c, .slice sg.p sg.n sg.c, .slice none 0 0, .slice none 0 0, .bool false, .slice none 0 0, .slice none 0 0, .slice none 0 0, .int .i64 0, .int .i64 0, .int .u64 0, .int .i64 0, .int .i64 0, .int .i64 0, .int .i64 0, .int .i64 0, .slice none 0 0, .slice none 0 0, .bool false] 71 := (oB.set 12 (.slice sg.p sg.n sg.c))
     clear cL0 cL1 fL zL cN0 cN1 cN12 cN13 cN14 fN zN cB11 cB12 cB13 fB zB
     generalize (w8.setCell ⟨wc.heap.size, 12, none⟩ (.slice sg.p sg.n sg.c)) = w9 at oL oN oB Ru Rg bel ⊢
     obtain ⟨cL0, cL1, fL, zL⟩ := own2 oL
     obtain ⟨cN0, cN1, cN12, cN13, cN14, fN, zN⟩ := own_nr (r := d) oN
     have cB11 := oB.cell (i := 11) rfl
     have cB12 := oB.cell (i := 12) rfl
     have cB13 := oB.cell (i := 13) rfl
     have fB := oB.frozen
     have zB := oB.lt
     go_wp2_with fail
     refine (onlyo_a _ d.b.ks w.heap.size N D _ HND.out.1 HND.out.2 (KD.out.below bel).2.2 f3 zL cL0 cL1).mono ?_
     rintro e w10 ⟨va, rfl, ra, hb⟩
     replace oL := oL.below hb
     replace oN := oN.below hb
     replace oB := oB.below hb
     replace Ru := Lib.hid (Ru.out.below hb)
     replace Rg := Lib.hid (Rg.out.below hb)
     replace bel := belowTo bel hb (by exact bel.size)
     clear hb
     clear cL0 cL1 fL zL cN0 cN1 cN12 cN13 cN14 fN zN cB11 cB12 cB13 fB zB
     obtain ⟨cL0, cL1, fL, zL⟩ := own2 oL
     obtain ⟨cN0, cN1, cN12, cN13, cN14, fN, zN⟩ := own_nr (r := d) oN
     have cB11 := oB.cell (i := 11) rfl
     have cB12 := oB.cell (i := 12) rfl
     have cB13 := oB.cell (i := 13) rfl
     have fB := oB.frozen
     have zB := oB.lt
     obtain ⟨sa, rfl⟩ := row_slc ra
     have Ra := Lib.hid (row_base ra (Nat.zero_le _))
     clear ra
     go_wp2_with fail
     replace Ru := Lib.hid (row_setT Ru.out oB (by decide) 13 (.slice sa.p sa.n sa.c))
     replace Rg := Lib.hid (row_setT Rg.out oB (by decide) 13 (.slice sa.p sa.n sa.c))
     replace Ra := Lib.hid (row_setT Ra.out oB (by decide) 13 (.slice sa.p sa.n sa.c))
     replace oL := (oL.other (by first | (simp; done) | (simp; omega) | omega | (dsimp only; omega)) (a := ⟨wc.heap.size, 13, none⟩) (.slice sa.p sa.n sa.c))
     replace oN := (oN.other (by first | (simp; done) | (simp; omega) | omega | (dsimp only; omega)) (a := ⟨wc.heap.size, 13, none⟩) (.slice sa.p sa.n sa.c))
     replace bel := (bel.setCell (p := ⟨wc.heap.size, 13, none⟩) (by first | (simp; done) | (simp; omega) | omega | (dsimp only; omega)) (.slice sa.p sa.n sa.c))
     replace oB : Own _ (wc.heap.size) [.int .i64 d.b.fm, .int .i64 0, .int .i64 0, .int .i64 0, .int .i64 0, .int .i64 0, .int .i64 0, .int .i64 0, .int .i64 0, .int .i64 0, .int .i64 0, .slice su.p su.n su.c, .slice sg.p sg.n sg.c, .slice sa.p sa.n sa.c, .slice none 0 0, .bool false, .slice none 0 0, .slice none 0 0, .slice none 0 0, .int .i64 0, .int .i64 0, .int .u64 0, .int .i64 0, .int .i64 0, .int .i64 0, .int .i64 0, .int .i64 0, .slice none 0 0, .slice none 0 0, .bool false] 71 := (oB.set 13 (.slice sa.p sa.n sa.c))
     clear cL0 cL1 fL zL cN0 cN1 cN12 cN13 cN14 fN zN cB11 cB12 cB13 fB zB
     generalize (w10.setCell ⟨wc.heap.size, 13, none⟩ (.slice sa.p sa.n sa.c)) = w11 at oL oN oB Ru Rg Ra bel ⊢
     obtain ⟨cL0, cL1, fL, zL⟩ := own2 oL
     obtain ⟨cN0, cN1, cN12, cN13, cN14, fN, zN⟩ := own_nr (r := d) oN
     have cB11 := oB.cell (i := 11) rfl
     have cB12 := oB.cell (i := 12) rfl
     have cB13 := oB.cell (i := 13) rfl
     have fB := oB.frozen
     have zB := oB.lt
     have OLd := Lib.hid oL
     have ONd := Lib.hid oN
     have OBd := Lib.hid oB
     have OSd := Lib.hid (OS0.out.below bel)
     have HOWd := Lib.hid (HROW.out.below bel)
     have HRSd := Lib.hid (HRS.out.below bel)
     have BWd := Lib.hid (belowTo BE.out bel BE.out.size)
     have hWd : w.heap.size ≤ w11.heap.size := BWd.out.size
     have hnb : ∀ k, (Value.slice sv.p sv.n sv.c).ownBlock = some k → k < wr.heap.size := fun k hk => (HROW.out.lt k hk).2
     have HNB2 := Lib.hid hnb
     clear hnb oL oN oB bel cL0 cL1 fL zL cN0 cN1 cN12 cN13 cN14 fN zN cB11 cB12 cB13 fB zB
     have OSz := Lib.hid OSd.out.drew
     have ONz := Lib.hid ONd.out.drew
     have OBz := Lib.hid OBd.out.drew
     refine region_H 14 #[false, false, false, false, false, false, false, false, false, false, false, false, false, false] (by kernel_rfl) (by kernel_rfl) (fun w' => w'.cell? ⟨wr.heap.size, 0, none⟩ = some (.int .i64 d.b.fr) ∧ w'.rangeAt wc.heap.size 0 [.int .i64 d.b.fm, .int .i64 0, .int .i64 0, .int .i64 0, .int .i64 0, .int .i64 0, .int .i64 0, .int .i64 0, .int .i64 0, .int .i64 0, .int .i64 0, .slice su.p su.n su.c, .slice sg.p sg.n sg.c, .slice sa.p sa.n sa.c, .slice none 0 0, .bool false, .slice none 0 0, .slice none 0 0, .slice none 0 0, .int .i64 0, .int .i64 0, .int .u64 0, .int .i64 0, .int .i64 0, .int .i64 0, .int .i64 0, .int .i64 0, .slice none 0 0, .slice none 0 0, .bool false]) (by kernel_rfl) ?x1s (fun hHeld => ?x1r)
     case x1s => exact ⟨ONz.out.cell (i := 0) rfl, fun j v hv => by rw [Nat.zero_add]; exact OBz.out.cell hv⟩
     refine tH 0 102 ?_
     refine tH 1 103 ?_
     refine tH 2 104 ?_
     refine tH 3 105 ?_
     refine tH 5 107 ?_
     refine tH 6 108 ?_
     refine wpH_take (i := 7) (some 109) rfl (by kernel_rfl) (by kernel_rfl) (by kernel_rfl) rfl (fun _ _ _ h => h) (yieldsIf_load_mid (by rfl) 71 _ rfl wc.heap.size 0 rfl [.int .i64 d.b.fm, .int .i64 0, .int .i64 0, .int .i64 0, .int .i64 0, .int .i64 0, .int .i64 0, .int .i64 0, .int .i64 0, .int .i64 0, .int .i64 0, .slice su.p su.n su.c, .slice sg.p sg.n sg.c, .slice sa.p sa.n sa.c, .slice none 0 0, .bool false, .slice none 0 0, .slice none 0 0, .slice none 0 0, .int .i64 0, .int .i64 0, .int .u64 0, .int .i64 0, .int .i64 0, .int .i64 0, .int .i64 0, .int .i64 0, .slice none 0 0, .slice none 0 0, .bool false] _ (fun w h => h.2) Tryz.underlying71 rfl info_bcS) hHeld ?x8r
     try simp only [Act.put, List.setIfInBounds_toArray, List.set_cons_zero, List.set_cons_succ]
     refine tH 8 110 ?_
     refine wpAnyH_ready (rs := [4, 9]) (by kernel_rfl) (by simp) (AllReadyH.cons rfl (fun K hK => ?x10a) (AllReadyH.cons rfl (fun K hK => ?x10b) AllReadyH.nil))
     case x10a =>
      rw [if_pos (by rfl)]
      obtain ⟨q0, q1, q2, q3, q4, qf, qz⟩ := own5 OSz.out
      go_simp
      clear q0 q1 q2 q3 q4 qf qz
      refine hK.out _ _ (⟨ONz.out.cell (i := 0) rfl, fun j v hv => by rw [Nat.zero_add]; exact OBz.out.cell hv⟩) ?_
      clear hK K hHeld
      intro hHeld
      try simp only [Act.put, List.setIfInBounds_toArray, List.set_cons_zero, List.set_cons_succ]
      refine wpH_one (i := 9) (by kernel_rfl) rfl (fun K hK => ?_)
      rw [if_pos (by rfl)]
      go_simp
      have hwe : Below w11.heap.size w11 ((w11.alloc (.cells #[.int .i64 d.b.fr, .int .i64 d.b.fm, .int .i64 0, .int .i64 0, .int .i64 0, .int .i64 0, .int .i64 0, .int .i64 0, .int .i64 0, .int .i64 0, .int .i64 0, .int .i64 0, .slice su.p su.n su.c, .slice sg.p sg.n sg.c, .slice sa.p sa.n sa.c, .slice none 0 0, .bool false, .slice none 0 0, .slice none 0 0, .slice none 0 0, .int .i64 0, .int .i64 0, .int .u64 0, .int .i64 0, .int .i64 0, .int .i64 0, .int .i64 0, .int .i64 0, .slice none 0 0, .slice none 0 0, .bool false] 86)).drew) := (belowNew w11 (.cells #[.int .i64 d.b.fr, .int .i64 d.b.fm, .int .i64 0, .int .i64 0, .int .i64 0, .int .i64 0, .int .i64 0, .int .i64 0, .int .i64 0, .int .i64 0, .int .i64 0, .int .i64 0, .slice su.p su.n su.c, .slice sg.p sg.n sg.c, .slice sa.p sa.n sa.c, .slice none 0 0, .bool false, .slice none 0 0, .slice none 0 0, .slice none 0 0, .int .i64 0, .int .i64 0, .int .u64 0, .int .i64 0, .int .i64 0, .int .i64 0, .int .i64 0, .int .i64 0, .slice none 0 0, .slice none 0 0, .bool false] 86)).drew
      have NEWS := Lib.hid (show ∀ j u, (nrL.f (⟨⟨d.b.fr, d.b.fm, d.b.us.filter (fun d => usB N D d), d.b.gs.filter (fun d => grB N D d), d.b.ks.filter (fun d => plcB d.s d.o d.p N D)⟩, su, sg, sa⟩ : Nr))[j]? = some u → ((w11.alloc (.cells #[.int .i64 d.b.fr, .int .i64 d.b.fm, .int .i64 0, .int .i64 0, .int .i64 0, .int .i64 0, .int .i64 0, .int .i64 0, .int .i64 0, .int .i64 0, .int .i64 0, .int .i64 0, .slice su.p su.n su.c, .slice sg.p sg.n sg.c, .slice sa.p sa.n sa.c, .slice none 0 0, .bool false, .slice none 0 0, .slice none 0 0, .slice none 0 0, .int .i64 0, .int .i64 0, .int .u64 0, .int .i64 0, .int .i64 0, .int .i64 0, .int .i64 0, .int .i64 0, .slice none 0 0, .slice none 0 0, .bool false] 86)).drew).cell? ((⟨w11.heap.size, 0, none⟩ : Addr).add j) = some u from newsT (L := nrL) w11 (⟨⟨d.b.fr, d.b.fm, d.b.us.filter (fun d => usB N D d), d.b.gs.filter (fun d => grB N D d), d.b.ks.filter (fun d => plcB d.s d.o d.p N D)⟩, su, sg, sa⟩ : Nr) 86)
      have OLe := Lib.hid (OLd.out.below hwe)
      have ONe := Lib.hid (ONd.out.below hwe)
      have OBe := Lib.hid (OBd.out.below hwe)
      have OSe := Lib.hid (OSd.out.below hwe)
      have HOWe := Lib.hid (HOWd.out.below hwe)
      have HRSe := Lib.hid (HRSd.out.below hwe)
      have Rue := Lib.hid (Ru.out.below hwe)
      have Rge := Lib.hid (Rg.out.below hwe)
      have Rae := Lib.hid (Ra.out.below hwe)
      have BWe := Lib.hid (belowTo BWd.out hwe hWd)
      have hWe : w.heap.size ≤ ((w11.alloc (.cells #[.int .i64 d.b.fr, .int .i64 d.b.fm, .int .i64 0, .int .i64 0, .int .i64 0, .int .i64 0, .int .i64 0, .int .i64 0, .int .i64 0, .int .i64 0, .int .i64 0, .int .i64 0, .slice su.p su.n su.c, .slice sg.p sg.n sg.c, .slice sa.p sa.n sa.c, .slice none 0 0, .bool false, .slice none 0 0, .slice none 0 0, .slice none 0 0, .int .i64 0, .int .i64 0, .int .u64 0, .int .i64 0, .int .i64 0, .int .i64 0, .int .i64 0, .int .i64 0, .slice none 0 0, .slice none 0 0, .bool false] 86)).drew).heap.size := BWe.out.size
      clear hwe
      generalize (w11.alloc (.cells #[.int .i64 d.b.fr, .int .i64 d.b.fm, .int .i64 0, .int .i64 0, .int .i64 0, .int .i64 0, .int .i64 0, .int .i64 0, .int .i64 0, .int .i64 0, .int .i64 0, .int .i64 0, .slice su.p su.n su.c, .slice sg.p sg.n sg.c, .slice sa.p sa.n sa.c, .slice none 0 0, .bool false, .slice none 0 0, .slice none 0 0, .slice none 0 0, .int .i64 0, .int .i64 0, .int .u64 0, .int .i64 0, .int .i64 0, .int .i64 0, .int .i64 0, .int .i64 0, .slice none 0 0, .slice none 0 0, .bool false] 86)).drew = we at OLe ONe OBe OSe HOWe HRSe Rue Rge Rae BWe NEWS hWe ⊢
      refine hK.out _ _ (⟨ONe.out.cell (i := 0) rfl, fun j v hv => by rw [Nat.zero_add]; exact OBe.out.cell hv⟩) ?_
      clear hK K hHeld
      intro hHeld
      try simp only [Act.put, List.setIfInBounds_toArray, List.set_cons_zero, List.set_cons_succ]
      refine wpH_one (i := 10) (by kernel_rfl) rfl (fun K hK => ?_)
      rw [if_pos (by rfl)]
      refine wp_append_own _ _ _ 56 rfl w.heap.size 86 i0 _ 31 392 (by kernel_rfl) IF.out.1 IF.out.2.1 IF.out.2.2.1 IF.out.2.2.2 rfl (by decide) (.slice sv.p sv.n sv.c) qs.length (flatT nrL qs) rfl HOWe.out _ 1 1 (nrL.f (⟨⟨d.b.fr, d.b.fm, d.b.us.filter (fun d => usB N D d), d.b.gs.filter (fun d => grB N D d), d.b.ks.filter (fun d => plcB d.s d.o d.p N D)⟩, su, sg, sa⟩ : Nr)) rfl rfl NEWS.out (nrL.one _) ?qc4 ?qc5 hWe ?qc7
      case qc4 => unfold maxLen; omega
      case qc5 => omega
      case qc7 =>
       intro v2 w2x hown hgrow hnil
       have hne : some wr.heap.size ≠ (Value.slice sv.p sv.n sv.c).ownBlock := fun e => by have := HNB2.out _ e.symm; omega
       have ON2 := Lib.hid (show Own w2x wr.heap.size [.int .i64 d.b.fr, .int .i64 d.b.fm, .int .i64 0, .int .i64 0, .int .i64 0, .int .i64 0, .int .i64 0, .int .i64 0, .int .i64 0, .int .i64 0, .int .i64 0, .int .i64 0, .slice d.vu.p d.vu.n d.vu.c, .slice d.vg.p d.vg.n d.vg.c, .slice d.va.p d.va.n d.va.c, .slice none 0 0, .bool false, .slice none 0 0, .slice none 0 0, .slice none 0 0, .int .i64 0, .int .i64 0, .int .u64 0, .int .i64 0, .int .i64 0, .int .i64 0, .int .i64 0, .int .i64 0, .slice none 0 0, .slice none 0 0, .bool false] 86 from (hgrow.block _ ONe.out.lt hne).trans ONe.out)
       have OS2 := Lib.hid (own_keptT OSe.out HOWe.out (by decide) hgrow)
       have OB2 := Lib.hid (own_keptT OBe.out HOWe.out (by decide) hgrow)
       have OL2 := Lib.hid (own_keptT OLe.out HOWe.out (by decide) hgrow)
       have HRS2 := Lib.hid (HRSe.out.kept HOWe.out hgrow)
       have Ru2 := Lib.hid (row_keptT Rue.out HOWe.out (by decide) hgrow)
       have Rg2 := Lib.hid (row_keptT Rge.out HOWe.out (by decide) hgrow)
       have Ra2 := Lib.hid (row_keptT Rae.out HOWe.out (by decide) hgrow)
       have BW2 := Lib.hid (BWe.out.grown hgrow hWe (fun k hk => (HOWe.out.lt k hk).1))
       obtain ⟨sn, rfl⟩ := row_slc hown
       have H2w := Lib.hid hown
       clear hown hgrow hnil hne
       refine hK.out _ _ (⟨ON2.out.cell (i := 0) rfl, fun j v hv => by rw [Nat.zero_add]; exact OB2.out.cell hv⟩) ?_
       clear hK K hHeld
       intro hHeld
       try simp only [Act.put, List.setIfInBounds_toArray, List.set_cons_zero, List.set_cons_succ]
       refine tH 11 113 ?_
       refine tH 12 114 ?_
       refine wpH_one (i := 13) (by kernel_rfl) rfl (fun K hK => ?_)
       rw [if_pos (by rfl)]
       obtain ⟨q0, q1, q2, q3, q4, qf, qz⟩ := own5 OS2.out
       go_simp
       clear q0 q1 q2 q3 q4 qf qz
       have OS3 := Lib.hid (OS2.out.set 3 (.slice sn.p sn.n sn.c))
       have H3w := Lib.hid (row_setT H2w.out OS2.out (by decide) 3 (.slice sn.p sn.n sn.c))
       have HRS3 := Lib.hid (HRS2.out.set OS2.out (by decide) (by decide) (by decide) 3 (.slice sn.p sn.n sn.c))
       have Ru3 := Lib.hid (row_setT Ru2.out OS2.out (by decide) 3 (.slice sn.p sn.n sn.c))
       have Rg3 := Lib.hid (row_setT Rg2.out OS2.out (by decide) 3 (.slice sn.p sn.n sn.c))
       have Ra3 := Lib.hid (row_setT Ra2.out OS2.out (by decide) 3 (.slice sn.p sn.n sn.c))
       have OL3 := Lib.hid (OL2.out.other (a := ⟨w3.heap.size, 3, none⟩) (by dsimp only; omega) (.slice sn.p sn.n sn.c))
       have ON3 := Lib.hid (ON2.out.other (a := ⟨w3.heap.size, 3, none⟩) (by dsimp only; omega) (.slice sn.p sn.n sn.c))
       have OB3 := Lib.hid (OB2.out.other (a := ⟨w3.heap.size, 3, none⟩) (by dsimp only; omega) (.slice sn.p sn.n sn.c))
       have BW3 := Lib.hid (BW2.out.setCell (p := ⟨w3.heap.size, 3, none⟩) hSB (.slice sn.p sn.n sn.c))
       generalize World.setCell w2x ⟨w3.heap.size, 3, none⟩ (.slice sn.p sn.n sn.c) = w3x at OS3 H3w HRS3 Ru3 Rg3 Ra3 OL3 ON3 OB3 BW3 ⊢
       refine hK.out _ _ (⟨ON3.out.cell (i := 0) rfl, fun j v hv => by rw [Nat.zero_add]; exact OB3.out.cell hv⟩) ?_
       clear hK K hHeld
       intro hHeld
       try simp only [Act.put, List.setIfInBounds_toArray, List.set_cons_zero, List.set_cons_succ]
       refine wpAnyH_done (by kernel_rfl) ?_ _
       go_wp2_with fail
       go_roundw
       case rel => exact ⟨i + 1, by omega, by go_num, (by have h9 := HNC.out; rw [← HT.out, HST.out]; simp only [Bool.not_eq_false'] at h9; rw [h9]; rfl), qs ++ [(⟨⟨d.b.fr, d.b.fm, d.b.us.filter (fun d => usB N D d), d.b.gs.filter (fun d => grB N D d), d.b.ks.filter (fun d => plcB d.s d.o d.p N D)⟩, su, sg, sa⟩ : Nr)], sn, OL3.out, OS3.out, (by have h9 := H3w.out; rw [flatT_append, flatT_one]; simpa using h9), (fun r hr => (List.mem_append.1 hr).elim (fun h => HRS3.out r h) (fun h => by rw [List.mem_singleton] at h; subst h; exact ⟨Ru3.out, Rg3.out, Ra3.out⟩)), (by rw [List.map_append, HMAP.out, sid_step HD.out]; rfl), BW3.out⟩
       case measure => simp [intOf]; omega
     case x10b =>
      rw [if_pos (by rfl)]
      go_simp
      have hwe : Below w11.heap.size w11 ((w11.alloc (.cells #[.int .i64 d.b.fr, .int .i64 d.b.fm, .int .i64 0, .int .i64 0, .int .i64 0, .int .i64 0, .int .i64 0, .int .i64 0, .int .i64 0, .int .i64 0, .int .i64 0, .int .i64 0, .slice su.p su.n su.c, .slice sg.p sg.n sg.c, .slice sa.p sa.n sa.c, .slice none 0 0, .bool false, .slice none 0 0, .slice none 0 0, .slice none 0 0, .int .i64 0, .int .i64 0, .int .u64 0, .int .i64 0, .int .i64 0, .int .i64 0, .int .i64 0, .int .i64 0, .slice none 0 0, .slice none 0 0, .bool false] 86)).drew) := (belowNew w11 (.cells #[.int .i64 d.b.fr, .int .i64 d.b.fm, .int .i64 0, .int .i64 0, .int .i64 0, .int .i64 0, .int .i64 0, .int .i64 0, .int .i64 0, .int .i64 0, .int .i64 0, .int .i64 0, .slice su.p su.n su.c, .slice sg.p sg.n sg.c, .slice sa.p sa.n sa.c, .slice none 0 0, .bool false, .slice none 0 0, .slice none 0 0, .slice none 0 0, .int .i64 0, .int .i64 0, .int .u64 0, .int .i64 0, .int .i64 0, .int .i64 0, .int .i64 0, .int .i64 0, .slice none 0 0, .slice none 0 0, .bool false] 86)).drew
      have NEWS := Lib.hid (show ∀ j u, (nrL.f (⟨⟨d.b.fr, d.b.fm, d.b.us.filter (fun d => usB N D d), d.b.gs.filter (fun d => grB N D d), d.b.ks.filter (fun d => plcB d.s d.o d.p N D)⟩, su, sg, sa⟩ : Nr))[j]? = some u → ((w11.alloc (.cells #[.int .i64 d.b.fr, .int .i64 d.b.fm, .int .i64 0, .int .i64 0, .int .i64 0, .int .i64 0, .int .i64 0, .int .i64 0, .int .i64 0, .int .i64 0, .int .i64 0, .int .i64 0, .slice su.p su.n su.c, .slice sg.p sg.n sg.c, .slice sa.p sa.n sa.c, .slice none 0 0, .bool false, .slice none 0 0, .slice none 0 0, .slice none 0 0, .int .i64 0, .int .i64 0, .int .u64 0, .int .i64 0, .int .i64 0, .int .i64 0, .int .i64 0, .int .i64 0, .slice none 0 0, .slice none 0 0, .bool false] 86)).drew).cell? ((⟨w11.heap.size, 0, none⟩ : Addr).add j) = some u from newsT (L := nrL) w11 (⟨⟨d.b.fr, d.b.fm, d.b.us.filter (fun d => usB N D d), d.b.gs.filter (fun d => grB N D d), d.b.ks.filter (fun d => plcB d.s d.o d.p N D)⟩, su, sg, sa⟩ : Nr) 86)
      have OLe := Lib.hid (OLd.out.below hwe)
      have ONe := Lib.hid (ONd.out.below hwe)
      have OBe := Lib.hid (OBd.out.below hwe)
      have OSe := Lib.hid (OSd.out.below hwe)
      have HOWe := Lib.hid (HOWd.out.below hwe)
      have HRSe := Lib.hid (HRSd.out.below hwe)
      have Rue := Lib.hid (Ru.out.below hwe)
      have Rge := Lib.hid (Rg.out.below hwe)
      have Rae := Lib.hid (Ra.out.below hwe)
      have BWe := Lib.hid (belowTo BWd.out hwe hWd)
      have hWe : w.heap.size ≤ ((w11.alloc (.cells #[.int .i64 d.b.fr, .int .i64 d.b.fm, .int .i64 0, .int .i64 0, .int .i64 0, .int .i64 0, .int .i64 0, .int .i64 0, .int .i64 0, .int .i64 0, .int .i64 0, .int .i64 0, .slice su.p su.n su.c, .slice sg.p sg.n sg.c, .slice sa.p sa.n sa.c, .slice none 0 0, .bool false, .slice none 0 0, .slice none 0 0, .slice none 0 0, .int .i64 0, .int .i64 0, .int .u64 0, .int .i64 0, .int .i64 0, .int .i64 0, .int .i64 0, .int .i64 0, .slice none 0 0, .slice none 0 0, .bool false] 86)).drew).heap.size := BWe.out.size
      clear hwe
      generalize (w11.alloc (.cells #[.int .i64 d.b.fr, .int .i64 d.b.fm, .int .i64 0, .int .i64 0, .int .i64 0, .int .i64 0, .int .i64 0, .int .i64 0, .int .i64 0, .int .i64 0, .int .i64 0, .int .i64 0, .slice su.p su.n su.c, .slice sg.p sg.n sg.c, .slice sa.p sa.n sa.c, .slice none 0 0, .bool false, .slice none 0 0, .slice none 0 0, .slice none 0 0, .int .i64 0, .int .i64 0, .int .u64 0, .int .i64 0, .int .i64 0, .int .i64 0, .int .i64 0, .int .i64 0, .slice none 0 0, .slice none 0 0, .bool false] 86)).drew = we at OLe ONe OBe OSe HOWe HRSe Rue Rge Rae BWe NEWS hWe ⊢
      refine hK.out _ _ (⟨ONe.out.cell (i := 0) rfl, fun j v hv => by rw [Nat.zero_add]; exact OBe.out.cell hv⟩) ?_
      clear hK K hHeld
      intro hHeld
      try simp only [Act.put, List.setIfInBounds_toArray, List.set_cons_zero, List.set_cons_succ]
      refine wpH_one (i := 4) (by kernel_rfl) rfl (fun K hK => ?_)
      rw [if_pos (by rfl)]
      obtain ⟨q0, q1, q2, q3, q4, qf, qz⟩ := own5 OSe.out
      go_simp
      clear q0 q1 q2 q3 q4 qf qz
      refine hK.out _ _ (⟨ONe.out.cell (i := 0) rfl, fun j v hv => by rw [Nat.zero_add]; exact OBe.out.cell hv⟩) ?_
      clear hK K hHeld
      intro hHeld
      try simp only [Act.put, List.setIfInBounds_toArray, List.set_cons_zero, List.set_cons_succ]
      refine wpH_one (i := 10) (by kernel_rfl) rfl (fun K hK => ?_)
      rw [if_pos (by rfl)]
      refine wp_append_own _ _ _ 56 rfl w.heap.size 86 i0 _ 31 392 (by kernel_rfl) IF.out.1 IF.out.2.1 IF.out.2.2.1 IF.out.2.2.2 rfl (by decide) (.slice sv.p sv.n sv.c) qs.length (flatT nrL qs) rfl HOWe.out _ 1 1 (nrL.f (⟨⟨d.b.fr, d.b.fm, d.b.us.filter (fun d => usB N D d), d.b.gs.filter (fun d => grB N D d), d.b.ks.filter (fun d => plcB d.s d.o d.p N D)⟩, su, sg, sa⟩ : Nr)) rfl rfl NEWS.out (nrL.one _) ?qc4 ?qc5 hWe ?qc7
      case qc4 => unfold maxLen; omega
      case qc5 => omega
      case qc7 =>
       intro v2 w2x hown hgrow hnil
       have hne : some wr.heap.size ≠ (Value.slice sv.p sv.n sv.c).ownBlock := fun e => by have := HNB2.out _ e.symm; omega
       have ON2 := Lib.hid (show Own w2x wr.heap.size [.int .i64 d.b.fr, .int .i64 d.b.fm, .int .i64 0, .int .i64 0, .int .i64 0, .int .i64 0, .int .i64 0, .int .i64 0, .int .i64 0, .int .i64 0, .int .i64 0, .int .i64 0, .slice d.vu.p d.vu.n d.vu.c, .slice d.vg.p d.vg.n d.vg.c, .slice d.va.p d.va.n d.va.c, .slice none 0 0, .bool false, .slice none 0 0, .slice none 0 0, .slice none 0 0, .int .i64 0, .int .i64 0, .int .u64 0, .int .i64 0, .int .i64 0, .int .i64 0, .int .i64 0, .int .i64 0, .slice none 0 0, .slice none 0 0, .bool false] 86 from (hgrow.block _ ONe.out.lt hne).trans ONe.out)
       have OS2 := Lib.hid (own_keptT OSe.out HOWe.out (by decide) hgrow)
       have OB2 := Lib.hid (own_keptT OBe.out HOWe.out (by decide) hgrow)
       have OL2 := Lib.hid (own_keptT OLe.out HOWe.out (by decide) hgrow)
       have HRS2 := Lib.hid (HRSe.out.kept HOWe.out hgrow)
       have Ru2 := Lib.hid (row_keptT Rue.out HOWe.out (by decide) hgrow)
       have Rg2 := Lib.hid (row_keptT Rge.out HOWe.out (by decide) hgrow)
       have Ra2 := Lib.hid (row_keptT Rae.out HOWe.out (by decide) hgrow)
       have BW2 := Lib.hid (BWe.out.grown hgrow hWe (fun k hk => (HOWe.out.lt k hk).1))
       obtain ⟨sn, rfl⟩ := row_slc hown
       have H2w := Lib.hid hown
       clear hown hgrow hnil hne
       refine hK.out _ _ (⟨ON2.out.cell (i := 0) rfl, fun j v hv => by rw [Nat.zero_add]; exact OB2.out.cell hv⟩) ?_
       clear hK K hHeld
       intro hHeld
       try simp only [Act.put, List.setIfInBounds_toArray, List.set_cons_zero, List.set_cons_succ]
       refine tH 11 113 ?_
       refine tH 12 114 ?_
       refine wpH_one (i := 13) (by kernel_rfl) rfl (fun K hK => ?_)
       rw [if_pos (by rfl)]
       obtain ⟨q0, q1, q2, q3, q4, qf, qz⟩ := own5 OS2.out
       go_simp
       clear q0 q1 q2 q3 q4 qf qz
       have OS3 := Lib.hid (OS2.out.set 3 (.slice sn.p sn.n sn.c))
       have H3w := Lib.hid (row_setT H2w.out OS2.out (by decide) 3 (.slice sn.p sn.n sn.c))
       have HRS3 := Lib.hid (HRS2.out.set OS2.out (by decide) (by decide) (by decide) 3 (.slice sn.p sn.n sn.c))
       have Ru3 := Lib.hid (row_setT Ru2.out OS2.out (by decide) 3 (.slice sn.p sn.n sn.c))
       have Rg3 := Lib.hid (row_setT Rg2.out OS2.out (by decide) 3 (.slice sn.p sn.n sn.c))
       have Ra3 := Lib.hid (row_setT Ra2.out OS2.out (by decide) 3 (.slice sn.p sn.n sn.c))
       have OL3 := Lib.hid (OL2.out.other (a := ⟨w3.heap.size, 3, none⟩) (by dsimp only; omega) (.slice sn.p sn.n sn.c))
       have ON3 := Lib.hid (ON2.out.other (a := ⟨w3.heap.size, 3, none⟩) (by dsimp only; omega) (.slice sn.p sn.n sn.c))
       have OB3 := Lib.hid (OB2.out.other (a := ⟨w3.heap.size, 3, none⟩) (by dsimp only; omega) (.slice sn.p sn.n sn.c))
       have BW3 := Lib.hid (BW2.out.setCell (p := ⟨w3.heap.size, 3, none⟩) hSB (.slice sn.p sn.n sn.c))
       generalize World.setCell w2x ⟨w3.heap.size, 3, none⟩ (.slice sn.p sn.n sn.c) = w3x at OS3 H3w HRS3 Ru3 Rg3 Ra3 OL3 ON3 OB3 BW3 ⊢
       refine hK.out _ _ (⟨ON3.out.cell (i := 0) rfl, fun j v hv => by rw [Nat.zero_add]; exact OB3.out.cell hv⟩) ?_
       clear hK K hHeld
       intro hHeld
       try simp only [Act.put, List.setIfInBounds_toArray, List.set_cons_zero, List.set_cons_succ]
       refine wpAnyH_done (by kernel_rfl) ?_ _
       go_wp2_with fail
       go_roundw
       case rel => exact ⟨i + 1, by omega, by go_num, (by have h9 := HNC.out; rw [← HT.out, HST.out]; simp only [Bool.not_eq_false'] at h9; rw [h9]; rfl), qs ++ [(⟨⟨d.b.fr, d.b.fm, d.b.us.filter (fun d => usB N D d), d.b.gs.filter (fun d => grB N D d), d.b.ks.filter (fun d => plcB d.s d.o d.p N D)⟩, su, sg, sa⟩ : Nr)], sn, OL3.out, OS3.out, (by have h9 := H3w.out; rw [flatT_append, flatT_one]; simpa using h9), (fun r hr => (List.mem_append.1 hr).elim (fun h => HRS3.out r h) (fun h => by rw [List.mem_singleton] at h; subst h; exact ⟨Ru3.out, Rg3.out, Ra3.out⟩)), (by rw [List.map_append, HMAP.out, sid_step HD.out]; rfl), BW3.out⟩
       case measure => simp [intOf]; omega
  ·have HOK := Lib.hid (show ok = true by rw [← HT.out]; exact nbs_end (by omega))
   obtain ⟨rfl⟩ := HOK.out
   have HM2 := Lib.hid (show qs.map Nr.b = sidL N D (l.map Nr.b) by have h := HMAP.out; rw [List.take_of_length_le (by omega)] at h; exact h)
   go_wp2_with fail
   go_ret2
   exact ⟨w3.heap.size, sv, qs, rfl, OS0.out, slt_of_own (L := nrL) HROW.out, HRS.out.ok, HM2.out, hSB, BE.out⟩
theorem new_any (vu vg va : Value) (us : List Us) (gs : List Gr) (ks : List Ak) (N D me f : Int) (v : Value) (l : List Nr) (w : World) (su : SlU w vu us) (sg : SlG w vg gs) (sa : SlA w va ks) (u70 : us.length ≤ 70) (g70 : gs.length ≤ 70) (k70 : ks.length ≤ 70) (sl : SlN w v l) (ho : NsOk w l) (h1000 : l.length ≤ 1000) (hfew : ∀ r ∈ l, r.b.us.length ≤ 100 ∧ r.b.gs.length ≤ 100 ∧ r.b.ks.length ≤ 100) (ok : Bool) (h : sideB N D ⟨us, gs, ks⟩ me (l.map Nr.b) f = ok) : Calls Tryz.prog 19 #[.agg #[.int .i64 N, .int .i64 D], .agg #[vu, vg, va], .int .i64 me, v, .int .i64 f] w (NewP w N D me f (l.map Nr.b) ok) := by
 subst h
 unfold sideB Tb.ok
 dsimp only
 cases hv : vldT N D us gs ks with
 | false => exact new_no0 vu vg va us gs ks N D me f v l w su sg sa u70 g70 k70 sl ho h1000 hfew hv
 | true =>
  cases hm : inB me (N - 1) with
  | false => exact new_no1 vu vg va us gs ks N D me f v l w su sg sa u70 g70 k70 sl ho h1000 hfew hv hm
  | true =>
   cases hf : inB f 999999992 with
   | false => exact new_no2 vu vg va us gs ks N D me f v l w su sg sa u70 g70 k70 sl ho h1000 hfew hv hm hf
   | true => exact new_loop vu vg va us gs ks N D me f v l w su sg sa u70 g70 k70 sl ho h1000 hfew hv hm hf _ rfl
end Go.Proofs.YtmopiifamopidaaGreat
end

/- The walk of CellsValid. -/
import Derived.Test.YtdmadnoijhmbcaaHead12
import Derived.Test.YtdmadnoijhmbcaaRVld12
import Derived.Test.YtdmadnoijhmbcaaLaw12p
import Derived.Test.YtdmadnoijhmbcaaOpen12
import Derived.Test.YtdmadnoijhmbcaaCnt12
namespace Go.Proofs.Ytdmadnoijhmbcaa
open Go.RowKit

theorem own6 {w : World} {b : Nat} {t : TypeId} {x0 x1 x2 x3 x4 x5 : Value} (h : Own w b [x0, x1, x2, x3, x4, x5] t) : w.cell? ⟨b, 0, none⟩ = some x0 ∧ w.cell? ⟨b, 1, none⟩ = some x1 ∧ w.cell? ⟨b, 2, none⟩ = some x2 ∧ w.cell? ⟨b, 3, none⟩ = some x3 ∧ w.cell? ⟨b, 4, none⟩ = some x4 ∧ w.cell? ⟨b, 5, none⟩ = some x5 ∧ (∀ o, w.frozen? ⟨b, o, none⟩ = false) ∧ b < w.heap.size := ⟨h.cell rfl, h.cell rfl, h.cell rfl, h.cell rfl, h.cell rfl, h.cell rfl, h.frozen, h.lt⟩
theorem una_count (s : Int) : ∀ (ks : List Ak), (una s ks).length + ks.countP (fun d => d.s == s) = ks.length
  | [] => rfl
  | a :: ks => by
    have ih := una_count s ks
    unfold una at ih ⊢
    by_cases h : (a.s == s) = true
    · rw [List.filter_cons_of_neg (by simp [h]), List.countP_cons, if_pos h]; simp; omega
    · rw [List.filter_cons_of_pos (by simpa using h), List.countP_cons, if_neg h]; simp; omega
theorem add_counts {N D : Int} {us : List Us} {gs : List Gr} {ks : List Ak} {x : Us} (h : auE N D us gs ks x = 0) :
    mtc eqU us (adU x us) = us.length ∧ mtc eqG gs gs = gs.length ∧ mtc eqA ks (una x.s ks) = (una x.s ks).length := by
  obtain ⟨hv, hx, hb, hl⟩ := auE_ok h
  have hw := val_addU hv hx hb hl
  refine ⟨mtc_all eqU_iff hw.su fun _ hd => mem_insL.2 (Or.inr hd), mtc_all eqG_iff hw.sg fun _ hd => hd, ?_⟩
  rw [mtc_part eqA_iff hw.sa (fun d => !(d.s == x.s)) fun _ hd => by rw [mem_una]; simp [hd], una, List.countP_eq_length_filter]
theorem sub_counts {N D : Int} {us : List Us} {gs : List Gr} {ks : List Ak} (h : Val N D us gs ks) (p : Us → Bool) (q : Gr → Bool) (r : Ak → Bool) :
    mtc eqU (us.filter p) us = (us.filter p).length ∧ mtc eqG (gs.filter q) gs = (gs.filter q).length ∧ mtc eqA (ks.filter r) ks = (ks.filter r).length :=
  ⟨mtc_all eqU_iff h.su fun _ hd => (List.mem_filter.1 hd).1, mtc_all eqG_iff h.sg fun _ hd => (List.mem_filter.1 hd).1, mtc_all eqA_iff h.sa fun _ hd => (List.mem_filter.1 hd).1⟩
theorem exp_counts {N D : Int} {us : List Us} {gs : List Gr} {ks : List Ak} (h : Val N D us gs ks) (q : Gr → Bool) :
    mtc eqU us us = us.length ∧ mtc eqG (gs.filter q) gs = (gs.filter q).length ∧ mtc eqA ks ks = ks.length :=
  ⟨mtc_all eqU_iff h.su fun _ hd => hd, mtc_all eqG_iff h.sg fun _ hd => (List.mem_filter.1 hd).1, mtc_all eqA_iff h.sa fun _ hd => hd⟩
theorem val_expV {N D : Int} {us : List Us} {gs : List Gr} {ks : List Ak} (q : Gr → Bool) (h : Val N D us gs ks) : Val N D us (gs.filter q) ks := by
  have := val_sub (fun _ => true) q (fun _ => true) h
  rwa [filt_all (fun _ _ => rfl), filt_all (fun _ _ => rfl)] at this
theorem any_ins {q : Us → Bool} {x : Us} {l : List Us} (hx : q x = true) : (adU x l).any q = true := List.any_eq_true.2 ⟨x, mem_insL.2 (Or.inl rfl), hx⟩
theorem cntV_snoc {α : Type} {q : α → Bool} {l : List α} {i : Nat} {d : α} (h : l[i]? = some d) : (l.take (i + 1)).countP q = (l.take i).countP q + if q d = true then 1 else 0 := by
  rw [take_snocG h, List.countP_append, List.countP_singleton]
theorem anyV_snoc {α : Type} {q : α → Bool} {l : List α} {i : Nat} {d : α} (h : l[i]? = some d) : (l.take (i + 1)).any q = ((l.take i).any q || q d) := by
  rw [take_snocG h, List.any_append]; simp

set_option linter.unusedSimpArgs false in
set_option linter.unusedVariables false in
set_option maxRecDepth 100000 in
set_option maxHeartbeats 4000000 in
theorem valid_few (vu vg va : Value) (us : List Us) (gs : List Gr) (ks : List Ak) (N D : Int) (x : Us) (zs zo fr : Int) (w : World) (su : SlU w vu us) (sg : SlG w vg gs) (sa : SlA w va ks) (hf : fewB us gs ks = false) : Calls Try.prog 4 #[.agg #[vu, vg, va], .agg #[.int .i64 N, .int .i64 D], .agg #[.int .i64 x.s, .int .i64 x.o, .int .i64 x.p, .int .i64 x.m], .agg #[.int .i64 zs, .int .i64 zo], .int .i64 fr] w fun e w' => e = .returned (.bool true) ∧ Below w.heap.size w w' := by
  obtain ⟨pu, cu, e0, hlu, hcu, _⟩ := su.form us.length rfl
  subst e0
  obtain ⟨pg, cg, e0, hlg, hcg, _⟩ := sg.form gs.length rfl
  subst e0
  obtain ⟨pa, ca, e0, hla, hca, _⟩ := sa.form ks.length rfl
  subst e0
  have SU := Lib.hid su
  have SG := Lib.hid sg
  have SA := Lib.hid sa
  clear su sg sa
  have HF := Lib.hid hf
  clear hf
  go_enter Try.func4, Try.ntmps4
  go_wp2_with fail
  refine (head_true _).mono ?_
  rintro e w1 ⟨rfl, hb⟩
  replace SU := Lib.hid (((((SU.out.below (belowNew _ _)).below (belowNew _ _)).below (belowNew _ _)).below (belowNew _ _)).below hb)
  replace SG := Lib.hid (((((SG.out.below (belowNew _ _)).below (belowNew _ _)).below (belowNew _ _)).below (belowNew _ _)).below hb)
  replace SA := Lib.hid (((((SA.out.below (belowNew _ _)).below (belowNew _ _)).below (belowNew _ _)).below (belowNew _ _)).below hb)
  have oT : Own w1 w.heap.size [.slice pu us.length cu, .slice pg gs.length cg, .slice pa ks.length ca] 26 := ((((own_at _ _ rfl).alloc _).alloc _).alloc _).below hb
  have oL : Own w1 (w.heap.size + 1) [.int .i64 N, .int .i64 D] 28 := (((own_at _ _ (by simp)).alloc _).alloc _).below hb
  have oX : Own w1 (w.heap.size + 1 + 1) [.int .i64 x.s, .int .i64 x.o, .int .i64 x.p, .int .i64 x.m] 32 := ((own_at _ _ (by simp)).alloc _).below hb
  have oC : Own w1 (w.heap.size + 1 + 1 + 1) [.int .i64 zs, .int .i64 zo] 30 := (own_at _ _ (by simp)).below hb
  have bel := belowTo (((((Below.refl w.heap.size w).alloc (by simp) _).alloc (by simp) _).alloc (by simp; omega) _).alloc (by simp; omega) _) hb (by simp; omega)
  clear hb
  obtain ⟨cT0, cT1, cT2, fT, zT⟩ := own3 oT
  obtain ⟨cL0, cL1, fL, zL⟩ := own2 oL
  obtain ⟨cX0, cX1, cX2, cX3, fX, zX⟩ := own4 oX
  obtain ⟨cC0, cC1, fC, zC⟩ := own2 oC
  go_wp2_with fail
  refine (few_lit _ _ _ us gs ks _ SU.out SG.out SA.out false HF.out).mono ?_
  rintro e w2 ⟨rfl, hb⟩
  replace oT := oT.below hb
  replace oL := oL.below hb
  replace oX := oX.below hb
  replace oC := oC.below hb
  replace SU := Lib.hid (SU.out.below hb)
  replace SG := Lib.hid (SG.out.below hb)
  replace SA := Lib.hid (SA.out.below hb)
  replace bel := belowTo bel hb (by exact bel.size)
  clear hb
  clear cT0 cT1 cT2 fT zT cL0 cL1 fL zL cX0 cX1 cX2 cX3 fX zX cC0 cC1 fC zC
  obtain ⟨cT0, cT1, cT2, fT, zT⟩ := own3 oT
  obtain ⟨cL0, cL1, fL, zL⟩ := own2 oL
  obtain ⟨cX0, cX1, cX2, cX3, fX, zX⟩ := own4 oX
  obtain ⟨cC0, cC1, fC, zC⟩ := own2 oC
  go_wp2_with fail
  go_ret
  exact ⟨rfl, bel⟩

set_option linter.unusedSimpArgs false in
set_option linter.unusedVariables false in
set_option maxRecDepth 100000 in
set_option maxHeartbeats 4000000 in
theorem valid_bad (vu vg va : Value) (us : List Us) (gs : List Gr) (ks : List Ak) (N D : Int) (x : Us) (zs zo fr : Int) (w : World) (su : SlU w vu us) (sg : SlG w vg gs) (sa : SlA w va ks) (hf : fewB us gs ks = true) (hv : vldT N D us gs ks = false) : Calls Try.prog 4 #[.agg #[vu, vg, va], .agg #[.int .i64 N, .int .i64 D], .agg #[.int .i64 x.s, .int .i64 x.o, .int .i64 x.p, .int .i64 x.m], .agg #[.int .i64 zs, .int .i64 zo], .int .i64 fr] w fun e w' => e = .returned (.bool true) ∧ Below w.heap.size w w' := by
  have u70 : us.length ≤ 70 := (fewB_iff.1 hf).1
  have g70 : gs.length ≤ 70 := (fewB_iff.1 hf).2.1
  have k70 : ks.length ≤ 70 := (fewB_iff.1 hf).2.2
  obtain ⟨pu, cu, e0, hlu, hcu, _⟩ := su.form us.length rfl
  subst e0
  obtain ⟨pg, cg, e0, hlg, hcg, _⟩ := sg.form gs.length rfl
  subst e0
  obtain ⟨pa, ca, e0, hla, hca, _⟩ := sa.form ks.length rfl
  subst e0
  have SU := Lib.hid su
  have SG := Lib.hid sg
  have SA := Lib.hid sa
  clear su sg sa
  have HF := Lib.hid hf
  have HV := Lib.hid hv
  clear hf hv
  go_enter Try.func4, Try.ntmps4
  go_wp2_with fail
  refine (head_true _).mono ?_
  rintro e w1 ⟨rfl, hb⟩
  replace SU := Lib.hid (((((SU.out.below (belowNew _ _)).below (belowNew _ _)).below (belowNew _ _)).below (belowNew _ _)).below hb)
  replace SG := Lib.hid (((((SG.out.below (belowNew _ _)).below (belowNew _ _)).below (belowNew _ _)).below (belowNew _ _)).below hb)
  replace SA := Lib.hid (((((SA.out.below (belowNew _ _)).below (belowNew _ _)).below (belowNew _ _)).below (belowNew _ _)).below hb)
  have oT : Own w1 w.heap.size [.slice pu us.length cu, .slice pg gs.length cg, .slice pa ks.length ca] 26 := ((((own_at _ _ rfl).alloc _).alloc _).alloc _).below hb
  have oL : Own w1 (w.heap.size + 1) [.int .i64 N, .int .i64 D] 28 := (((own_at _ _ (by simp)).alloc _).alloc _).below hb
  have oX : Own w1 (w.heap.size + 1 + 1) [.int .i64 x.s, .int .i64 x.o, .int .i64 x.p, .int .i64 x.m] 32 := ((own_at _ _ (by simp)).alloc _).below hb
  have oC : Own w1 (w.heap.size + 1 + 1 + 1) [.int .i64 zs, .int .i64 zo] 30 := (own_at _ _ (by simp)).below hb
  have bel := belowTo (((((Below.refl w.heap.size w).alloc (by simp) _).alloc (by simp) _).alloc (by simp; omega) _).alloc (by simp; omega) _) hb (by simp; omega)
  clear hb
  obtain ⟨cT0, cT1, cT2, fT, zT⟩ := own3 oT
  obtain ⟨cL0, cL1, fL, zL⟩ := own2 oL
  obtain ⟨cX0, cX1, cX2, cX3, fX, zX⟩ := own4 oX
  obtain ⟨cC0, cC1, fC, zC⟩ := own2 oC
  go_wp2_with fail
  refine (few_lit _ _ _ us gs ks _ SU.out SG.out SA.out true HF.out).mono ?_
  rintro e w2 ⟨rfl, hb⟩
  replace oT := oT.below hb
  replace oL := oL.below hb
  replace oX := oX.below hb
  replace oC := oC.below hb
  replace SU := Lib.hid (SU.out.below hb)
  replace SG := Lib.hid (SG.out.below hb)
  replace SA := Lib.hid (SA.out.below hb)
  replace bel := belowTo bel hb (by exact bel.size)
  clear hb
  clear cT0 cT1 cT2 fT zT cL0 cL1 fL zL cX0 cX1 cX2 cX3 fX zX cC0 cC1 fC zC
  obtain ⟨cT0, cT1, cT2, fT, zT⟩ := own3 oT
  obtain ⟨cL0, cL1, fL, zL⟩ := own2 oL
  obtain ⟨cX0, cX1, cX2, cX3, fX, zX⟩ := own4 oX
  obtain ⟨cC0, cC1, fC, zC⟩ := own2 oC
  go_wp2_with fail
  refine (rvalid_lit _ _ _ us gs ks N D _ SU.out SG.out SA.out (by omega) (by omega) (by omega) false HV.out).mono ?_
  rintro e w3 ⟨rfl, hb⟩
  replace oT := oT.below hb
  replace oL := oL.below hb
  replace oX := oX.below hb
  replace oC := oC.below hb
  replace SU := Lib.hid (SU.out.below hb)
  replace SG := Lib.hid (SG.out.below hb)
  replace SA := Lib.hid (SA.out.below hb)
  replace bel := belowTo bel hb (by exact bel.size)
  clear hb
  clear cT0 cT1 cT2 fT zT cL0 cL1 fL zL cX0 cX1 cX2 cX3 fX zX cC0 cC1 fC zC
  obtain ⟨cT0, cT1, cT2, fT, zT⟩ := own3 oT
  obtain ⟨cL0, cL1, fL, zL⟩ := own2 oL
  obtain ⟨cX0, cX1, cX2, cX3, fX, zX⟩ := own4 oX
  obtain ⟨cC0, cC1, fC, zC⟩ := own2 oC
  go_wp2_with fail
  go_ret
  exact ⟨rfl, bel⟩

set_option linter.unusedSimpArgs false in
set_option linter.unusedVariables false in
set_option maxRecDepth 100000 in
set_option maxHeartbeats 4000000 in
theorem valid_no (vu vg va : Value) (us : List Us) (gs : List Gr) (ks : List Ak) (N D : Int) (x : Us) (zs zo fr : Int) (w : World) (su : SlU w vu us) (sg : SlG w vg gs) (sa : SlA w va ks) (hf : fewB us gs ks = true) (hv : vldT N D us gs ks = true) (E : Int) (he : auE N D us gs ks x = E) (hn : ¬ E = 0) : Calls Try.prog 4 #[.agg #[vu, vg, va], .agg #[.int .i64 N, .int .i64 D], .agg #[.int .i64 x.s, .int .i64 x.o, .int .i64 x.p, .int .i64 x.m], .agg #[.int .i64 zs, .int .i64 zo], .int .i64 fr] w fun e w' => e = .returned (.bool true) ∧ Below w.heap.size w w' := by
  have u70 : us.length ≤ 70 := (fewB_iff.1 hf).1
  have g70 : gs.length ≤ 70 := (fewB_iff.1 hf).2.1
  have k70 : ks.length ≤ 70 := (fewB_iff.1 hf).2.2
  have HVL := Lib.hid (vld_iff.1 hv)
  obtain ⟨pu, cu, e0, hlu, hcu, _⟩ := su.form us.length rfl
  subst e0
  obtain ⟨pg, cg, e0, hlg, hcg, _⟩ := sg.form gs.length rfl
  subst e0
  obtain ⟨pa, ca, e0, hla, hca, _⟩ := sa.form ks.length rfl
  subst e0
  have SU := Lib.hid su
  have SG := Lib.hid sg
  have SA := Lib.hid sa
  clear su sg sa
  have iu0 : (0 : Int) ≤ (us.length : Int) := Int.natCast_nonneg _
  have ig0 : (0 : Int) ≤ (gs.length : Int) := Int.natCast_nonneg _
  have ia0 : (0 : Int) ≤ (ks.length : Int) := Int.natCast_nonneg _
  have iu : (us.length : Int) ≤ 70 := by omega
  have ig : (gs.length : Int) ≤ 70 := by omega
  have ia : (ks.length : Int) ≤ 70 := by omega
  have HF := Lib.hid hf
  have HV := Lib.hid hv
  have HE := Lib.hid he
  clear hf hv he
  have hn1 : (E != 0) = true := by simpa using hn
  have hn2 : (E == 0) = false := by simpa using hn
  go_enter Try.func4, Try.ntmps4
  go_wp2_with fail
  refine (head_true _).mono ?_
  rintro e w1 ⟨rfl, hb⟩
  replace SU := Lib.hid (((((SU.out.below (belowNew _ _)).below (belowNew _ _)).below (belowNew _ _)).below (belowNew _ _)).below hb)
  replace SG := Lib.hid (((((SG.out.below (belowNew _ _)).below (belowNew _ _)).below (belowNew _ _)).below (belowNew _ _)).below hb)
  replace SA := Lib.hid (((((SA.out.below (belowNew _ _)).below (belowNew _ _)).below (belowNew _ _)).below (belowNew _ _)).below hb)
  have oT : Own w1 w.heap.size [.slice pu us.length cu, .slice pg gs.length cg, .slice pa ks.length ca] 26 := ((((own_at _ _ rfl).alloc _).alloc _).alloc _).below hb
  have oL : Own w1 (w.heap.size + 1) [.int .i64 N, .int .i64 D] 28 := (((own_at _ _ (by simp)).alloc _).alloc _).below hb
  have oX : Own w1 (w.heap.size + 1 + 1) [.int .i64 x.s, .int .i64 x.o, .int .i64 x.p, .int .i64 x.m] 32 := ((own_at _ _ (by simp)).alloc _).below hb
  have oC : Own w1 (w.heap.size + 1 + 1 + 1) [.int .i64 zs, .int .i64 zo] 30 := (own_at _ _ (by simp)).below hb
  have bel := belowTo (((((Below.refl w.heap.size w).alloc (by simp) _).alloc (by simp) _).alloc (by simp; omega) _).alloc (by simp; omega) _) hb (by simp; omega)
  clear hb
  obtain ⟨cT0, cT1, cT2, fT, zT⟩ := own3 oT
  obtain ⟨cL0, cL1, fL, zL⟩ := own2 oL
  obtain ⟨cX0, cX1, cX2, cX3, fX, zX⟩ := own4 oX
  obtain ⟨cC0, cC1, fC, zC⟩ := own2 oC
  go_wp2_with fail
  refine (few_lit _ _ _ us gs ks _ SU.out SG.out SA.out true HF.out).mono ?_
  rintro e w2 ⟨rfl, hb⟩
  replace oT := oT.below hb
  replace oL := oL.below hb
  replace oX := oX.below hb
  replace oC := oC.below hb
  replace SU := Lib.hid (SU.out.below hb)
  replace SG := Lib.hid (SG.out.below hb)
  replace SA := Lib.hid (SA.out.below hb)
  replace bel := belowTo bel hb (by exact bel.size)
  clear hb
  clear cT0 cT1 cT2 fT zT cL0 cL1 fL zL cX0 cX1 cX2 cX3 fX zX cC0 cC1 fC zC
  obtain ⟨cT0, cT1, cT2, fT, zT⟩ := own3 oT
  obtain ⟨cL0, cL1, fL, zL⟩ := own2 oL
  obtain ⟨cX0, cX1, cX2, cX3, fX, zX⟩ := own4 oX
  obtain ⟨cC0, cC1, fC, zC⟩ := own2 oC
  go_wp2_with fail
  refine (rvalid_lit _ _ _ us gs ks N D _ SU.out SG.out SA.out (by omega) (by omega) (by omega) true HV.out).mono ?_
  rintro e w3 ⟨rfl, hb⟩
  replace oT := oT.below hb
  replace oL := oL.below hb
  replace oX := oX.below hb
  replace oC := oC.below hb
  replace SU := Lib.hid (SU.out.below hb)
  replace SG := Lib.hid (SG.out.below hb)
  replace SA := Lib.hid (SA.out.below hb)
  replace bel := belowTo bel hb (by exact bel.size)
  clear hb
  clear cT0 cT1 cT2 fT zT cL0 cL1 fL zL cX0 cX1 cX2 cX3 fX zX cC0 cC1 fC zC
  obtain ⟨cT0, cT1, cT2, fT, zT⟩ := own3 oT
  obtain ⟨cL0, cL1, fL, zL⟩ := own2 oL
  obtain ⟨cX0, cX1, cX2, cX3, fX, zX⟩ := own4 oX
  obtain ⟨cC0, cC1, fC, zC⟩ := own2 oC
  go_wp2_with fail
  have OTk0 := Lib.hid oT.drew
  have OLk0 := Lib.hid oL.drew
  have OXk0 := Lib.hid oX.drew
  have OCk0 := Lib.hid oC.drew
  have BBk0 := Lib.hid bel.drew
  have SUk0 := Lib.hid (SU.out.below (Below.refl _ _).drew)
  have SGk0 := Lib.hid (SG.out.below (Below.refl _ _).drew)
  have SAk0 := Lib.hid (SA.out.below (Below.refl _ _).drew)
  clear oT cT0 cT1 cT2 fT zT oL cL0 cL1 fL zL oX cX0 cX1 cX2 cX3 fX zX oC cC0 cC1 fC zC
  clear bel SU SG SA
  obtain ⟨hTk00, hTk01, hTk02, _, _⟩ := own3 OTk0.out
  obtain ⟨hLk00, hLk01, _, _⟩ := own2 OLk0.out
  obtain ⟨hXk00, hXk01, hXk02, hXk03, _, _⟩ := own4 OXk0.out
  obtain ⟨hCk00, hCk01, _, _⟩ := own2 OCk0.out
  refine region_H 9 #[false, false, false, false, false, false, false, false, false] (by kernel_rfl) (by kernel_rfl) (fun w' => w'.cell? ⟨w.heap.size, 0, none⟩ = some (.slice pu us.length cu) ∧ w'.cell? ⟨w.heap.size, 1, none⟩ = some (.slice pg gs.length cg) ∧ w'.cell? ⟨w.heap.size, 2, none⟩ = some (.slice pa ks.length ca) ∧ w'.cell? ⟨w.heap.size + 1 + 1 + 1, 0, none⟩ = some (.int .i64 zs) ∧ w'.cell? ⟨w.heap.size + 1 + 1 + 1, 1, none⟩ = some (.int .i64 zo)) (by kernel_rfl) ?x1s (fun hHeld => ?x1r)
  case x1s => exact ⟨hTk00, hTk01, hTk02, hCk00, hCk01⟩
  refine wpH_take (i := 0) (some 39) (v := ?x2v) rfl (by kernel_rfl) (by kernel_rfl) (by kernel_rfl) rfl (fun _ _ _ h => h) (Or.inl ⟨by rfl, ?x2y⟩) hHeld ?x2r
  case x2y => (intro w hSw; (try dsimp only at hSw); go_simp; try with_reducible rfl)
  try simp only [Act.put, List.setIfInBounds_toArray, List.set_cons_zero, List.set_cons_succ]
  refine wpH_take (i := 1) (some 40) (v := ?x3v) rfl (by kernel_rfl) (by kernel_rfl) (by kernel_rfl) rfl (fun _ _ _ h => h) (Or.inl ⟨by rfl, ?x3y⟩) hHeld ?x3r
  case x3y => (intro w hSw; (try dsimp only at hSw); go_simp; try with_reducible rfl)
  try simp only [Act.put, List.setIfInBounds_toArray, List.set_cons_zero, List.set_cons_succ]
  refine wpH_take (i := 3) (some 42) (v := ?x4v) rfl (by kernel_rfl) (by kernel_rfl) (by kernel_rfl) rfl (fun _ _ _ h => h) (Or.inl ⟨by rfl, ?x4y⟩) hHeld ?x4r
  case x4y => (intro w hSw; (try dsimp only at hSw); go_simp; try with_reducible rfl)
  try simp only [Act.put, List.setIfInBounds_toArray, List.set_cons_zero, List.set_cons_succ]
  refine wpH_take (i := 4) (some 43) (v := ?x5v) rfl (by kernel_rfl) (by kernel_rfl) (by kernel_rfl) rfl (fun _ _ _ h => h) (Or.inl ⟨by rfl, ?x5y⟩) hHeld ?x5r
  case x5y => (intro w hSw; (try dsimp only at hSw); go_simp; try with_reducible rfl)
  try simp only [Act.put, List.setIfInBounds_toArray, List.set_cons_zero, List.set_cons_succ]
  refine wpH_take (i := 8) (some 47) (v := ?x6v) rfl (by kernel_rfl) (by kernel_rfl) (by kernel_rfl) rfl (fun _ _ _ h => h) (Or.inl ⟨by rfl, ?x6y⟩) hHeld ?x6r
  case x6y => (intro w hSw; (try dsimp only at hSw); go_simp; try with_reducible rfl)
  try simp only [Act.put, List.setIfInBounds_toArray, List.set_cons_zero, List.set_cons_succ]
  refine wpH_one (i := 2) (by kernel_rfl) rfl (fun K hK => ?_)
  rw [if_pos (by rfl)]
  go_simp
  refine (drop_any _ _ _ us gs ks zs zo _ SUk0.out SGk0.out SAk0.out (by omega) (by omega) (by omega)).mono ?_
  rintro e wk1 ⟨vx1, vx2, vx3, rfl, z1, z2, z3, hbb⟩
  have XUk1 := Lib.hid (z1)
  obtain ⟨pvx1, nvx1, cvx1, f0⟩ := XUk1.out.slc
  subst f0
  have XGk1 := Lib.hid (z2)
  obtain ⟨pvx2, nvx2, cvx2, f0⟩ := XGk1.out.slc
  subst f0
  have XAk1 := Lib.hid (z3)
  obtain ⟨pvx3, nvx3, cvx3, f0⟩ := XAk1.out.slc
  subst f0
  have OTk1 := Lib.hid (OTk0.out.below hbb)
  have OLk1 := Lib.hid (OLk0.out.below hbb)
  have OXk1 := Lib.hid (OXk0.out.below hbb)
  have OCk1 := Lib.hid (OCk0.out.below hbb)
  have SUk1 := Lib.hid (SUk0.out.below hbb)
  have SGk1 := Lib.hid (SGk0.out.below hbb)
  have SAk1 := Lib.hid (SAk0.out.below hbb)
  have BBk1 := Lib.hid (belowTo BBk0.out hbb BBk0.out.size)
  clear hbb OTk0 OLk0 OXk0 OCk0 SUk0 SGk0 SAk0 BBk0 hTk00 hTk01 hTk02 hLk00 hLk01 hXk00 hXk01 hXk02 hXk03 hCk00 hCk01
  obtain ⟨hTk10, hTk11, hTk12, _, _⟩ := own3 OTk1.out
  obtain ⟨hLk10, hLk11, _, _⟩ := own2 OLk1.out
  obtain ⟨hXk10, hXk11, hXk12, hXk13, _, _⟩ := own4 OXk1.out
  obtain ⟨hCk10, hCk11, _, _⟩ := own2 OCk1.out
  refine hK.out _ _ (⟨hTk10, hTk11, hTk12, hCk10, hCk11⟩) ?_
  clear hK K hHeld
  intro hHeld
  try simp only [Act.put, List.setIfInBounds_toArray, List.set_cons_zero, List.set_cons_succ]
  refine wpH_one (i := 5) (by kernel_rfl) rfl (fun K hK => ?_)
  rw [if_pos (by rfl)]
  go_simp
  refine (exp_any _ _ _ us gs ks fr _ SUk1.out SGk1.out SAk1.out (by omega) (by omega) (by omega)).mono ?_
  rintro e wk2 ⟨vy1, vy2, vy3, rfl, z1, z2, z3, hbb⟩
  have YUk2 := Lib.hid (z1)
  obtain ⟨pvy1, nvy1, cvy1, f0⟩ := YUk2.out.slc
  subst f0
  have YGk2 := Lib.hid (z2)
  obtain ⟨pvy2, nvy2, cvy2, f0⟩ := YGk2.out.slc
  subst f0
  have YAk2 := Lib.hid (z3)
  obtain ⟨pvy3, nvy3, cvy3, f0⟩ := YAk2.out.slc
  subst f0
  have OTk2 := Lib.hid (OTk1.out.below hbb)
  have OLk2 := Lib.hid (OLk1.out.below hbb)
  have OXk2 := Lib.hid (OXk1.out.below hbb)
  have OCk2 := Lib.hid (OCk1.out.below hbb)
  have SUk2 := Lib.hid (SUk1.out.below hbb)
  have SGk2 := Lib.hid (SGk1.out.below hbb)
  have SAk2 := Lib.hid (SAk1.out.below hbb)
  have XUk2 := Lib.hid (XUk1.out.below hbb)
  have XGk2 := Lib.hid (XGk1.out.below hbb)
  have XAk2 := Lib.hid (XAk1.out.below hbb)
  have BBk2 := Lib.hid (belowTo BBk1.out hbb BBk1.out.size)
  clear hbb OTk1 OLk1 OXk1 OCk1 SUk1 SGk1 SAk1 XUk1 XGk1 XAk1 BBk1 hTk10 hTk11 hTk12 hLk10 hLk11 hXk10 hXk11 hXk12 hXk13 hCk10 hCk11
  obtain ⟨hTk20, hTk21, hTk22, _, _⟩ := own3 OTk2.out
  obtain ⟨hLk20, hLk21, _, _⟩ := own2 OLk2.out
  obtain ⟨hXk20, hXk21, hXk22, hXk23, _, _⟩ := own4 OXk2.out
  obtain ⟨hCk20, hCk21, _, _⟩ := own2 OCk2.out
  refine hK.out _ _ (⟨hTk20, hTk21, hTk22, hCk20, hCk21⟩) ?_
  clear hK K hHeld
  intro hHeld
  try simp only [Act.put, List.setIfInBounds_toArray, List.set_cons_zero, List.set_cons_succ]
  refine wpH_one (i := 6) (by kernel_rfl) rfl (fun K hK => ?_)
  rw [if_pos (by rfl)]
  go_simp
  have OBk3 := Lib.hid (own_at (w := wk2) [.slice pvx1 nvx1 cvx1, .slice pvx2 nvx2 cvx2, .slice pvx3 nvx3 cvx3, .slice pvy1 nvy1 cvy1, .slice pvy2 nvy2 cvy2, .slice pvy3 nvy3 cvy3] 26 rfl)
  have OTk3 := Lib.hid (OTk2.out.alloc (.cells #[.slice pvx1 nvx1 cvx1, .slice pvx2 nvx2 cvx2, .slice pvx3 nvx3 cvx3, .slice pvy1 nvy1 cvy1, .slice pvy2 nvy2 cvy2, .slice pvy3 nvy3 cvy3] 26))
  have OLk3 := Lib.hid (OLk2.out.alloc (.cells #[.slice pvx1 nvx1 cvx1, .slice pvx2 nvx2 cvx2, .slice pvx3 nvx3 cvx3, .slice pvy1 nvy1 cvy1, .slice pvy2 nvy2 cvy2, .slice pvy3 nvy3 cvy3] 26))
  have OXk3 := Lib.hid (OXk2.out.alloc (.cells #[.slice pvx1 nvx1 cvx1, .slice pvx2 nvx2 cvx2, .slice pvx3 nvx3 cvx3, .slice pvy1 nvy1 cvy1, .slice pvy2 nvy2 cvy2, .slice pvy3 nvy3 cvy3] 26))
  have OCk3 := Lib.hid (OCk2.out.alloc (.cells #[.slice pvx1 nvx1 cvx1, .slice pvx2 nvx2 cvx2, .slice pvx3 nvx3 cvx3, .slice pvy1 nvy1 cvy1, .slice pvy2 nvy2 cvy2, .slice pvy3 nvy3 cvy3] 26))
  have SUk3 := Lib.hid (SUk2.out.below (belowNew _ (.cells #[.slice pvx1 nvx1 cvx1, .slice pvx2 nvx2 cvx2, .slice pvx3 nvx3 cvx3, .slice pvy1 nvy1 cvy1, .slice pvy2 nvy2 cvy2, .slice pvy3 nvy3 cvy3] 26)))
  have SGk3 := Lib.hid (SGk2.out.below (belowNew _ (.cells #[.slice pvx1 nvx1 cvx1, .slice pvx2 nvx2 cvx2, .slice pvx3 nvx3 cvx3, .slice pvy1 nvy1 cvy1, .slice pvy2 nvy2 cvy2, .slice pvy3 nvy3 cvy3] 26)))
  have SAk3 := Lib.hid (SAk2.out.below (belowNew _ (.cells #[.slice pvx1 nvx1 cvx1, .slice pvx2 nvx2 cvx2, .slice pvx3 nvx3 cvx3, .slice pvy1 nvy1 cvy1, .slice pvy2 nvy2 cvy2, .slice pvy3 nvy3 cvy3] 26)))
  have XUk3 := Lib.hid (XUk2.out.below (belowNew _ (.cells #[.slice pvx1 nvx1 cvx1, .slice pvx2 nvx2 cvx2, .slice pvx3 nvx3 cvx3, .slice pvy1 nvy1 cvy1, .slice pvy2 nvy2 cvy2, .slice pvy3 nvy3 cvy3] 26)))
  have XGk3 := Lib.hid (XGk2.out.below (belowNew _ (.cells #[.slice pvx1 nvx1 cvx1, .slice pvx2 nvx2 cvx2, .slice pvx3 nvx3 cvx3, .slice pvy1 nvy1 cvy1, .slice pvy2 nvy2 cvy2, .slice pvy3 nvy3 cvy3] 26)))
  have XAk3 := Lib.hid (XAk2.out.below (belowNew _ (.cells #[.slice pvx1 nvx1 cvx1, .slice pvx2 nvx2 cvx2, .slice pvx3 nvx3 cvx3, .slice pvy1 nvy1 cvy1, .slice pvy2 nvy2 cvy2, .slice pvy3 nvy3 cvy3] 26)))
  have YUk3 := Lib.hid (YUk2.out.below (belowNew _ (.cells #[.slice pvx1 nvx1 cvx1, .slice pvx2 nvx2 cvx2, .slice pvx3 nvx3 cvx3, .slice pvy1 nvy1 cvy1, .slice pvy2 nvy2 cvy2, .slice pvy3 nvy3 cvy3] 26)))
  have YGk3 := Lib.hid (YGk2.out.below (belowNew _ (.cells #[.slice pvx1 nvx1 cvx1, .slice pvx2 nvx2 cvx2, .slice pvx3 nvx3 cvx3, .slice pvy1 nvy1 cvy1, .slice pvy2 nvy2 cvy2, .slice pvy3 nvy3 cvy3] 26)))
  have YAk3 := Lib.hid (YAk2.out.below (belowNew _ (.cells #[.slice pvx1 nvx1 cvx1, .slice pvx2 nvx2 cvx2, .slice pvx3 nvx3 cvx3, .slice pvy1 nvy1 cvy1, .slice pvy2 nvy2 cvy2, .slice pvy3 nvy3 cvy3] 26)))
  have BBk3 := Lib.hid (BBk2.out.alloc BBk2.out.size (.cells #[.slice pvx1 nvx1 cvx1, .slice pvx2 nvx2 cvx2, .slice pvx3 nvx3 cvx3, .slice pvy1 nvy1 cvy1, .slice pvy2 nvy2 cvy2, .slice pvy3 nvy3 cvy3] 26))
  obtain ⟨bB, hbB⟩ : ∃ bB, wk2.heap.size = bB := ⟨_, rfl⟩
  rw [hbB] at OBk3
  try rw [hbB]
  clear hbB
  generalize wk2.alloc (.cells #[.slice pvx1 nvx1 cvx1, .slice pvx2 nvx2 cvx2, .slice pvx3 nvx3 cvx3, .slice pvy1 nvy1 cvy1, .slice pvy2 nvy2 cvy2, .slice pvy3 nvy3 cvy3] 26) = wk3 at OBk3 OTk3 OLk3 OXk3 OCk3 SUk3 SGk3 SAk3 XUk3 XGk3 XAk3 YUk3 YGk3 YAk3 BBk3 ⊢
  clear OTk2 OLk2 OXk2 OCk2 SUk2 SGk2 SAk2 XUk2 XGk2 XAk2 YUk2 YGk2 YAk2 BBk2 hTk20 hTk21 hTk22 hLk20 hLk21 hXk20 hXk21 hXk22 hXk23 hCk20 hCk21
  obtain ⟨hTk30, hTk31, hTk32, _, _⟩ := own3 OTk3.out
  obtain ⟨hLk30, hLk31, _, _⟩ := own2 OLk3.out
  obtain ⟨hXk30, hXk31, hXk32, hXk33, _, _⟩ := own4 OXk3.out
  obtain ⟨hCk30, hCk31, _, _⟩ := own2 OCk3.out
  refine hK.out _ _ (⟨hTk30, hTk31, hTk32, hCk30, hCk31⟩) ?_
  clear hK K hHeld
  intro hHeld
  try simp only [Act.put, List.setIfInBounds_toArray, List.set_cons_zero, List.set_cons_succ]
  refine wpH_take (i := 7) (some 46) (v := ?x10v) rfl (by kernel_rfl) (by kernel_rfl) (by kernel_rfl) rfl (fun _ _ _ h => h) (Or.inl ⟨by rfl, ?x10y⟩) hHeld ?x10r
  case x10y => (intro w hSw; (try dsimp only at hSw); go_simp; try with_reducible rfl)
  try simp only [Act.put, List.setIfInBounds_toArray, List.set_cons_zero, List.set_cons_succ]
  refine wpAnyH_done (by kernel_rfl) ?_ _
  have oT := OTk3.out
  have oL := OLk3.out
  have oX := OXk3.out
  have oC := OCk3.out
  have bel := BBk3.out
  have SU := SUk3
  have SG := SGk3
  have SA := SAk3
  have XU := XUk3
  have XG := XGk3
  have XA := XAk3
  have YU := YUk3
  have YG := YGk3
  have YA := YAk3
  clear OTk3 OLk3 OXk3 OCk3 BBk3 SUk3 SGk3 SAk3 XUk3 XGk3 XAk3 YUk3 YGk3 YAk3 hTk30 hTk31 hTk32 hLk30 hLk31 hXk30 hXk31 hXk32 hXk33 hCk30 hCk31
  obtain ⟨cT0, cT1, cT2, fT, zT⟩ := own3 oT
  obtain ⟨cL0, cL1, fL, zL⟩ := own2 oL
  obtain ⟨cX0, cX1, cX2, cX3, fX, zX⟩ := own4 oX
  obtain ⟨cC0, cC1, fC, zC⟩ := own2 oC
  have OBh := OBk3
  have OTh := Lib.hid oT
  have OLh := Lib.hid oL
  have OXh := Lib.hid oX
  have BLh := Lib.hid bel
  clear oT oL oX oC bel
  go_wp2_with fail
  obtain ⟨b0, b1, b2, b3, b4, b5, _, _⟩ := own6 OBh.out
  go_loopw [47] (fun ii wz => ∃ (i : Nat), i ≤ 2 ∧ ii = .int .i64 i ∧ Below wk3.heap.size wk3 wz) (fun i _ => 2 - (intOf i).toNat)
  case atStart => exact ⟨0, by omega, rfl, Below.refl _ _⟩
  case round =>
    rename World => wr
    clear b0 b1 b2 b3 b4 b5 cT0 cT1 cT2 fT zT cL0 cL1 fL zL cX0 cX1 cX2 cX3 fX zX cC0 cC1 fC zC
    obtain ⟨i, hi, rfl, hbe⟩ := hrel
    have BE := Lib.hid hbe
    clear hbe
    have j0 : (0 : Int) ≤ (i : Int) := Int.natCast_nonneg _
    have OBr := Lib.hid (OBh.out.below BE.out)
    have OTr := Lib.hid (OTh.out.below BE.out)
    have OLr := Lib.hid (OLh.out.below BE.out)
    obtain ⟨b0, b1, b2, b3, b4, b5, _, _⟩ := own6 OBr.out
    obtain ⟨t0, t1, t2, fT, zT⟩ := own3 OTr.out
    obtain ⟨y0, y1, fL, zL⟩ := own2 OLr.out
    by_cases hlt : i < 2
    · rcases (show i = 0 ∨ i = 1 by omega) with rfl | rfl
      · obtain ⟨UU, hUU⟩ : ∃ UU, UU = (us.filter (fun d => !(d.s == zs && d.o == zo))) := ⟨_, rfl⟩
        obtain ⟨GG, hGG⟩ : ∃ GG, GG = (gs.filter (fun d => !(d.s == zs && d.o == zo))) := ⟨_, rfl⟩
        obtain ⟨AA, hAA⟩ : ∃ AA, AA = (ks.filter (fun d => !(d.s == zs && d.o == zo))) := ⟨_, rfl⟩
        have VN := Lib.hid (show Val N D UU GG AA from by rw [hUU, hGG, hAA]; exact val_sub _ _ _ HVL.out)
        have CN := Lib.hid (show mtc eqU UU us = UU.length ∧ mtc eqG GG gs = GG.length ∧ mtc eqA AA ks = AA.length from by rw [hUU, hGG, hAA]; exact sub_counts HVL.out _ _ _)
        have TU := Lib.hid (show SlU wk3 (.slice pvx1 nvx1 cvx1) UU from by rw [hUU]; exact XU.out)
        have TG := Lib.hid (show SlG wk3 (.slice pvx2 nvx2 cvx2) GG from by rw [hGG]; exact XG.out)
        have TA := Lib.hid (show SlA wk3 (.slice pvx3 nvx3 cvx3) AA from by rw [hAA]; exact XA.out)
        clear hUU hGG hAA
        have hn24 := VN.out.n24
        have hk24 := VN.out.k24
        have e1 := TU.out.form UU.length rfl
        obtain ⟨_, _, f0, _, _, _⟩ := e1
        injection f0 with f1 f2 f3
        subst f2
        clear f1 f3
        have e1 := TG.out.form GG.length rfl
        obtain ⟨_, _, f0, _, _, _⟩ := e1
        injection f0 with f1 f2 f3
        subst f2
        clear f1 f3
        have e1 := TA.out.form AA.length rfl
        obtain ⟨_, _, f0, _, _, _⟩ := e1
        injection f0 with f1 f2 f3
        subst f2
        clear f1 f3
        have OTa := Lib.hid (OTr.out.alloc (.cells #[.slice pvx1 UU.length cvx1, .slice pvx2 GG.length cvx2, .slice pvx3 AA.length cvx3] 26))
        have OLa := Lib.hid (OLr.out.alloc (.cells #[.slice pvx1 UU.length cvx1, .slice pvx2 GG.length cvx2, .slice pvx3 AA.length cvx3] 26))
        have OEa := Lib.hid (own_at (w := wr) [.slice pvx1 UU.length cvx1, .slice pvx2 GG.length cvx2, .slice pvx3 AA.length cvx3] 26 rfl)
        have Ba := Lib.hid (BE.out.alloc BE.out.size (.cells #[.slice pvx1 UU.length cvx1, .slice pvx2 GG.length cvx2, .slice pvx3 AA.length cvx3] 26))
        have iuu : (0 : Int) ≤ (UU.length : Int) := Int.natCast_nonneg _
        have igg : (0 : Int) ≤ (GG.length : Int) := Int.natCast_nonneg _
        have iaa : (0 : Int) ≤ (AA.length : Int) := Int.natCast_nonneg _
        go_wp2_with fail
        refine (counts_lit _ _ _ _ _ _ UU us GG gs AA ks _ (TU.out.below Ba.out) (TG.out.below Ba.out) (TA.out.below Ba.out) (SU.out.below Ba.out) (SG.out.below Ba.out) (SA.out.below Ba.out) (by omega) (by omega) (by omega) (by omega) (by omega) (by omega) UU.length GG.length AA.length CN.out.1 CN.out.2.1 CN.out.2.2).mono ?_
        rintro e w4 ⟨rfl, hb⟩
        have OT4 := Lib.hid (OTa.out.below hb)
        have OL4 := Lib.hid (OLa.out.below hb)
        have OE4 := Lib.hid (OEa.out.below hb)
        have B4 := Lib.hid (belowTo Ba.out hb Ba.out.size)
        clear hb OTa OLa OEa Ba t0 t1 t2 fT zT y0 y1 fL zL b0 b1 b2 b3 b4 b5
        obtain ⟨t0, t1, t2, fT, zT⟩ := own3 OT4.out
        obtain ⟨y0, y1, fL, zL⟩ := own2 OL4.out
        obtain ⟨e0, e1, e2, fE, zE⟩ := own3 OE4.out
        go_wp2_with fail
        refine (rvalid_lit _ _ _ UU GG AA N D _ (TU.out.below B4.out) (TG.out.below B4.out) (TA.out.below B4.out) (by omega) (by omega) (by omega) true (vld_iff.2 VN.out)).mono ?_
        rintro e w5 ⟨rfl, hb⟩
        have OE5 := Lib.hid (OE4.out.below hb)
        have B5 := Lib.hid (belowTo B4.out hb B4.out.size)
        clear hb t0 t1 t2 fT zT y0 y1 fL zL e0 e1 e2 fE zE
        obtain ⟨e0, e1, e2, fE, zE⟩ := own3 OE5.out
        go_wp2_with fail
        go_roundw
        case rel => exact ⟨1, by omega, by go_num, B5.out⟩
        case measure => simp [intOf]
      · obtain ⟨UU, hUU⟩ : ∃ UU, UU = us := ⟨_, rfl⟩
        obtain ⟨GG, hGG⟩ : ∃ GG, GG = (gs.filter (fun d => !decide (d.u < fr))) := ⟨_, rfl⟩
        obtain ⟨AA, hAA⟩ : ∃ AA, AA = ks := ⟨_, rfl⟩
        have VN := Lib.hid (show Val N D UU GG AA from by rw [hUU, hGG, hAA]; exact val_expV _ HVL.out)
        have CN := Lib.hid (show mtc eqU UU us = UU.length ∧ mtc eqG GG gs = GG.length ∧ mtc eqA AA ks = AA.length from by rw [hUU, hGG, hAA]; exact exp_counts HVL.out _)
        have TU := Lib.hid (show SlU wk3 (.slice pvy1 nvy1 cvy1) UU from by rw [hUU]; exact YU.out)
        have TG := Lib.hid (show SlG wk3 (.slice pvy2 nvy2 cvy2) GG from by rw [hGG]; exact YG.out)
        have TA := Lib.hid (show SlA wk3 (.slice pvy3 nvy3 cvy3) AA from by rw [hAA]; exact YA.out)
        clear hUU hGG hAA
        have hn24 := VN.out.n24
        have hk24 := VN.out.k24
        have e1 := TU.out.form UU.length rfl
        obtain ⟨_, _, f0, _, _, _⟩ := e1
        injection f0 with f1 f2 f3
        subst f2
        clear f1 f3
        have e1 := TG.out.form GG.length rfl
        obtain ⟨_, _, f0, _, _, _⟩ := e1
        injection f0 with f1 f2 f3
        subst f2
        clear f1 f3
        have e1 := TA.out.form AA.length rfl
        obtain ⟨_, _, f0, _, _, _⟩ := e1
        injection f0 with f1 f2 f3
        subst f2
        clear f1 f3
        have OTa := Lib.hid (OTr.out.alloc (.cells #[.slice pvy1 UU.length cvy1, .slice pvy2 GG.length cvy2, .slice pvy3 AA.length cvy3] 26))
        have OLa := Lib.hid (OLr.out.alloc (.cells #[.slice pvy1 UU.length cvy1, .slice pvy2 GG.length cvy2, .slice pvy3 AA.length cvy3] 26))
        have OEa := Lib.hid (own_at (w := wr) [.slice pvy1 UU.length cvy1, .slice pvy2 GG.length cvy2, .slice pvy3 AA.length cvy3] 26 rfl)
        have Ba := Lib.hid (BE.out.alloc BE.out.size (.cells #[.slice pvy1 UU.length cvy1, .slice pvy2 GG.length cvy2, .slice pvy3 AA.length cvy3] 26))
        have iuu : (0 : Int) ≤ (UU.length : Int) := Int.natCast_nonneg _
        have igg : (0 : Int) ≤ (GG.length : Int) := Int.natCast_nonneg _
        have iaa : (0 : Int) ≤ (AA.length : Int) := Int.natCast_nonneg _
        go_wp2_with fail
        refine (counts_lit _ _ _ _ _ _ UU us GG gs AA ks _ (TU.out.below Ba.out) (TG.out.below Ba.out) (TA.out.below Ba.out) (SU.out.below Ba.out) (SG.out.below Ba.out) (SA.out.below Ba.out) (by omega) (by omega) (by omega) (by omega) (by omega) (by omega) UU.length GG.length AA.length CN.out.1 CN.out.2.1 CN.out.2.2).mono ?_
        rintro e w4 ⟨rfl, hb⟩
        have OT4 := Lib.hid (OTa.out.below hb)
        have OL4 := Lib.hid (OLa.out.below hb)
        have OE4 := Lib.hid (OEa.out.below hb)
        have B4 := Lib.hid (belowTo Ba.out hb Ba.out.size)
        clear hb OTa OLa OEa Ba t0 t1 t2 fT zT y0 y1 fL zL b0 b1 b2 b3 b4 b5
        obtain ⟨t0, t1, t2, fT, zT⟩ := own3 OT4.out
        obtain ⟨y0, y1, fL, zL⟩ := own2 OL4.out
        obtain ⟨e0, e1, e2, fE, zE⟩ := own3 OE4.out
        go_wp2_with fail
        refine (rvalid_lit _ _ _ UU GG AA N D _ (TU.out.below B4.out) (TG.out.below B4.out) (TA.out.below B4.out) (by omega) (by omega) (by omega) true (vld_iff.2 VN.out)).mono ?_
        rintro e w5 ⟨rfl, hb⟩
        have OE5 := Lib.hid (OE4.out.below hb)
        have B5 := Lib.hid (belowTo B4.out hb B4.out.size)
        clear hb t0 t1 t2 fT zT y0 y1 fL zL e0 e1 e2 fE zE
        obtain ⟨e0, e1, e2, fE, zE⟩ := own3 OE5.out
        go_wp2_with fail
        go_roundw
        case rel => exact ⟨2, by omega, by go_num, B5.out⟩
        case measure => simp [intOf]
    · obtain rfl : i = 2 := by omega
      have oT := OTr.out
      have oL := OLr.out
      have oX := OXh.out.below BE.out
      have bel := belowTo BLh.out BE.out BLh.out.size
      clear b0 b1 b2 b3 b4 b5 t0 t1 t2 fT zT y0 y1 fL zL OBr OTr OLr XU XG XA YU YG YA
      replace SU := Lib.hid (SU.out.below BE.out)
      replace SG := Lib.hid (SG.out.below BE.out)
      replace SA := Lib.hid (SA.out.below BE.out)
      obtain ⟨cT0, cT1, cT2, fT, zT⟩ := own3 oT
      obtain ⟨cL0, cL1, fL, zL⟩ := own2 oL
      obtain ⟨cX0, cX1, cX2, cX3, fX, zX⟩ := own4 oX
      go_wp2_with fail
      refine (addu_lit _ _ _ us gs ks N D _ SU.out SG.out SA.out x (by omega) (by omega) (by omega) E HE.out).mono ?_
      rintro e w6 ⟨vR1, vR2, vR3, rfl, z1, z2, z3, hb⟩
      replace oT := oT.below hb
      replace oL := oL.below hb
      replace oX := oX.below hb
      replace SU := Lib.hid (SU.out.below hb)
      replace SG := Lib.hid (SG.out.below hb)
      replace SA := Lib.hid (SA.out.below hb)
      replace bel := belowTo bel hb (by exact bel.size)
      clear hb
      clear cT0 cT1 cT2 fT zT cL0 cL1 fL zL cX0 cX1 cX2 cX3 fX zX
      obtain ⟨cT0, cT1, cT2, fT, zT⟩ := own3 oT
      obtain ⟨cL0, cL1, fL, zL⟩ := own2 oL
      obtain ⟨cX0, cX1, cX2, cX3, fX, zX⟩ := own4 oX
      have RU := Lib.hid (show SlU w6 vR1 (auU us x E) from z1)
      have RG := Lib.hid (show SlG w6 vR2 (auG gs E) from z2)
      have RA := Lib.hid (show SlA w6 vR3 (adA ks x.s E) from z3)
      clear z1 z2 z3
      obtain ⟨pR1, nR1, cR1, f0⟩ := RU.out.slc
      subst f0
      obtain ⟨pR2, nR2, cR2, f0⟩ := RG.out.slc
      subst f0
      obtain ⟨pR3, nR3, cR3, f0⟩ := RA.out.slc
      subst f0
      go_wp2_with fail
      have oR : Own (w6.alloc (Obj.cells #[.slice pR1 nR1 cR1, .slice pR2 nR2 cR2, .slice pR3 nR3 cR3] 26)) w6.heap.size [.slice pR1 nR1 cR1, .slice pR2 nR2 cR2, .slice pR3 nR3 cR3] 26 := own_at _ _ rfl
      have ltRT : w.heap.size < w6.heap.size := zT
      have ltRL : w.heap.size + 1 < w6.heap.size := zL
      have ltRX : w.heap.size + 1 + 1 < w6.heap.size := zX
      replace oT := oT.alloc (Obj.cells #[.slice pR1 nR1 cR1, .slice pR2 nR2 cR2, .slice pR3 nR3 cR3] 26)
      replace oL := oL.alloc (Obj.cells #[.slice pR1 nR1 cR1, .slice pR2 nR2 cR2, .slice pR3 nR3 cR3] 26)
      replace oX := oX.alloc (Obj.cells #[.slice pR1 nR1 cR1, .slice pR2 nR2 cR2, .slice pR3 nR3 cR3] 26)
      replace SU := Lib.hid (SU.out.below (belowNew w6 (Obj.cells #[.slice pR1 nR1 cR1, .slice pR2 nR2 cR2, .slice pR3 nR3 cR3] 26)))
      replace SG := Lib.hid (SG.out.below (belowNew w6 (Obj.cells #[.slice pR1 nR1 cR1, .slice pR2 nR2 cR2, .slice pR3 nR3 cR3] 26)))
      replace SA := Lib.hid (SA.out.below (belowNew w6 (Obj.cells #[.slice pR1 nR1 cR1, .slice pR2 nR2 cR2, .slice pR3 nR3 cR3] 26)))
      replace RU := Lib.hid (RU.out.below (belowNew w6 (Obj.cells #[.slice pR1 nR1 cR1, .slice pR2 nR2 cR2, .slice pR3 nR3 cR3] 26)))
      replace RG := Lib.hid (RG.out.below (belowNew w6 (Obj.cells #[.slice pR1 nR1 cR1, .slice pR2 nR2 cR2, .slice pR3 nR3 cR3] 26)))
      replace RA := Lib.hid (RA.out.below (belowNew w6 (Obj.cells #[.slice pR1 nR1 cR1, .slice pR2 nR2 cR2, .slice pR3 nR3 cR3] 26)))
      replace bel := bel.alloc bel.size (Obj.cells #[.slice pR1 nR1 cR1, .slice pR2 nR2 cR2, .slice pR3 nR3 cR3] 26)
      clear cT0 cT1 cT2 fT zT cL0 cL1 fL zL cX0 cX1 cX2 cX3 fX zX
      generalize w6.alloc (Obj.cells #[.slice pR1 nR1 cR1, .slice pR2 nR2 cR2, .slice pR3 nR3 cR3] 26) = w7 at oT oL oX oR SU SG SA RU RG RA bel ⊢
      obtain ⟨cT0, cT1, cT2, fT, zT⟩ := own3 oT
      obtain ⟨cL0, cL1, fL, zL⟩ := own2 oL
      obtain ⟨cX0, cX1, cX2, cX3, fX, zX⟩ := own4 oX
      obtain ⟨cR0, cR1, cR2, fR, zR⟩ := own3 oR
      go_wp2_with fail
      go_ret
      exact ⟨rfl, bel⟩

set_option linter.unusedSimpArgs false in
set_option linter.unusedVariables false in
set_option maxRecDepth 100000 in
set_option maxHeartbeats 4000000 in
theorem valid_go (vu vg va : Value) (us : List Us) (gs : List Gr) (ks : List Ak) (N D : Int) (x : Us) (zs zo fr : Int) (w : World) (su : SlU w vu us) (sg : SlG w vg gs) (sa : SlA w va ks) (hf : fewB us gs ks = true) (hv : vldT N D us gs ks = true) (he : auE N D us gs ks x = 0) : Calls Try.prog 4 #[.agg #[vu, vg, va], .agg #[.int .i64 N, .int .i64 D], .agg #[.int .i64 x.s, .int .i64 x.o, .int .i64 x.p, .int .i64 x.m], .agg #[.int .i64 zs, .int .i64 zo], .int .i64 fr] w fun e w' => e = .returned (.bool true) ∧ Below w.heap.size w w' := by
  have u70 : us.length ≤ 70 := (fewB_iff.1 hf).1
  have g70 : gs.length ≤ 70 := (fewB_iff.1 hf).2.1
  have k70 : ks.length ≤ 70 := (fewB_iff.1 hf).2.2
  have HVL := Lib.hid (vld_iff.1 hv)
  have HAC := Lib.hid (add_counts he)
  have HOK := Lib.hid (auE_ok he)
  obtain ⟨pu, cu, e0, hlu, hcu, _⟩ := su.form us.length rfl
  subst e0
  obtain ⟨pg, cg, e0, hlg, hcg, _⟩ := sg.form gs.length rfl
  subst e0
  obtain ⟨pa, ca, e0, hla, hca, _⟩ := sa.form ks.length rfl
  subst e0
  have SU := Lib.hid su
  have SG := Lib.hid sg
  have SA := Lib.hid sa
  clear su sg sa
  have iu0 : (0 : Int) ≤ (us.length : Int) := Int.natCast_nonneg _
  have ig0 : (0 : Int) ≤ (gs.length : Int) := Int.natCast_nonneg _
  have ia0 : (0 : Int) ≤ (ks.length : Int) := Int.natCast_nonneg _
  have iu : (us.length : Int) ≤ 70 := by omega
  have ig : (gs.length : Int) ≤ 70 := by omega
  have ia : (ks.length : Int) ≤ 70 := by omega
  have HF := Lib.hid hf
  have HV := Lib.hid hv
  have HE := Lib.hid he
  clear hf hv he
  go_enter Try.func4, Try.ntmps4
  go_wp2_with fail
  refine (head_true _).mono ?_
  rintro e w1 ⟨rfl, hb⟩
  replace SU := Lib.hid (((((SU.out.below (belowNew _ _)).below (belowNew _ _)).below (belowNew _ _)).below (belowNew _ _)).below hb)
  replace SG := Lib.hid (((((SG.out.below (belowNew _ _)).below (belowNew _ _)).below (belowNew _ _)).below (belowNew _ _)).below hb)
  replace SA := Lib.hid (((((SA.out.below (belowNew _ _)).below (belowNew _ _)).below (belowNew _ _)).below (belowNew _ _)).below hb)
  have oT : Own w1 w.heap.size [.slice pu us.length cu, .slice pg gs.length cg, .slice pa ks.length ca] 26 := ((((own_at _ _ rfl).alloc _).alloc _).alloc _).below hb
  have oL : Own w1 (w.heap.size + 1) [.int .i64 N, .int .i64 D] 28 := (((own_at _ _ (by simp)).alloc _).alloc _).below hb
  have oX : Own w1 (w.heap.size + 1 + 1) [.int .i64 x.s, .int .i64 x.o, .int .i64 x.p, .int .i64 x.m] 32 := ((own_at _ _ (by simp)).alloc _).below hb
  have oC : Own w1 (w.heap.size + 1 + 1 + 1) [.int .i64 zs, .int .i64 zo] 30 := (own_at _ _ (by simp)).below hb
  have bel := belowTo (((((Below.refl w.heap.size w).alloc (by simp) _).alloc (by simp) _).alloc (by simp; omega) _).alloc (by simp; omega) _) hb (by simp; omega)
  clear hb
  obtain ⟨cT0, cT1, cT2, fT, zT⟩ := own3 oT
  obtain ⟨cL0, cL1, fL, zL⟩ := own2 oL
  obtain ⟨cX0, cX1, cX2, cX3, fX, zX⟩ := own4 oX
  obtain ⟨cC0, cC1, fC, zC⟩ := own2 oC
  go_wp2_with fail
  refine (few_lit _ _ _ us gs ks _ SU.out SG.out SA.out true HF.out).mono ?_
  rintro e w2 ⟨rfl, hb⟩
  replace oT := oT.below hb
  replace oL := oL.below hb
  replace oX := oX.below hb
  replace oC := oC.below hb
  replace SU := Lib.hid (SU.out.below hb)
  replace SG := Lib.hid (SG.out.below hb)
  replace SA := Lib.hid (SA.out.below hb)
  replace bel := belowTo bel hb (by exact bel.size)
  clear hb
  clear cT0 cT1 cT2 fT zT cL0 cL1 fL zL cX0 cX1 cX2 cX3 fX zX cC0 cC1 fC zC
  obtain ⟨cT0, cT1, cT2, fT, zT⟩ := own3 oT
  obtain ⟨cL0, cL1, fL, zL⟩ := own2 oL
  obtain ⟨cX0, cX1, cX2, cX3, fX, zX⟩ := own4 oX
  obtain ⟨cC0, cC1, fC, zC⟩ := own2 oC
  go_wp2_with fail
  refine (rvalid_lit _ _ _ us gs ks N D _ SU.out SG.out SA.out (by omega) (by omega) (by omega) true HV.out).mono ?_
  rintro e w3 ⟨rfl, hb⟩
  replace oT := oT.below hb
  replace oL := oL.below hb
  replace oX := oX.below hb
  replace oC := oC.below hb
  replace SU := Lib.hid (SU.out.below hb)
  replace SG := Lib.hid (SG.out.below hb)
  replace SA := Lib.hid (SA.out.below hb)
  replace bel := belowTo bel hb (by exact bel.size)
  clear hb
  clear cT0 cT1 cT2 fT zT cL0 cL1 fL zL cX0 cX1 cX2 cX3 fX zX cC0 cC1 fC zC
  obtain ⟨cT0, cT1, cT2, fT, zT⟩ := own3 oT
  obtain ⟨cL0, cL1, fL, zL⟩ := own2 oL
  obtain ⟨cX0, cX1, cX2, cX3, fX, zX⟩ := own4 oX
  obtain ⟨cC0, cC1, fC, zC⟩ := own2 oC
  go_wp2_with fail
  have OTk0 := Lib.hid oT.drew
  have OLk0 := Lib.hid oL.drew
  have OXk0 := Lib.hid oX.drew
  have OCk0 := Lib.hid oC.drew
  have BBk0 := Lib.hid bel.drew
  have SUk0 := Lib.hid (SU.out.below (Below.refl _ _).drew)
  have SGk0 := Lib.hid (SG.out.below (Below.refl _ _).drew)
  have SAk0 := Lib.hid (SA.out.below (Below.refl _ _).drew)
  clear oT cT0 cT1 cT2 fT zT oL cL0 cL1 fL zL oX cX0 cX1 cX2 cX3 fX zX oC cC0 cC1 fC zC
  clear bel SU SG SA
  obtain ⟨hTk00, hTk01, hTk02, _, _⟩ := own3 OTk0.out
  obtain ⟨hLk00, hLk01, _, _⟩ := own2 OLk0.out
  obtain ⟨hXk00, hXk01, hXk02, hXk03, _, _⟩ := own4 OXk0.out
  obtain ⟨hCk00, hCk01, _, _⟩ := own2 OCk0.out
  refine region_H 9 #[false, false, false, false, false, false, false, false, false] (by kernel_rfl) (by kernel_rfl) (fun w' => w'.cell? ⟨w.heap.size, 0, none⟩ = some (.slice pu us.length cu) ∧ w'.cell? ⟨w.heap.size, 1, none⟩ = some (.slice pg gs.length cg) ∧ w'.cell? ⟨w.heap.size, 2, none⟩ = some (.slice pa ks.length ca) ∧ w'.cell? ⟨w.heap.size + 1 + 1 + 1, 0, none⟩ = some (.int .i64 zs) ∧ w'.cell? ⟨w.heap.size + 1 + 1 + 1, 1, none⟩ = some (.int .i64 zo)) (by kernel_rfl) ?x11s (fun hHeld => ?x11r)
  case x11s => exact ⟨hTk00, hTk01, hTk02, hCk00, hCk01⟩
  refine wpH_take (i := 0) (some 39) (v := ?x12v) rfl (by kernel_rfl) (by kernel_rfl) (by kernel_rfl) rfl (fun _ _ _ h => h) (Or.inl ⟨by rfl, ?x12y⟩) hHeld ?x12r
  case x12y => (intro w hSw; (try dsimp only at hSw); go_simp; try with_reducible rfl)
  try simp only [Act.put, List.setIfInBounds_toArray, List.set_cons_zero, List.set_cons_succ]
  refine wpH_take (i := 1) (some 40) (v := ?x13v) rfl (by kernel_rfl) (by kernel_rfl) (by kernel_rfl) rfl (fun _ _ _ h => h) (Or.inl ⟨by rfl, ?x13y⟩) hHeld ?x13r
  case x13y => (intro w hSw; (try dsimp only at hSw); go_simp; try with_reducible rfl)
  try simp only [Act.put, List.setIfInBounds_toArray, List.set_cons_zero, List.set_cons_succ]
  refine wpH_take (i := 3) (some 42) (v := ?x14v) rfl (by kernel_rfl) (by kernel_rfl) (by kernel_rfl) rfl (fun _ _ _ h => h) (Or.inl ⟨by rfl, ?x14y⟩) hHeld ?x14r
  case x14y => (intro w hSw; (try dsimp only at hSw); go_simp; try with_reducible rfl)
  try simp only [Act.put, List.setIfInBounds_toArray, List.set_cons_zero, List.set_cons_succ]
  refine wpH_take (i := 4) (some 43) (v := ?x15v) rfl (by kernel_rfl) (by kernel_rfl) (by kernel_rfl) rfl (fun _ _ _ h => h) (Or.inl ⟨by rfl, ?x15y⟩) hHeld ?x15r
  case x15y => (intro w hSw; (try dsimp only at hSw); go_simp; try with_reducible rfl)
  try simp only [Act.put, List.setIfInBounds_toArray, List.set_cons_zero, List.set_cons_succ]
  refine wpH_take (i := 8) (some 47) (v := ?x16v) rfl (by kernel_rfl) (by kernel_rfl) (by kernel_rfl) rfl (fun _ _ _ h => h) (Or.inl ⟨by rfl, ?x16y⟩) hHeld ?x16r
  case x16y => (intro w hSw; (try dsimp only at hSw); go_simp; try with_reducible rfl)
  try simp only [Act.put, List.setIfInBounds_toArray, List.set_cons_zero, List.set_cons_succ]
  refine wpH_one (i := 2) (by kernel_rfl) rfl (fun K hK => ?_)
  rw [if_pos (by rfl)]
  go_simp
  refine (drop_any _ _ _ us gs ks zs zo _ SUk0.out SGk0.out SAk0.out (by omega) (by omega) (by omega)).mono ?_
  rintro e wk1 ⟨vx1, vx2, vx3, rfl, z1, z2, z3, hbb⟩
  have XUk1 := Lib.hid (z1)
  obtain ⟨pvx1, nvx1, cvx1, f0⟩ := XUk1.out.slc
  subst f0
  have XGk1 := Lib.hid (z2)
  obtain ⟨pvx2, nvx2, cvx2, f0⟩ := XGk1.out.slc
  subst f0
  have XAk1 := Lib.hid (z3)
  obtain ⟨pvx3, nvx3, cvx3, f0⟩ := XAk1.out.slc
  subst f0
  have OTk1 := Lib.hid (OTk0.out.below hbb)
  have OLk1 := Lib.hid (OLk0.out.below hbb)
  have OXk1 := Lib.hid (OXk0.out.below hbb)
  have OCk1 := Lib.hid (OCk0.out.below hbb)
  have SUk1 := Lib.hid (SUk0.out.below hbb)
  have SGk1 := Lib.hid (SGk0.out.below hbb)
  have SAk1 := Lib.hid (SAk0.out.below hbb)
  have BBk1 := Lib.hid (belowTo BBk0.out hbb BBk0.out.size)
  clear hbb OTk0 OLk0 OXk0 OCk0 SUk0 SGk0 SAk0 BBk0 hTk00 hTk01 hTk02 hLk00 hLk01 hXk00 hXk01 hXk02 hXk03 hCk00 hCk01
  obtain ⟨hTk10, hTk11, hTk12, _, _⟩ := own3 OTk1.out
  obtain ⟨hLk10, hLk11, _, _⟩ := own2 OLk1.out
  obtain ⟨hXk10, hXk11, hXk12, hXk13, _, _⟩ := own4 OXk1.out
  obtain ⟨hCk10, hCk11, _, _⟩ := own2 OCk1.out
  refine hK.out _ _ (⟨hTk10, hTk11, hTk12, hCk10, hCk11⟩) ?_
  clear hK K hHeld
  intro hHeld
  try simp only [Act.put, List.setIfInBounds_toArray, List.set_cons_zero, List.set_cons_succ]
  refine wpH_one (i := 5) (by kernel_rfl) rfl (fun K hK => ?_)
  rw [if_pos (by rfl)]
  go_simp
  refine (exp_any _ _ _ us gs ks fr _ SUk1.out SGk1.out SAk1.out (by omega) (by omega) (by omega)).mono ?_
  rintro e wk2 ⟨vy1, vy2, vy3, rfl, z1, z2, z3, hbb⟩
  have YUk2 := Lib.hid (z1)
  obtain ⟨pvy1, nvy1, cvy1, f0⟩ := YUk2.out.slc
  subst f0
  have YGk2 := Lib.hid (z2)
  obtain ⟨pvy2, nvy2, cvy2, f0⟩ := YGk2.out.slc
  subst f0
  have YAk2 := Lib.hid (z3)
  obtain ⟨pvy3, nvy3, cvy3, f0⟩ := YAk2.out.slc
  subst f0
  have OTk2 := Lib.hid (OTk1.out.below hbb)
  have OLk2 := Lib.hid (OLk1.out.below hbb)
  have OXk2 := Lib.hid (OXk1.out.below hbb)
  have OCk2 := Lib.hid (OCk1.out.below hbb)
  have SUk2 := Lib.hid (SUk1.out.below hbb)
  have SGk2 := Lib.hid (SGk1.out.below hbb)
  have SAk2 := Lib.hid (SAk1.out.below hbb)
  have XUk2 := Lib.hid (XUk1.out.below hbb)
  have XGk2 := Lib.hid (XGk1.out.below hbb)
  have XAk2 := Lib.hid (XAk1.out.below hbb)
  have BBk2 := Lib.hid (belowTo BBk1.out hbb BBk1.out.size)
  clear hbb OTk1 OLk1 OXk1 OCk1 SUk1 SGk1 SAk1 XUk1 XGk1 XAk1 BBk1 hTk10 hTk11 hTk12 hLk10 hLk11 hXk10 hXk11 hXk12 hXk13 hCk10 hCk11
  obtain ⟨hTk20, hTk21, hTk22, _, _⟩ := own3 OTk2.out
  obtain ⟨hLk20, hLk21, _, _⟩ := own2 OLk2.out
  obtain ⟨hXk20, hXk21, hXk22, hXk23, _, _⟩ := own4 OXk2.out
  obtain ⟨hCk20, hCk21, _, _⟩ := own2 OCk2.out
  refine hK.out _ _ (⟨hTk20, hTk21, hTk22, hCk20, hCk21⟩) ?_
  clear hK K hHeld
  intro hHeld
  try simp only [Act.put, List.setIfInBounds_toArray, List.set_cons_zero, List.set_cons_succ]
  refine wpH_one (i := 6) (by kernel_rfl) rfl (fun K hK => ?_)
  rw [if_pos (by rfl)]
  go_simp
  have OBk3 := Lib.hid (own_at (w := wk2) [.slice pvx1 nvx1 cvx1, .slice pvx2 nvx2 cvx2, .slice pvx3 nvx3 cvx3, .slice pvy1 nvy1 cvy1, .slice pvy2 nvy2 cvy2, .slice pvy3 nvy3 cvy3] 26 rfl)
  have OTk3 := Lib.hid (OTk2.out.alloc (.cells #[.slice pvx1 nvx1 cvx1, .slice pvx2 nvx2 cvx2, .slice pvx3 nvx3 cvx3, .slice pvy1 nvy1 cvy1, .slice pvy2 nvy2 cvy2, .slice pvy3 nvy3 cvy3] 26))
  have OLk3 := Lib.hid (OLk2.out.alloc (.cells #[.slice pvx1 nvx1 cvx1, .slice pvx2 nvx2 cvx2, .slice pvx3 nvx3 cvx3, .slice pvy1 nvy1 cvy1, .slice pvy2 nvy2 cvy2, .slice pvy3 nvy3 cvy3] 26))
  have OXk3 := Lib.hid (OXk2.out.alloc (.cells #[.slice pvx1 nvx1 cvx1, .slice pvx2 nvx2 cvx2, .slice pvx3 nvx3 cvx3, .slice pvy1 nvy1 cvy1, .slice pvy2 nvy2 cvy2, .slice pvy3 nvy3 cvy3] 26))
  have OCk3 := Lib.hid (OCk2.out.alloc (.cells #[.slice pvx1 nvx1 cvx1, .slice pvx2 nvx2 cvx2, .slice pvx3 nvx3 cvx3, .slice pvy1 nvy1 cvy1, .slice pvy2 nvy2 cvy2, .slice pvy3 nvy3 cvy3] 26))
  have SUk3 := Lib.hid (SUk2.out.below (belowNew _ (.cells #[.slice pvx1 nvx1 cvx1, .slice pvx2 nvx2 cvx2, .slice pvx3 nvx3 cvx3, .slice pvy1 nvy1 cvy1, .slice pvy2 nvy2 cvy2, .slice pvy3 nvy3 cvy3] 26)))
  have SGk3 := Lib.hid (SGk2.out.below (belowNew _ (.cells #[.slice pvx1 nvx1 cvx1, .slice pvx2 nvx2 cvx2, .slice pvx3 nvx3 cvx3, .slice pvy1 nvy1 cvy1, .slice pvy2 nvy2 cvy2, .slice pvy3 nvy3 cvy3] 26)))
  have SAk3 := Lib.hid (SAk2.out.below (belowNew _ (.cells #[.slice pvx1 nvx1 cvx1, .slice pvx2 nvx2 cvx2, .slice pvx3 nvx3 cvx3, .slice pvy1 nvy1 cvy1, .slice pvy2 nvy2 cvy2, .slice pvy3 nvy3 cvy3] 26)))
  have XUk3 := Lib.hid (XUk2.out.below (belowNew _ (.cells #[.slice pvx1 nvx1 cvx1, .slice pvx2 nvx2 cvx2, .slice pvx3 nvx3 cvx3, .slice pvy1 nvy1 cvy1, .slice pvy2 nvy2 cvy2, .slice pvy3 nvy3 cvy3] 26)))
  have XGk3 := Lib.hid (XGk2.out.below (belowNew _ (.cells #[.slice pvx1 nvx1 cvx1, .slice pvx2 nvx2 cvx2, .slice pvx3 nvx3 cvx3, .slice pvy1 nvy1 cvy1, .slice pvy2 nvy2 cvy2, .slice pvy3 nvy3 cvy3] 26)))
  have XAk3 := Lib.hid (XAk2.out.below (belowNew _ (.cells #[.slice pvx1 nvx1 cvx1, .slice pvx2 nvx2 cvx2, .slice pvx3 nvx3 cvx3, .slice pvy1 nvy1 cvy1, .slice pvy2 nvy2 cvy2, .slice pvy3 nvy3 cvy3] 26)))
  have YUk3 := Lib.hid (YUk2.out.below (belowNew _ (.cells #[.slice pvx1 nvx1 cvx1, .slice pvx2 nvx2 cvx2, .slice pvx3 nvx3 cvx3, .slice pvy1 nvy1 cvy1, .slice pvy2 nvy2 cvy2, .slice pvy3 nvy3 cvy3] 26)))
  have YGk3 := Lib.hid (YGk2.out.below (belowNew _ (.cells #[.slice pvx1 nvx1 cvx1, .slice pvx2 nvx2 cvx2, .slice pvx3 nvx3 cvx3, .slice pvy1 nvy1 cvy1, .slice pvy2 nvy2 cvy2, .slice pvy3 nvy3 cvy3] 26)))
  have YAk3 := Lib.hid (YAk2.out.below (belowNew _ (.cells #[.slice pvx1 nvx1 cvx1, .slice pvx2 nvx2 cvx2, .slice pvx3 nvx3 cvx3, .slice pvy1 nvy1 cvy1, .slice pvy2 nvy2 cvy2, .slice pvy3 nvy3 cvy3] 26)))
  have BBk3 := Lib.hid (BBk2.out.alloc BBk2.out.size (.cells #[.slice pvx1 nvx1 cvx1, .slice pvx2 nvx2 cvx2, .slice pvx3 nvx3 cvx3, .slice pvy1 nvy1 cvy1, .slice pvy2 nvy2 cvy2, .slice pvy3 nvy3 cvy3] 26))
  obtain ⟨bB, hbB⟩ : ∃ bB, wk2.heap.size = bB := ⟨_, rfl⟩
  rw [hbB] at OBk3
  try rw [hbB]
  clear hbB
  generalize wk2.alloc (.cells #[.slice pvx1 nvx1 cvx1, .slice pvx2 nvx2 cvx2, .slice pvx3 nvx3 cvx3, .slice pvy1 nvy1 cvy1, .slice pvy2 nvy2 cvy2, .slice pvy3 nvy3 cvy3] 26) = wk3 at OBk3 OTk3 OLk3 OXk3 OCk3 SUk3 SGk3 SAk3 XUk3 XGk3 XAk3 YUk3 YGk3 YAk3 BBk3 ⊢
  clear OTk2 OLk2 OXk2 OCk2 SUk2 SGk2 SAk2 XUk2 XGk2 XAk2 YUk2 YGk2 YAk2 BBk2 hTk20 hTk21 hTk22 hLk20 hLk21 hXk20 hXk21 hXk22 hXk23 hCk20 hCk21
  obtain ⟨hTk30, hTk31, hTk32, _, _⟩ := own3 OTk3.out
  obtain ⟨hLk30, hLk31, _, _⟩ := own2 OLk3.out
  obtain ⟨hXk30, hXk31, hXk32, hXk33, _, _⟩ := own4 OXk3.out
  obtain ⟨hCk30, hCk31, _, _⟩ := own2 OCk3.out
  refine hK.out _ _ (⟨hTk30, hTk31, hTk32, hCk30, hCk31⟩) ?_
  clear hK K hHeld
  intro hHeld
  try simp only [Act.put, List.setIfInBounds_toArray, List.set_cons_zero, List.set_cons_succ]
  refine wpH_take (i := 7) (some 46) (v := ?x20v) rfl (by kernel_rfl) (by kernel_rfl) (by kernel_rfl) rfl (fun _ _ _ h => h) (Or.inl ⟨by rfl, ?x20y⟩) hHeld ?x20r
  case x20y => (intro w hSw; (try dsimp only at hSw); go_simp; try with_reducible rfl)
  try simp only [Act.put, List.setIfInBounds_toArray, List.set_cons_zero, List.set_cons_succ]
  refine wpAnyH_done (by kernel_rfl) ?_ _
  have oT := OTk3.out
  have oL := OLk3.out
  have oX := OXk3.out
  have oC := OCk3.out
  have bel := BBk3.out
  have SU := SUk3
  have SG := SGk3
  have SA := SAk3
  have XU := XUk3
  have XG := XGk3
  have XA := XAk3
  have YU := YUk3
  have YG := YGk3
  have YA := YAk3
  clear OTk3 OLk3 OXk3 OCk3 BBk3 SUk3 SGk3 SAk3 XUk3 XGk3 XAk3 YUk3 YGk3 YAk3 hTk30 hTk31 hTk32 hLk30 hLk31 hXk30 hXk31 hXk32 hXk33 hCk30 hCk31
  obtain ⟨cT0, cT1, cT2, fT, zT⟩ := own3 oT
  obtain ⟨cL0, cL1, fL, zL⟩ := own2 oL
  obtain ⟨cX0, cX1, cX2, cX3, fX, zX⟩ := own4 oX
  obtain ⟨cC0, cC1, fC, zC⟩ := own2 oC
  have OBh := OBk3
  have OTh := Lib.hid oT
  have OLh := Lib.hid oL
  have OXh := Lib.hid oX
  have BLh := Lib.hid bel
  clear oT oL oX oC bel
  go_wp2_with fail
  obtain ⟨b0, b1, b2, b3, b4, b5, _, _⟩ := own6 OBh.out
  go_loopw [47] (fun ii wz => ∃ (i : Nat), i ≤ 2 ∧ ii = .int .i64 i ∧ Below wk3.heap.size wk3 wz) (fun i _ => 2 - (intOf i).toNat)
  case atStart => exact ⟨0, by omega, rfl, Below.refl _ _⟩
  case round =>
    rename World => wr
    clear b0 b1 b2 b3 b4 b5 cT0 cT1 cT2 fT zT cL0 cL1 fL zL cX0 cX1 cX2 cX3 fX zX cC0 cC1 fC zC
    obtain ⟨i, hi, rfl, hbe⟩ := hrel
    have BE := Lib.hid hbe
    clear hbe
    have j0 : (0 : Int) ≤ (i : Int) := Int.natCast_nonneg _
    have OBr := Lib.hid (OBh.out.below BE.out)
    have OTr := Lib.hid (OTh.out.below BE.out)
    have OLr := Lib.hid (OLh.out.below BE.out)
    obtain ⟨b0, b1, b2, b3, b4, b5, _, _⟩ := own6 OBr.out
    obtain ⟨t0, t1, t2, fT, zT⟩ := own3 OTr.out
    obtain ⟨y0, y1, fL, zL⟩ := own2 OLr.out
    by_cases hlt : i < 2
    · rcases (show i = 0 ∨ i = 1 by omega) with rfl | rfl
      · obtain ⟨UU, hUU⟩ : ∃ UU, UU = (us.filter (fun d => !(d.s == zs && d.o == zo))) := ⟨_, rfl⟩
        obtain ⟨GG, hGG⟩ : ∃ GG, GG = (gs.filter (fun d => !(d.s == zs && d.o == zo))) := ⟨_, rfl⟩
        obtain ⟨AA, hAA⟩ : ∃ AA, AA = (ks.filter (fun d => !(d.s == zs && d.o == zo))) := ⟨_, rfl⟩
        have VN := Lib.hid (show Val N D UU GG AA from by rw [hUU, hGG, hAA]; exact val_sub _ _ _ HVL.out)
        have CN := Lib.hid (show mtc eqU UU us = UU.length ∧ mtc eqG GG gs = GG.length ∧ mtc eqA AA ks = AA.length from by rw [hUU, hGG, hAA]; exact sub_counts HVL.out _ _ _)
        have TU := Lib.hid (show SlU wk3 (.slice pvx1 nvx1 cvx1) UU from by rw [hUU]; exact XU.out)
        have TG := Lib.hid (show SlG wk3 (.slice pvx2 nvx2 cvx2) GG from by rw [hGG]; exact XG.out)
        have TA := Lib.hid (show SlA wk3 (.slice pvx3 nvx3 cvx3) AA from by rw [hAA]; exact XA.out)
        clear hUU hGG hAA
        have hn24 := VN.out.n24
        have hk24 := VN.out.k24
        have e1 := TU.out.form UU.length rfl
        obtain ⟨_, _, f0, _, _, _⟩ := e1
        injection f0 with f1 f2 f3
        subst f2
        clear f1 f3
        have e1 := TG.out.form GG.length rfl
        obtain ⟨_, _, f0, _, _, _⟩ := e1
        injection f0 with f1 f2 f3
        subst f2
        clear f1 f3
        have e1 := TA.out.form AA.length rfl
        obtain ⟨_, _, f0, _, _, _⟩ := e1
        injection f0 with f1 f2 f3
        subst f2
        clear f1 f3
        have OTa := Lib.hid (OTr.out.alloc (.cells #[.slice pvx1 UU.length cvx1, .slice pvx2 GG.length cvx2, .slice pvx3 AA.length cvx3] 26))
        have OLa := Lib.hid (OLr.out.alloc (.cells #[.slice pvx1 UU.length cvx1, .slice pvx2 GG.length cvx2, .slice pvx3 AA.length cvx3] 26))
        have OEa := Lib.hid (own_at (w := wr) [.slice pvx1 UU.length cvx1, .slice pvx2 GG.length cvx2, .slice pvx3 AA.length cvx3] 26 rfl)
        have Ba := Lib.hid (BE.out.alloc BE.out.size (.cells #[.slice pvx1 UU.length cvx1, .slice pvx2 GG.length cvx2, .slice pvx3 AA.length cvx3] 26))
        have iuu : (0 : Int) ≤ (UU.length : Int) := Int.natCast_nonneg _
        have igg : (0 : Int) ≤ (GG.length : Int) := Int.natCast_nonneg _
        have iaa : (0 : Int) ≤ (AA.length : Int) := Int.natCast_nonneg _
        go_wp2_with fail
        refine (counts_lit _ _ _ _ _ _ UU us GG gs AA ks _ (TU.out.below Ba.out) (TG.out.below Ba.out) (TA.out.below Ba.out) (SU.out.below Ba.out) (SG.out.below Ba.out) (SA.out.below Ba.out) (by omega) (by omega) (by omega) (by omega) (by omega) (by omega) UU.length GG.length AA.length CN.out.1 CN.out.2.1 CN.out.2.2).mono ?_
        rintro e w4 ⟨rfl, hb⟩
        have OT4 := Lib.hid (OTa.out.below hb)
        have OL4 := Lib.hid (OLa.out.below hb)
        have OE4 := Lib.hid (OEa.out.below hb)
        have B4 := Lib.hid (belowTo Ba.out hb Ba.out.size)
        clear hb OTa OLa OEa Ba t0 t1 t2 fT zT y0 y1 fL zL b0 b1 b2 b3 b4 b5
        obtain ⟨t0, t1, t2, fT, zT⟩ := own3 OT4.out
        obtain ⟨y0, y1, fL, zL⟩ := own2 OL4.out
        obtain ⟨e0, e1, e2, fE, zE⟩ := own3 OE4.out
        go_wp2_with fail
        refine (rvalid_lit _ _ _ UU GG AA N D _ (TU.out.below B4.out) (TG.out.below B4.out) (TA.out.below B4.out) (by omega) (by omega) (by omega) true (vld_iff.2 VN.out)).mono ?_
        rintro e w5 ⟨rfl, hb⟩
        have OE5 := Lib.hid (OE4.out.below hb)
        have B5 := Lib.hid (belowTo B4.out hb B4.out.size)
        clear hb t0 t1 t2 fT zT y0 y1 fL zL e0 e1 e2 fE zE
        obtain ⟨e0, e1, e2, fE, zE⟩ := own3 OE5.out
        go_wp2_with fail
        go_roundw
        case rel => exact ⟨1, by omega, by go_num, B5.out⟩
        case measure => simp [intOf]
      · obtain ⟨UU, hUU⟩ : ∃ UU, UU = us := ⟨_, rfl⟩
        obtain ⟨GG, hGG⟩ : ∃ GG, GG = (gs.filter (fun d => !decide (d.u < fr))) := ⟨_, rfl⟩
        obtain ⟨AA, hAA⟩ : ∃ AA, AA = ks := ⟨_, rfl⟩
        have VN := Lib.hid (show Val N D UU GG AA from by rw [hUU, hGG, hAA]; exact val_expV _ HVL.out)
        have CN := Lib.hid (show mtc eqU UU us = UU.length ∧ mtc eqG GG gs = GG.length ∧ mtc eqA AA ks = AA.length from by rw [hUU, hGG, hAA]; exact exp_counts HVL.out _)
        have TU := Lib.hid (show SlU wk3 (.slice pvy1 nvy1 cvy1) UU from by rw [hUU]; exact YU.out)
        have TG := Lib.hid (show SlG wk3 (.slice pvy2 nvy2 cvy2) GG from by rw [hGG]; exact YG.out)
        have TA := Lib.hid (show SlA wk3 (.slice pvy3 nvy3 cvy3) AA from by rw [hAA]; exact YA.out)
        clear hUU hGG hAA
        have hn24 := VN.out.n24
        have hk24 := VN.out.k24
        have e1 := TU.out.form UU.length rfl
        obtain ⟨_, _, f0, _, _, _⟩ := e1
        injection f0 with f1 f2 f3
        subst f2
        clear f1 f3
        have e1 := TG.out.form GG.length rfl
        obtain ⟨_, _, f0, _, _, _⟩ := e1
        injection f0 with f1 f2 f3
        subst f2
        clear f1 f3
        have e1 := TA.out.form AA.length rfl
        obtain ⟨_, _, f0, _, _, _⟩ := e1
        injection f0 with f1 f2 f3
        subst f2
        clear f1 f3
        have OTa := Lib.hid (OTr.out.alloc (.cells #[.slice pvy1 UU.length cvy1, .slice pvy2 GG.length cvy2, .slice pvy3 AA.length cvy3] 26))
        have OLa := Lib.hid (OLr.out.alloc (.cells #[.slice pvy1 UU.length cvy1, .slice pvy2 GG.length cvy2, .slice pvy3 AA.length cvy3] 26))
        have OEa := Lib.hid (own_at (w := wr) [.slice pvy1 UU.length cvy1, .slice pvy2 GG.length cvy2, .slice pvy3 AA.length cvy3] 26 rfl)
        have Ba := Lib.hid (BE.out.alloc BE.out.size (.cells #[.slice pvy1 UU.length cvy1, .slice pvy2 GG.length cvy2, .slice pvy3 AA.length cvy3] 26))
        have iuu : (0 : Int) ≤ (UU.length : Int) := Int.natCast_nonneg _
        have igg : (0 : Int) ≤ (GG.length : Int) := Int.natCast_nonneg _
        have iaa : (0 : Int) ≤ (AA.length : Int) := Int.natCast_nonneg _
        go_wp2_with fail
        refine (counts_lit _ _ _ _ _ _ UU us GG gs AA ks _ (TU.out.below Ba.out) (TG.out.below Ba.out) (TA.out.below Ba.out) (SU.out.below Ba.out) (SG.out.below Ba.out) (SA.out.below Ba.out) (by omega) (by omega) (by omega) (by omega) (by omega) (by omega) UU.length GG.length AA.length CN.out.1 CN.out.2.1 CN.out.2.2).mono ?_
        rintro e w4 ⟨rfl, hb⟩
        have OT4 := Lib.hid (OTa.out.below hb)
        have OL4 := Lib.hid (OLa.out.below hb)
        have OE4 := Lib.hid (OEa.out.below hb)
        have B4 := Lib.hid (belowTo Ba.out hb Ba.out.size)
        clear hb OTa OLa OEa Ba t0 t1 t2 fT zT y0 y1 fL zL b0 b1 b2 b3 b4 b5
        obtain ⟨t0, t1, t2, fT, zT⟩ := own3 OT4.out
        obtain ⟨y0, y1, fL, zL⟩ := own2 OL4.out
        obtain ⟨e0, e1, e2, fE, zE⟩ := own3 OE4.out
        go_wp2_with fail
        refine (rvalid_lit _ _ _ UU GG AA N D _ (TU.out.below B4.out) (TG.out.below B4.out) (TA.out.below B4.out) (by omega) (by omega) (by omega) true (vld_iff.2 VN.out)).mono ?_
        rintro e w5 ⟨rfl, hb⟩
        have OE5 := Lib.hid (OE4.out.below hb)
        have B5 := Lib.hid (belowTo B4.out hb B4.out.size)
        clear hb t0 t1 t2 fT zT y0 y1 fL zL e0 e1 e2 fE zE
        obtain ⟨e0, e1, e2, fE, zE⟩ := own3 OE5.out
        go_wp2_with fail
        go_roundw
        case rel => exact ⟨2, by omega, by go_num, B5.out⟩
        case measure => simp [intOf]
    · obtain rfl : i = 2 := by omega
      have oT := OTr.out
      have oL := OLr.out
      have oX := OXh.out.below BE.out
      have bel := belowTo BLh.out BE.out BLh.out.size
      clear b0 b1 b2 b3 b4 b5 t0 t1 t2 fT zT y0 y1 fL zL OBr OTr OLr XU XG XA YU YG YA
      replace SU := Lib.hid (SU.out.below BE.out)
      replace SG := Lib.hid (SG.out.below BE.out)
      replace SA := Lib.hid (SA.out.below BE.out)
      obtain ⟨cT0, cT1, cT2, fT, zT⟩ := own3 oT
      obtain ⟨cL0, cL1, fL, zL⟩ := own2 oL
      obtain ⟨cX0, cX1, cX2, cX3, fX, zX⟩ := own4 oX
      go_wp2_with fail
      refine (addu_lit _ _ _ us gs ks N D _ SU.out SG.out SA.out x (by omega) (by omega) (by omega) 0 HE.out).mono ?_
      rintro e w6 ⟨vR1, vR2, vR3, rfl, z1, z2, z3, hb⟩
      replace oT := oT.below hb
      replace oL := oL.below hb
      replace oX := oX.below hb
      replace SU := Lib.hid (SU.out.below hb)
      replace SG := Lib.hid (SG.out.below hb)
      replace SA := Lib.hid (SA.out.below hb)
      replace bel := belowTo bel hb (by exact bel.size)
      clear hb
      clear cT0 cT1 cT2 fT zT cL0 cL1 fL zL cX0 cX1 cX2 cX3 fX zX
      obtain ⟨cT0, cT1, cT2, fT, zT⟩ := own3 oT
      obtain ⟨cL0, cL1, fL, zL⟩ := own2 oL
      obtain ⟨cX0, cX1, cX2, cX3, fX, zX⟩ := own4 oX
      have RU := Lib.hid (show SlU w6 vR1 (adU x us) from z1)
      have RG := Lib.hid (show SlG w6 vR2 gs from z2)
      have RA := Lib.hid (show SlA w6 vR3 (una x.s ks) from z3)
      clear z1 z2 z3
      obtain ⟨pR1, nR1, cR1, f0⟩ := RU.out.slc
      subst f0
      obtain ⟨pR2, nR2, cR2, f0⟩ := RG.out.slc
      subst f0
      obtain ⟨pR3, nR3, cR3, f0⟩ := RA.out.slc
      subst f0
      go_wp2_with fail
      have oR : Own (w6.alloc (Obj.cells #[.slice pR1 nR1 cR1, .slice pR2 nR2 cR2, .slice pR3 nR3 cR3] 26)) w6.heap.size [.slice pR1 nR1 cR1, .slice pR2 nR2 cR2, .slice pR3 nR3 cR3] 26 := own_at _ _ rfl
      have ltRT : w.heap.size < w6.heap.size := zT
      have ltRL : w.heap.size + 1 < w6.heap.size := zL
      have ltRX : w.heap.size + 1 + 1 < w6.heap.size := zX
      replace oT := oT.alloc (Obj.cells #[.slice pR1 nR1 cR1, .slice pR2 nR2 cR2, .slice pR3 nR3 cR3] 26)
      replace oL := oL.alloc (Obj.cells #[.slice pR1 nR1 cR1, .slice pR2 nR2 cR2, .slice pR3 nR3 cR3] 26)
      replace oX := oX.alloc (Obj.cells #[.slice pR1 nR1 cR1, .slice pR2 nR2 cR2, .slice pR3 nR3 cR3] 26)
      replace SU := Lib.hid (SU.out.below (belowNew w6 (Obj.cells #[.slice pR1 nR1 cR1, .slice pR2 nR2 cR2, .slice pR3 nR3 cR3] 26)))
      replace SG := Lib.hid (SG.out.below (belowNew w6 (Obj.cells #[.slice pR1 nR1 cR1, .slice pR2 nR2 cR2, .slice pR3 nR3 cR3] 26)))
      replace SA := Lib.hid (SA.out.below (belowNew w6 (Obj.cells #[.slice pR1 nR1 cR1, .slice pR2 nR2 cR2, .slice pR3 nR3 cR3] 26)))
      replace RU := Lib.hid (RU.out.below (belowNew w6 (Obj.cells #[.slice pR1 nR1 cR1, .slice pR2 nR2 cR2, .slice pR3 nR3 cR3] 26)))
      replace RG := Lib.hid (RG.out.below (belowNew w6 (Obj.cells #[.slice pR1 nR1 cR1, .slice pR2 nR2 cR2, .slice pR3 nR3 cR3] 26)))
      replace RA := Lib.hid (RA.out.below (belowNew w6 (Obj.cells #[.slice pR1 nR1 cR1, .slice pR2 nR2 cR2, .slice pR3 nR3 cR3] 26)))
      replace bel := bel.alloc bel.size (Obj.cells #[.slice pR1 nR1 cR1, .slice pR2 nR2 cR2, .slice pR3 nR3 cR3] 26)
      clear cT0 cT1 cT2 fT zT cL0 cL1 fL zL cX0 cX1 cX2 cX3 fX zX
      generalize w6.alloc (Obj.cells #[.slice pR1 nR1 cR1, .slice pR2 nR2 cR2, .slice pR3 nR3 cR3] 26) = w7 at oT oL oX oR SU SG SA RU RG RA bel ⊢
      obtain ⟨cT0, cT1, cT2, fT, zT⟩ := own3 oT
      obtain ⟨cL0, cL1, fL, zL⟩ := own2 oL
      obtain ⟨cX0, cX1, cX2, cX3, fX, zX⟩ := own4 oX
      obtain ⟨cR0, cR1, cR2, fR, zR⟩ := own3 oR
      have hl24 := HOK.out.2.2.2
      have hul := una_len x.s ks
      have huc := una_count x.s ks
      have e1 := RU.out.form (us.length + 1) (by rw [adU, length_insL])
      obtain ⟨_, _, f0, _, _, _⟩ := e1
      injection f0 with f1 f2 f3
      subst f2
      clear f1 f3
      have e1 := RG.out.form gs.length rfl
      obtain ⟨_, _, f0, _, _, _⟩ := e1
      injection f0 with f1 f2 f3
      subst f2
      clear f1 f3
      have e1 := RA.out.form _ rfl
      obtain ⟨_, _, f0, _, _, _⟩ := e1
      injection f0 with f1 f2 f3
      have hnk2 : nR3 ≤ 70 := by omega
      have HNK := Lib.hid f2.symm
      clear f1 f2 f3 hul
      go_wp2_with fail
      refine (counts_lit _ _ _ _ _ _ us (adU x us) gs gs ks (una x.s ks) _ SU.out SG.out SA.out RU.out RG.out RA.out (by omega) (by omega) (by omega) (by rw [adU, length_insL]; omega) (by omega) (by rw [HNK.out]; omega) us.length gs.length nR3 HAC.out.1 HAC.out.2.1 (HAC.out.2.2.trans HNK.out)).mono ?_
      rintro e w8 ⟨rfl, hb⟩
      replace oT := oT.below hb
      replace oL := oL.below hb
      replace oX := oX.below hb
      replace oR := oR.below hb
      replace SU := Lib.hid (SU.out.below hb)
      replace SG := Lib.hid (SG.out.below hb)
      replace SA := Lib.hid (SA.out.below hb)
      replace RU := Lib.hid (RU.out.below hb)
      replace RG := Lib.hid (RG.out.below hb)
      replace RA := Lib.hid (RA.out.below hb)
      replace bel := belowTo bel hb (by exact bel.size)
      clear hb
      clear cT0 cT1 cT2 fT zT cL0 cL1 fL zL cX0 cX1 cX2 cX3 fX zX cR0 cR1 cR2 fR zR
      obtain ⟨cT0, cT1, cT2, fT, zT⟩ := own3 oT
      obtain ⟨cL0, cL1, fL, zL⟩ := own2 oL
      obtain ⟨cX0, cX1, cX2, cX3, fX, zX⟩ := own4 oX
      obtain ⟨cR0, cR1, cR2, fR, zR⟩ := own3 oR
      go_wp2_with fail
      have OTh := Lib.hid oT
      have OLh := Lib.hid oL
      have OXh := Lib.hid oX
      have ORh := Lib.hid oR
      have BLh := Lib.hid bel
      clear oT oL oX oR bel
      go_loopw [22, 104] (fun nn ii wz => ∃ (i : Nat), i ≤ ks.length ∧ ii = .int .i64 i ∧ nn = .int .i64 ((ks.take i).countP (fun d => d.s == x.s) : Nat) ∧ Below w8.heap.size w8 wz) (fun _ i _ => ks.length - (intOf i).toNat)
      case atStart => exact ⟨0, by omega, rfl, rfl, Below.refl _ _⟩
      case round =>
        rename World => wr
        clear cT0 cT1 cT2 fT zT cL0 cL1 fL zL cX0 cX1 cX2 cX3 fX zX cR0 cR1 cR2 fR zR
        obtain ⟨i, hi, rfl, rfl, hbe⟩ := hrel
        have BE2 := Lib.hid hbe
        clear hbe
        have j0 : (0 : Int) ≤ (i : Int) := Int.natCast_nonneg _
        have OXr := Lib.hid (OXh.out.below BE2.out)
        obtain ⟨x0, x1, x2, x3, fX, zX⟩ := own4 OXr.out
        have ORr := Lib.hid (ORh.out.below BE2.out)
        obtain ⟨r0, r1, r2, fR, zR⟩ := own3 ORr.out
        have hcu : (ks.take i).countP (fun d => d.s == x.s) ≤ ks.length := Nat.le_trans List.countP_le_length (List.length_take_le' i ks)
        have hcz : (0 : Int) ≤ ((ks.take i).countP (fun d => d.s == x.s) : Nat) := Int.natCast_nonneg _
        by_cases hlt : i < ks.length
        · obtain ⟨d, b, off, hd, rfl, hbl, _, d0, d1, d2⟩ := SA.out.atA BE2.out hlt
          have j1 : (i : Int) < (ks.length : Int) := by omega
          have HD := Lib.hid (cntV_snoc (q := fun d : Ak => d.s == x.s) hd)
          clear hd
          have hcw : (((ks.take i).countP (fun d => d.s == x.s) : Nat) : Int) < 1000 := by omega
          have OXa := Lib.hid (OXr.out.alloc (.cells #[.int .i64 d.s, .int .i64 d.o, .int .i64 d.p] 51))
          have B1 := Lib.hid (BE2.out.alloc BE2.out.size (.cells #[.int .i64 d.s, .int .i64 d.o, .int .i64 d.p] 51))
          cases hn : (d.s == x.s) with
          | true =>
            have HN := Lib.hid hn
            go_wp2_with fail
            go_roundw
            case rel => exact ⟨i + 1, by omega, by go_num, by rw [HD.out, HN.out]; go_num, B1.out⟩
            case measure => simp [intOf]; omega
          | false =>
            have HN := Lib.hid hn
            go_wp2_with fail
            go_roundw
            case rel => exact ⟨i + 1, by omega, by go_num, by rw [HD.out, HN.out]; simp, B1.out⟩
            case measure => simp [intOf]; omega
        · obtain rfl : i = ks.length := by omega
          rw [List.take_length]
          obtain ⟨ak, hak⟩ : ∃ ak, ak = ks.countP (fun d => d.s == x.s) := ⟨_, rfl⟩
          rw [← hak]
          have hkk : nR3 + ak = ks.length := by rw [hak, ← HNK.out]; exact huc
          have hkk2 : ((nR3 : Int) == (ks.length : Int) - (ak : Int)) = true := by simp; omega
          clear hak hcz hcu
          go_wp2_with fail
          clear x0 x1 x2 x3 fX zX r0 r1 r2 fR zR
          go_loopw [25, 121] (fun bb ii wz => ∃ (e : Nat), e ≤ us.length + 1 ∧ ii = .int .i64 e ∧ bb = .bool (((adU x us).take e).any (fun d => eqU d x)) ∧ Below wr.heap.size wr wz) (fun _ i _ => us.length + 1 - (intOf i).toNat)
          case atStart => exact ⟨0, by omega, rfl, by simp, Below.refl _ _⟩
          case round =>
            rename World => wq
            obtain ⟨e, he, rfl, rfl, hbe⟩ := hrel
            have BQ := Lib.hid hbe
            clear hbe
            have e0 : (0 : Int) ≤ (e : Int) := Int.natCast_nonneg _
            have OXq := Lib.hid (OXr.out.below BQ.out)
            obtain ⟨x0, x1, x2, x3, fX, zX⟩ := own4 OXq.out
            have ORq := Lib.hid (ORr.out.below BQ.out)
            obtain ⟨r0, r1, r2, fR, zR⟩ := own3 ORq.out
            have BT := Lib.hid (belowTo BE2.out BQ.out BE2.out.size)
            by_cases hle : e < us.length + 1
            · obtain ⟨a, b', off', ha, rfl, _, _, a0, a1, a2, a3⟩ := RU.out.atU BT.out (show e < (adU x us).length by rw [adU, length_insL]; exact hle)
              have e1 : (e : Int) < (us.length : Int) + 1 := by omega
              have HA := Lib.hid (anyV_snoc (q := fun d => eqU d x) ha)
              clear ha
              have OXa := Lib.hid (OXq.out.alloc (.cells #[.int .i64 a.s, .int .i64 a.o, .int .i64 a.p, .int .i64 a.m] 32))
              have oA := Lib.hid (own_at (w := wq) [.int .i64 a.s, .int .i64 a.o, .int .i64 a.p, .int .i64 a.m] 32 rfl)
              have B1 := Lib.hid (BQ.out.alloc BQ.out.size (.cells #[.int .i64 a.s, .int .i64 a.o, .int .i64 a.p, .int .i64 a.m] 32))
              clear x0 x1 x2 x3 fX zX
              obtain ⟨x0, x1, x2, x3, fX, zX⟩ := own4 OXa.out
              obtain ⟨z0, z1, z2, z3, fA, zA⟩ := own4 oA.out
              cases hq : eqU a x with
              | true =>
                have HQ := Lib.hid hq
                have hqq := eql_u_lit a x true hq
                clear hq
                cases hy : ((adU x us).take e).any (fun d => eqU d x) with
                | true =>
                  have HY := Lib.hid hy
                  clear hy
                  go_wp2_with fail
                  go_roundw
                  case rel => exact ⟨e + 1, by omega, by go_num, by rw [HA.out, HY.out, HQ.out]; rfl, B1.out⟩
                  case measure => simp [intOf]; omega
                | false =>
                  have HY := Lib.hid hy
                  clear hy
                  go_wp2_with fail
                  go_roundw
                  case rel => exact ⟨e + 1, by omega, by go_num, by rw [HA.out, HY.out, HQ.out]; rfl, B1.out⟩
                  case measure => simp [intOf]; omega
              | false =>
                have HQ := Lib.hid hq
                have hqq := eql_u_lit a x false hq
                clear hq
                cases hy : ((adU x us).take e).any (fun d => eqU d x) with
                | true =>
                  have HY := Lib.hid hy
                  clear hy
                  go_wp2_with fail
                  go_roundw
                  case rel => exact ⟨e + 1, by omega, by go_num, by rw [HA.out, HY.out, HQ.out]; rfl, B1.out⟩
                  case measure => simp [intOf]; omega
                | false =>
                  have HY := Lib.hid hy
                  clear hy
                  go_wp2_with fail
                  go_roundw
                  case rel => exact ⟨e + 1, by omega, by go_num, by rw [HA.out, HY.out, HQ.out]; rfl, B1.out⟩
                  case measure => simp [intOf]; omega
            · obtain rfl : e = us.length + 1 := by omega
              have hin : (((adU x us).take (us.length + 1)).any (fun d => eqU d x)) = true := by
                rw [List.take_of_length_le (by rw [adU, length_insL]; exact Nat.le_refl _)]
                exact any_ins ((eqU_iff x x).2 rfl)
              rw [hin]
              clear hin
              have OTq := Lib.hid (OTh.out.below BT.out)
              have OLq := Lib.hid (OLh.out.below BT.out)
              obtain ⟨t0, t1, t2, fT, zT⟩ := own3 OTq.out
              obtain ⟨y0, y1, fL, zL⟩ := own2 OLq.out
              clear x0 x1 x2 x3 fX zX
              have BZ := Lib.hid (belowTo BLh.out BT.out BLh.out.size)
              go_wp2_with fail
              refine (rvalid_lit _ _ _ (adU x us) gs (una x.s ks) N D _ (RU.out.below BT.out) (RG.out.below BT.out) (RA.out.below BT.out) (by rw [adU, length_insL]; omega) (by omega) (by rw [HNK.out]; omega) true (vld_iff.2 (by obtain ⟨h1, h2, h3, h4⟩ := HOK.out; exact val_addU h1 h2 h3 h4))).mono ?_
              rintro e9 w9 ⟨rfl, hb⟩
              have OT9 := Lib.hid (OTq.out.below hb)
              have OR9 := Lib.hid (ORq.out.below hb)
              have B9 := Lib.hid (belowTo BZ.out hb BZ.out.size)
              clear hb t0 t1 t2 fT zT y0 y1 fL zL r0 r1 r2 fR zR
              obtain ⟨t0, t1, t2, fT, zT⟩ := own3 OT9.out
              obtain ⟨r0, r1, r2, fR, zR⟩ := own3 OR9.out
              go_wp2_with fail
              all_goals (go_ret; exact ⟨ret_bool (by first | rfl | (simp; done) | (simp; omega)), B9.out⟩)

theorem cellsValid_walk (vu vg va : Value) (us : List Us) (gs : List Gr) (ks : List Ak) (N D : Int) (s o p m : Int) (zs zo fr : Int) (w : World) (su : SlU w vu us) (sg : SlG w vg gs) (sa : SlA w va ks) {q1 q2 q3 q4 q5 q6 q7 q8 q9 : Prop} (_ : q1) (_ : q2) (_ : q3) (_ : q4) (_ : q5) (_ : q6) (_ : q7) (_ : q8) (_ : q9) : Calls Try.prog 4 #[.agg #[vu, vg, va], .agg #[.int .i64 N, .int .i64 D], .agg #[.int .i64 s, .int .i64 o, .int .i64 p, .int .i64 m], .agg #[.int .i64 zs, .int .i64 zo], .int .i64 fr] w fun e w' => e = .returned (.bool true) ∧ Below w.heap.size w w' := by
  cases hf : fewB us gs ks with
  | false => exact valid_few vu vg va us gs ks N D ⟨s, o, p, m⟩ zs zo fr w su sg sa hf
  | true =>
    cases hv : vldT N D us gs ks with
    | false => exact valid_bad vu vg va us gs ks N D ⟨s, o, p, m⟩ zs zo fr w su sg sa hf hv
    | true =>
      by_cases he : auE N D us gs ks ⟨s, o, p, m⟩ = 0
      · exact valid_go vu vg va us gs ks N D ⟨s, o, p, m⟩ zs zo fr w su sg sa hf hv he
      · exact valid_no vu vg va us gs ks N D ⟨s, o, p, m⟩ zs zo fr w su sg sa hf hv _ rfl he

end Go.Proofs.Ytdmadnoijhmbcaa

/- What AddUse, AddGrant, Take and Yield return. No condition but those named. -/
import Derived.Test.YtmopiifamopidaaGreatPI
import Derived.Test.YtmopiifamopidaaGreatPJ
import Derived.Test.YtmopiifamopidaaGreatPE
import Derived.Test.YtmopiifamopidaaGreatPA
import Derived.Test.YtmopiifamopidaaGreatPG
import Derived.Outline
import Derived.Test.YtmopiifamopidaaGreatPH
set_option linter.unusedVariables false
set_option linter.unusedSimpArgs false
section
namespace Go.Proofs.YtmopiifamopidaaGreat
open Go.RowKit
def AddP (w : World) (us : List Us) (gs : List Gr) (ks : List Ak) (E : Int) (e : Ending) (w' : World) : Prop := ∃ vu vg va, e = .returned (.tuple #[.agg #[vu, vg, va], .int .i64 E]) ∧ SlU w' vu us ∧ SlG w' vg gs ∧ SlA w' va ks ∧ Below w.heap.size w w'
theorem slt_nil0 {α : Type} (L : Lay α) (w : World) : SlT L w (.slice none 0 0) [] := ⟨none, 0, rfl, Nat.le_refl _, by unfold maxLen; omega, fun _ => rfl, fun i r h => by simp at h⟩
def auU (us : List Us) (x : Us) (E : Int) : List Us := if E = 0 then adU x us else []
def auG (gs : List Gr) (E : Int) : List Gr := if E = 0 then gs else []
def agU (us : List Us) (E : Int) : List Us := if E = 0 then us else []
def agG (gs : List Gr) (x : Gr) (E : Int) : List Gr := if E = 0 then adG x gs else []
def adA (ks : List Ak) (s E : Int) : List Ak := if E = 0 then una s ks else []
set_option maxRecDepth 100000 in
set_option maxHeartbeats 2000000 in
theorem addu_bad (vu vg va : Value) (us : List Us) (gs : List Gr) (ks : List Ak) (N D : Int) (w : World) (su : SlU w vu us) (sg : SlG w vg gs) (sa : SlA w va ks) (x : Us) (u70 : us.length ≤ 70) (g70 : gs.length ≤ 70) (k70 : ks.length ≤ 70) (E : Int) (he : auE N D us gs ks x = E) (hn : ¬ E = 0) : Calls Tryz.prog 24 #[.agg #[vu, vg, va], .agg #[.int .i64 N, .int .i64 D], .agg #[.int .i64 x.s, .int .i64 x.o, .int .i64 x.p, .int .i64 x.m]] w fun e w' => AddP w [] [] [] E e w' := by
 obtain ⟨pu, cu, e0, hlu, hcu, _⟩ := su.form us.length rfl
 subst e0
 obtain ⟨pg, cg, e0, hlg, hcg, _⟩ := sg.form gs.length rfl
 subst e0
 obtain ⟨pa, ca, e0, hla, hca, _⟩ := sa.form ks.length rfl
 subst e0
 have SU := Lib.hid su
 have SG := Lib.hid sg
 have SA := Lib.hid sa
 clear su sg sa
 have iu0 : (0 : Int) ≤ (us.length : Int) := Int.natCast_nonneg _
 have ig0 : (0 : Int) ≤ (gs.length : Int) := Int.natCast_nonneg _
 have ia0 : (0 : Int) ≤ (ks.length : Int) := Int.natCast_nonneg _
 have iu : (us.length : Int) ≤ 70 := by omega
 have ig : (gs.length : Int) ≤ 70 := by omega
 have ia : (ks.length : Int) ≤ 70 := by omega
 have HE := Lib.hid he
 clear he
 go_enter Tryz.func24, Tryz.ntmps24
 have BW := Lib.hid (show Below w.heap.size w ((((w.alloc (.cells #[.slice pu us.length cu, .slice pg gs.length cg, .slice pa ks.length ca] 43)).alloc (.cells #[.int .i64 N, .int .i64 D] 31)).alloc (.cells #[.int .i64 x.s, .int .i64 x.o, .int .i64 x.p, .int .i64 x.m] 50)).alloc (.cells #[.slice none 0 0, .slice none 0 0, .slice none 0 0] 43)) from (((((Below.refl _ _).alloc (Nat.le_refl _) _).alloc (by simp) _).alloc (by simp; omega) _).alloc (by simp; omega) _))
 go_wp2_with fail
 refine (rfs_u_lit _ _ _ us gs ks N D _ (SU.out.below BW.out) (SG.out.below BW.out) (SA.out.below BW.out) x u70 g70 k70 E HE.out).mono ?_
 rintro e w1 ⟨rfl, hb⟩
 have oT : Own w1 w.heap.size [.slice pu us.length cu, .slice pg gs.length cg, .slice pa ks.length ca] 43 := ((((own_at _ _ rfl).alloc _).alloc _).alloc _).below hb
 have oL : Own w1 (w.heap.size + 1) [.int .i64 N, .int .i64 D] 31 := (((own_at _ _ (by simp)).alloc _).alloc _).below hb
 have oX : Own w1 (w.heap.size + 1 + 1) [.int .i64 x.s, .int .i64 x.o, .int .i64 x.p, .int .i64 x.m] 50 := ((own_at _ _ (by simp)).alloc _).below hb
 have oR : Own w1 (w.heap.size + 1 + 1 + 1) [.slice none 0 0, .slice none 0 0, .slice none 0 0] 43 := (own_at _ _ (by simp)).below hb
 have bel := belowTo (((((Below.refl w.heap.size w).alloc (by simp) _).alloc (by simp) _).alloc (by simp; omega) _).alloc (by simp; omega) _) hb (by simp; omega)
 clear hb
 obtain ⟨cT0, cT1, cT2, fT, zT⟩ := own3 oT
 obtain ⟨cL0, cL1, fL, zL⟩ := own2 oL
 obtain ⟨cX0, cX1, cX2, cX3, fX, zX⟩ := own4 oX
 obtain ⟨cR0, cR1, cR2, fR, zR⟩ := own3 oR
 go_wp2_with fail
 have hN3 : w.heap.size ≤ w.heap.size + 1 + 1 + 1 := by omega
 refine bodyPost_ret (v := .tuple #[.agg #[.slice none 0 0, .slice none 0 0, .slice none 0 0], .int .i64 E]) (by simp [results, Tryz.results24, go_sem, *]) rfl ⟨_, _, _, rfl, slt_nil0 _ _, slt_nil0 _ _, slt_nil0 _ _, ?_⟩
 exact below_set3 bel (by omega)
set_option maxRecDepth 100000 in
set_option maxHeartbeats 2000000 in
theorem addu_ok (vu vg va : Value) (us : List Us) (gs : List Gr) (ks : List Ak) (N D : Int) (w : World) (su : SlU w vu us) (sg : SlG w vg gs) (sa : SlA w va ks) (x : Us) (u70 : us.length ≤ 70) (g70 : gs.length ≤ 70) (k70 : ks.length ≤ 70) (he : auE N D us gs ks x = 0) : Calls Tryz.prog 24 #[.agg #[vu, vg, va], .agg #[.int .i64 N, .int .i64 D], .agg #[.int .i64 x.s, .int .i64 x.o, .int .i64 x.p, .int .i64 x.m]] w fun e w' => AddP w (adU x us) (gs) (una x.s ks) 0 e w' := by
 obtain ⟨pu, cu, e0, hlu, hcu, _⟩ := su.form us.length rfl
 subst e0
 obtain ⟨pg, cg, e0, hlg, hcg, _⟩ := sg.form gs.length rfl
 subst e0
 obtain ⟨pa, ca, e0, hla, hca, _⟩ := sa.form ks.length rfl
 subst e0
 have SU := Lib.hid su
 have SG := Lib.hid sg
 have SA := Lib.hid sa
 clear su sg sa
 have iu0 : (0 : Int) ≤ (us.length : Int) := Int.natCast_nonneg _
 have ig0 : (0 : Int) ≤ (gs.length : Int) := Int.natCast_nonneg _
 have ia0 : (0 : Int) ≤ (ks.length : Int) := Int.natCast_nonneg _
 have iu : (us.length : Int) ≤ 70 := by omega
 have ig : (gs.length : Int) ≤ 70 := by omega
 have ia : (ks.length : Int) ≤ 70 := by omega
 have HE := Lib.hid he
 clear he
 go_enter Tryz.func24, Tryz.ntmps24
 have BW := Lib.hid (show Below w.heap.size w ((((w.alloc (.cells #[.slice pu us.length cu, .slice pg gs.length cg, .slice pa ks.length ca] 43)).alloc (.cells #[.int .i64 N, .int .i64 D] 31)).alloc (.cells #[.int .i64 x.s, .int .i64 x.o, .int .i64 x.p, .int .i64 x.m] 50)).alloc (.cells #[.slice none 0 0, .slice none 0 0, .slice none 0 0] 43)) from (((((Below.refl _ _).alloc (Nat.le_refl _) _).alloc (by simp) _).alloc (by simp; omega) _).alloc (by simp; omega) _))
 go_wp2_with fail
 refine (rfs_u_lit _ _ _ us gs ks N D _ (SU.out.below BW.out) (SG.out.below BW.out) (SA.out.below BW.out) x u70 g70 k70 0 HE.out).mono ?_
 rintro e w1 ⟨rfl, hb⟩
 have oT : Own w1 w.heap.size [.slice pu us.length cu, .slice pg gs.length cg, .slice pa ks.length ca] 43 := ((((own_at _ _ rfl).alloc _).alloc _).alloc _).below hb
 have oL : Own w1 (w.heap.size + 1) [.int .i64 N, .int .i64 D] 31 := (((own_at _ _ (by simp)).alloc _).alloc _).below hb
 have oX : Own w1 (w.heap.size + 1 + 1) [.int .i64 x.s, .int .i64 x.o, .int .i64 x.p, .int .i64 x.m] 50 := ((own_at _ _ (by simp)).alloc _).below hb
 have oR : Own w1 (w.heap.size + 1 + 1 + 1) [.slice none 0 0, .slice none 0 0, .slice none 0 0] 43 := (own_at _ _ (by simp)).below hb
 have bel := belowTo (((((Below.refl w.heap.size w).alloc (by simp) _).alloc (by simp) _).alloc (by simp; omega) _).alloc (by simp; omega) _) hb (by simp; omega)
 clear hb
 obtain ⟨cT0, cT1, cT2, fT, zT⟩ := own3 oT
 obtain ⟨cL0, cL1, fL, zL⟩ := own2 oL
 obtain ⟨cX0, cX1, cX2, cX3, fX, zX⟩ := own4 oX
 obtain ⟨cR0, cR1, cR2, fR, zR⟩ := own3 oR
 have h01 : ¬ ((0 : Int) ≠ 0) := fun h => h rfl
 go_wp2_with fail
 have OT0 := Lib.hid (oT.drew)
 have OL0 := Lib.hid (oL.drew)
 have OX0 := Lib.hid (oX.drew)
 have OR0 := Lib.hid (oR.drew)
 have BB0 := Lib.hid bel.drew
 have SU0 := Lib.hid (SU.out.below BB0.out)
 have SG0 := Lib.hid (SG.out.below BB0.out)
 have SA0 := Lib.hid (SA.out.below BB0.out)
 clear oT cT0 cT1 cT2 fT zT oL cL0 cL1 fL zL oX cX0 cX1 cX2 cX3 fX zX oR cR0 cR1 cR2 fR zR bel
 obtain ⟨t00, t01, t02, _, _⟩ := own3 OT0.out
 obtain ⟨l00, l01, _, _⟩ := own2 OL0.out
 obtain ⟨x00, x01, x02, x03, _, _⟩ := own4 OX0.out
 obtain ⟨r00, r01, r02, _, _⟩ := own3 OR0.out
 refine region_H 15 #[false, false, false, false, false, false, false, false, false, false, false, false, false, false, false] (by kernel_rfl) (by kernel_rfl) (fun w' => w'.cell? ⟨w.heap.size, 0, none⟩ = some (.slice pu us.length cu) ∧ w'.cell? ⟨w.heap.size, 1, none⟩ = some (.slice pg gs.length cg) ∧ w'.cell? ⟨w.heap.size, 2, none⟩ = some (.slice pa ks.length ca) ∧ w'.cell? ⟨w.heap.size + 1 + 1, 0, none⟩ = some (.int .i64 x.s) ∧ w'.cell? ⟨w.heap.size + 1 + 1, 1, none⟩ = some (.int .i64 x.o) ∧ w'.cell? ⟨w.heap.size + 1 + 1, 2, none⟩ = some (.int .i64 x.p) ∧ w'.cell? ⟨w.heap.size + 1 + 1, 3, none⟩ = some (.int .i64 x.m)) (by kernel_rfl) ?x1s (fun hHeld => ?x1r)
 case x1s => exact ⟨t00, t01, t02, x00, x01, x02, x03⟩
 refine tH 0 18 ?_
 refine tH 1 19 ?_
 refine tH 2 20 ?_
 refine tH 4 22 ?_
 refine tH 5 23 ?_
 refine tH 7 25 ?_
 refine tH 8 26 ?_
 refine tH 9 27 ?_
 refine tH 10 28 ?_
 refine wpH_one (i := 3) (by kernel_rfl) rfl (fun K hK => ?_)
 rw [if_pos (by rfl)]
 go_simp
 refine (ins_u _ us x _ SU0.out u70).mono ?_
 rintro e w1 ⟨xu, rfl, hs, hbb⟩
 have XU1 := Lib.hid (hs)
 obtain ⟨pxu, nxu, cxu, f0⟩ := XU1.out.slc
 subst f0
 have OT1 := Lib.hid (OT0.out.below hbb)
 have OL1 := Lib.hid (OL0.out.below hbb)
 have OX1 := Lib.hid (OX0.out.below hbb)
 have OR1 := Lib.hid (OR0.out.below hbb)
 have SU1 := Lib.hid (SU0.out.below hbb)
 have SG1 := Lib.hid (SG0.out.below hbb)
 have SA1 := Lib.hid (SA0.out.below hbb)
 have BB1 := Lib.hid (belowTo BB0.out hbb BB0.out.size)
 clear hbb hs
 obtain ⟨t10, t11, t12, _, _⟩ := own3 OT1.out
 obtain ⟨l10, l11, _, _⟩ := own2 OL1.out
 obtain ⟨x10, x11, x12, x13, _, _⟩ := own4 OX1.out
 obtain ⟨r10, r11, r12, _, _⟩ := own3 OR1.out
 refine hK.out _ _ (⟨t10, t11, t12, x10, x11, x12, x13⟩) ?_
 clear hK K hHeld
 intro hHeld
 try simp only [Act.put, List.setIfInBounds_toArray, List.set_cons_zero, List.set_cons_succ]
 refine wpH_one (i := 6) (by kernel_rfl) rfl (fun K hK => ?_)
 rw [if_pos (by rfl)]
 go_simp
 refine (clone_g _ gs _ SG1.out (by omega)).mono ?_
 rintro e w2 ⟨xg, rfl, hs, hbb⟩
 have XG2 := Lib.hid (slt_of_own (L := grL) hs)
 obtain ⟨pxg, nxg, cxg, f0⟩ := XG2.out.slc
 subst f0
 have OT2 := Lib.hid (OT1.out.below hbb)
 have OL2 := Lib.hid (OL1.out.below hbb)
 have OX2 := Lib.hid (OX1.out.below hbb)
 have OR2 := Lib.hid (OR1.out.below hbb)
 have SU2 := Lib.hid (SU1.out.below hbb)
 have SG2 := Lib.hid (SG1.out.below hbb)
 have SA2 := Lib.hid (SA1.out.below hbb)
 have XU2 := Lib.hid (XU1.out.below hbb)
 have BB2 := Lib.hid (belowTo BB1.out hbb BB1.out.size)
 clear hbb hs
 obtain ⟨t20, t21, t22, _, _⟩ := own3 OT2.out
 obtain ⟨l20, l21, _, _⟩ := own2 OL2.out
 obtain ⟨x20, x21, x22, x23, _, _⟩ := own4 OX2.out
 obtain ⟨r20, r21, r22, _, _⟩ := own3 OR2.out
 refine hK.out _ _ (⟨t20, t21, t22, x20, x21, x22, x23⟩) ?_
 clear hK K hHeld
 intro hHeld
 try simp only [Act.put, List.setIfInBounds_toArray, List.set_cons_zero, List.set_cons_succ]
 refine wpH_one (i := 11) (by kernel_rfl) rfl (fun K hK => ?_)
 rw [if_pos (by rfl)]
 go_simp
 refine (unasked_any _ _ _ ks x.s _ SA2.out (by omega)).mono ?_
 rintro e w3 ⟨xa, rfl, hs, hbb⟩
 have XA3 := Lib.hid (hs)
 obtain ⟨pxa, nxa, cxa, f0⟩ := XA3.out.slc
 subst f0
 have OT3 := Lib.hid (OT2.out.below hbb)
 have OL3 := Lib.hid (OL2.out.below hbb)
 have OX3 := Lib.hid (OX2.out.below hbb)
 have OR3 := Lib.hid (OR2.out.below hbb)
 have SU3 := Lib.hid (SU2.out.below hbb)
 have SG3 := Lib.hid (SG2.out.below hbb)
 have SA3 := Lib.hid (SA2.out.below hbb)
 have XU3 := Lib.hid (XU2.out.below hbb)
 have XG3 := Lib.hid (XG2.out.below hbb)
 have BB3 := Lib.hid (belowTo BB2.out hbb BB2.out.size)
 clear hbb hs
 obtain ⟨t30, t31, t32, _, _⟩ := own3 OT3.out
 obtain ⟨l30, l31, _, _⟩ := own2 OL3.out
 obtain ⟨x30, x31, x32, x33, _, _⟩ := own4 OX3.out
 obtain ⟨r30, r31, r32, _, _⟩ := own3 OR3.out
 refine hK.out _ _ (⟨t30, t31, t32, x30, x31, x32, x33⟩) ?_
 clear hK K hHeld
 intro hHeld
 try simp only [Act.put, List.setIfInBounds_toArray, List.set_cons_zero, List.set_cons_succ]
 refine tH 12 30 ?_
 refine wpH_one (i := 13) (by kernel_rfl) rfl (fun K hK => ?_)
 rw [if_pos (by rfl)]
 go_simp
 refine hK.out _ _ (⟨(far3 (by simp; try omega)).trans t30, (far3 (by simp; try omega)).trans t31, (far3 (by simp; try omega)).trans t32, (far3 (by simp; try omega)).trans x30, (far3 (by simp; try omega)).trans x31, (far3 (by simp; try omega)).trans x32, (far3 (by simp; try omega)).trans x33⟩) ?_
 clear hK K hHeld
 intro hHeld
 try simp only [Act.put, List.setIfInBounds_toArray, List.set_cons_zero, List.set_cons_succ]
 refine tH 14 7 ?_
 refine wpAnyH_done (by kernel_rfl) ?_ _
 have OF := Lib.hid (own_set3 (x := .slice pxu nxu cxu) (y := .slice pxg nxg cxg) (z := .slice pxa nxa cxa) OR3.out)
 have FU := Lib.hid (SlT.set3 XU3.out numU OR3.out (.slice pxu nxu cxu) (.slice pxg nxg cxg) (.slice pxa nxa cxa))
 have FG := Lib.hid (SlT.set3 XG3.out numG OR3.out (.slice pxu nxu cxu) (.slice pxg nxg cxg) (.slice pxa nxa cxa))
 have FA := Lib.hid (SlT.set3 XA3.out numA OR3.out (.slice pxu nxu cxu) (.slice pxg nxg cxg) (.slice pxa nxa cxa))
 have BF := Lib.hid (below_set3 (x := .slice pxu nxu cxu) (y := .slice pxg nxg cxg) (z := .slice pxa nxa cxa) BB3.out (show w.heap.size ≤ w.heap.size + 1 + 1 + 1 by omega))
 generalize (((w3.setCell ⟨w.heap.size + 1 + 1 + 1, 0, none⟩ (.slice pxu nxu cxu)).setCell ⟨w.heap.size + 1 + 1 + 1, 1, none⟩ (.slice pxg nxg cxg)).setCell ⟨w.heap.size + 1 + 1 + 1, 2, none⟩ (.slice pxa nxa cxa)) = wf at OF FU FG FA BF ⊢
 obtain ⟨q0, q1, q2, _, _⟩ := own3 OF.out
 go_wp2_with fail
 refine bodyPost_ret (v := .tuple #[.agg #[.slice pxu nxu cxu, .slice pxg nxg cxg, .slice pxa nxa cxa], .int .i64 0]) (by simp [results, Tryz.results24, go_sem, *]) rfl ⟨_, _, _, rfl, FU.out, FG.out, FA.out, BF.out⟩
theorem addu_lit (vu vg va : Value) (us : List Us) (gs : List Gr) (ks : List Ak) (N D : Int) (w : World) (su : SlU w vu us) (sg : SlG w vg gs) (sa : SlA w va ks) (x : Us) (u70 : us.length ≤ 70) (g70 : gs.length ≤ 70) (k70 : ks.length ≤ 70) (E : Int) (he : auE N D us gs ks x = E) : Calls Tryz.prog 24 #[.agg #[vu, vg, va], .agg #[.int .i64 N, .int .i64 D], .agg #[.int .i64 x.s, .int .i64 x.o, .int .i64 x.p, .int .i64 x.m]] w fun e w' => AddP w (auU us x E) (auG gs E) (adA ks x.s E) E e w' := by
 by_cases h : E = 0
 ·subst h
  have := addu_ok vu vg va us gs ks N D w su sg sa x u70 g70 k70 he
  simpa only [auU, auG, agU, agG, adA, if_pos rfl, if_true] using this
 ·have := addu_bad vu vg va us gs ks N D w su sg sa x u70 g70 k70 E he h
  simpa only [auU, auG, agU, agG, adA, if_neg h] using this
set_option maxRecDepth 100000 in
set_option maxHeartbeats 2000000 in
theorem addg_bad (vu vg va : Value) (us : List Us) (gs : List Gr) (ks : List Ak) (N D : Int) (w : World) (su : SlU w vu us) (sg : SlG w vg gs) (sa : SlA w va ks) (x : Gr) (u70 : us.length ≤ 70) (g70 : gs.length ≤ 70) (k70 : ks.length ≤ 70) (E : Int) (he : agE N D us gs ks x = E) (hn : ¬ E = 0) : Calls Tryz.prog 32 #[.agg #[vu, vg, va], .agg #[.int .i64 N, .int .i64 D], .agg #[.int .i64 x.s, .int .i64 x.o, .int .i64 x.p, .int .i64 x.m, .int .i64 x.u]] w fun e w' => AddP w [] [] [] E e w' := by
 obtain ⟨pu, cu, e0, hlu, hcu, _⟩ := su.form us.length rfl
 subst e0
 obtain ⟨pg, cg, e0, hlg, hcg, _⟩ := sg.form gs.length rfl
 subst e0
 obtain ⟨pa, ca, e0, hla, hca, _⟩ := sa.form ks.length rfl
 subst e0
 have SU := Lib.hid su
 have SG := Lib.hid sg
 have SA := Lib.hid sa
 clear su sg sa
 have iu0 : (0 : Int) ≤ (us.length : Int) := Int.natCast_nonneg _
 have ig0 : (0 : Int) ≤ (gs.length : Int) := Int.natCast_nonneg _
 have ia0 : (0 : Int) ≤ (ks.length : Int) := Int.natCast_nonneg _
 have iu : (us.length : Int) ≤ 70 := by omega
 have ig : (gs.length : Int) ≤ 70 := by omega
 have ia : (ks.length : Int) ≤ 70 := by omega
 have HE := Lib.hid he
 clear he
 go_enter Tryz.func32, Tryz.ntmps32
 have BW := Lib.hid (show Below w.heap.size w ((((w.alloc (.cells #[.slice pu us.length cu, .slice pg gs.length cg, .slice pa ks.length ca] 43)).alloc (.cells #[.int .i64 N, .int .i64 D] 31)).alloc (.cells #[.int .i64 x.s, .int .i64 x.o, .int .i64 x.p, .int .i64 x.m, .int .i64 x.u] 52)).alloc (.cells #[.slice none 0 0, .slice none 0 0, .slice none 0 0] 43)) from (((((Below.refl _ _).alloc (Nat.le_refl _) _).alloc (by simp) _).alloc (by simp; omega) _).alloc (by simp; omega) _))
 go_wp2_with fail
 refine (rfs_g_lit _ _ _ us gs ks N D _ (SU.out.below BW.out) (SG.out.below BW.out) (SA.out.below BW.out) x u70 g70 k70 E HE.out).mono ?_
 rintro e w1 ⟨rfl, hb⟩
 have oT : Own w1 w.heap.size [.slice pu us.length cu, .slice pg gs.length cg, .slice pa ks.length ca] 43 := ((((own_at _ _ rfl).alloc _).alloc _).alloc _).below hb
 have oL : Own w1 (w.heap.size + 1) [.int .i64 N, .int .i64 D] 31 := (((own_at _ _ (by simp)).alloc _).alloc _).below hb
 have oX : Own w1 (w.heap.size + 1 + 1) [.int .i64 x.s, .int .i64 x.o, .int .i64 x.p, .int .i64 x.m, .int .i64 x.u] 52 := ((own_at _ _ (by simp)).alloc _).below hb
 have oR : Own w1 (w.heap.size + 1 + 1 + 1) [.slice none 0 0, .slice none 0 0, .slice none 0 0] 43 := (own_at _ _ (by simp)).below hb
 have bel := belowTo (((((Below.refl w.heap.size w).alloc (by simp) _).alloc (by simp) _).alloc (by simp; omega) _).alloc (by simp; omega) _) hb (by simp; omega)
 clear hb
 obtain ⟨cT0, cT1, cT2, fT, zT⟩ := own3 oT
 obtain ⟨cL0, cL1, fL, zL⟩ := own2 oL
 obtain ⟨cX0, cX1, cX2, cX3, cX4, fX, zX⟩ := own5 oX
 obtain ⟨cR0, cR1, cR2, fR, zR⟩ := own3 oR
 go_wp2_with fail
 have hN3 : w.heap.size ≤ w.heap.size + 1 + 1 + 1 := by omega
 refine bodyPost_ret (v := .tuple #[.agg #[.slice none 0 0, .slice none 0 0, .slice none 0 0], .int .i64 E]) (by simp [results, Tryz.results32, go_sem, *]) rfl ⟨_, _, _, rfl, slt_nil0 _ _, slt_nil0 _ _, slt_nil0 _ _, ?_⟩
 exact below_set3 bel (by omega)
set_option maxRecDepth 100000 in
set_option maxHeartbeats 2000000 in
theorem addg_ok (vu vg va : Value) (us : List Us) (gs : List Gr) (ks : List Ak) (N D : Int) (w : World) (su : SlU w vu us) (sg : SlG w vg gs) (sa : SlA w va ks) (x : Gr) (u70 : us.length ≤ 70) (g70 : gs.length ≤ 70) (k70 : ks.length ≤ 70) (he : agE N D us gs ks x = 0) : Calls Tryz.prog 32 #[.agg #[vu, vg, va], .agg #[.int .i64 N, .int .i64 D], .agg #[.int .i64 x.s, .int .i64 x.o, .int .i64 x.p, .int .i64 x.m, .int .i64 x.u]] w fun e w' => AddP w (us) (adG x gs) (una x.s ks) 0 e w' := by
 obtain ⟨pu, cu, e0, hlu, hcu, _⟩ := su.form us.length rfl
 subst e0
 obtain ⟨pg, cg, e0, hlg, hcg, _⟩ := sg.form gs.length rfl
 subst e0
 obtain ⟨pa, ca, e0, hla, hca, _⟩ := sa.form ks.length rfl
 subst e0
 have SU := Lib.hid su
 have SG := Lib.hid sg
 have SA := Lib.hid sa
 clear su sg sa
 have iu0 : (0 : Int) ≤ (us.length : Int) := Int.natCast_nonneg _
 have ig0 : (0 : Int) ≤ (gs.length : Int) := Int.natCast_nonneg _
 have ia0 : (0 : Int) ≤ (ks.length : Int) := Int.natCast_nonneg _
 have iu : (us.length : Int) ≤ 70 := by omega
 have ig : (gs.length : Int) ≤ 70 := by omega
 have ia : (ks.length : Int) ≤ 70 := by omega
 have HE := Lib.hid he
 clear he
 go_enter Tryz.func32, Tryz.ntmps32
 have BW := Lib.hid (show Below w.heap.size w ((((w.alloc (.cells #[.slice pu us.length cu, .slice pg gs.length cg, .slice pa ks.length ca] 43)).alloc (.cells #[.int .i64 N, .int .i64 D] 31)).alloc (.cells #[.int .i64 x.s, .int .i64 x.o, .int .i64 x.p, .int .i64 x.m, .int .i64 x.u] 52)).alloc (.cells #[.slice none 0 0, .slice none 0 0, .slice none 0 0] 43)) from (((((Below.refl _ _).alloc (Nat.le_refl _) _).alloc (by simp) _).alloc (by simp; omega) _).alloc (by simp; omega) _))
 go_wp2_with fail
 refine (rfs_g_lit _ _ _ us gs ks N D _ (SU.out.below BW.out) (SG.out.below BW.out) (SA.out.below BW.out) x u70 g70 k70 0 HE.out).mono ?_
 rintro e w1 ⟨rfl, hb⟩
 have oT : Own w1 w.heap.size [.slice pu us.length cu, .slice pg gs.length cg, .slice pa ks.length ca] 43 := ((((own_at _ _ rfl).alloc _).alloc _).alloc _).below hb
 have oL : Own w1 (w.heap.size + 1) [.int .i64 N, .int .i64 D] 31 := (((own_at _ _ (by simp)).alloc _).alloc _).below hb
 have oX : Own w1 (w.heap.size + 1 + 1) [.int .i64 x.s, .int .i64 x.o, .int .i64 x.p, .int .i64 x.m, .int .i64 x.u] 52 := ((own_at _ _ (by simp)).alloc _).below hb
 have oR : Own w1 (w.heap.size + 1 + 1 + 1) [.slice none 0 0, .slice none 0 0, .slice none 0 0] 43 := (own_at _ _ (by simp)).below hb
 have bel := belowTo (((((Below.refl w.heap.size w).alloc (by simp) _).alloc (by simp) _).alloc (by simp; omega) _).alloc (by simp; omega) _) hb (by simp; omega)
 clear hb
 obtain ⟨cT0, cT1, cT2, fT, zT⟩ := own3 oT
 obtain ⟨cL0, cL1, fL, zL⟩ := own2 oL
 obtain ⟨cX0, cX1, cX2, cX3, cX4, fX, zX⟩ := own5 oX
 obtain ⟨cR0, cR1, cR2, fR, zR⟩ := own3 oR
 have h01 : ¬ ((0 : Int) ≠ 0) := fun h => h rfl
 go_wp2_with fail
 have OT0 := Lib.hid (oT.drew)
 have OL0 := Lib.hid (oL.drew)
 have OX0 := Lib.hid (oX.drew)
 have OR0 := Lib.hid (oR.drew)
 have BB0 := Lib.hid bel.drew
 have SU0 := Lib.hid (SU.out.below BB0.out)
 have SG0 := Lib.hid (SG.out.below BB0.out)
 have SA0 := Lib.hid (SA.out.below BB0.out)
 clear oT cT0 cT1 cT2 fT zT oL cL0 cL1 fL zL oX cX0 cX1 cX2 cX3 cX4 fX zX oR cR0 cR1 cR2 fR zR bel
 obtain ⟨t00, t01, t02, _, _⟩ := own3 OT0.out
 obtain ⟨l00, l01, _, _⟩ := own2 OL0.out
 obtain ⟨x00, x01, x02, x03, x04, _, _⟩ := own5 OX0.out
 obtain ⟨r00, r01, r02, _, _⟩ := own3 OR0.out
 refine region_H 15 #[false, false, false, false, false, false, false, false, false, false, false, false, false, false, false] (by kernel_rfl) (by kernel_rfl) (fun w' => w'.cell? ⟨w.heap.size, 0, none⟩ = some (.slice pu us.length cu) ∧ w'.cell? ⟨w.heap.size, 1, none⟩ = some (.slice pg gs.length cg) ∧ w'.cell? ⟨w.heap.size, 2, none⟩ = some (.slice pa ks.length ca) ∧ w'.cell? ⟨w.heap.size + 1 + 1, 0, none⟩ = some (.int .i64 x.s) ∧ w'.cell? ⟨w.heap.size + 1 + 1, 1, none⟩ = some (.int .i64 x.o) ∧ w'.cell? ⟨w.heap.size + 1 + 1, 2, none⟩ = some (.int .i64 x.p) ∧ w'.cell? ⟨w.heap.size + 1 + 1, 3, none⟩ = some (.int .i64 x.m) ∧ w'.cell? ⟨w.heap.size + 1 + 1, 4, none⟩ = some (.int .i64 x.u)) (by kernel_rfl) ?x17s (fun hHeld => ?x17r)
 case x17s => exact ⟨t00, t01, t02, x00, x01, x02, x03, x04⟩
 refine tH 0 18 ?_
 refine tH 1 19 ?_
 refine tH 3 21 ?_
 refine tH 4 22 ?_
 refine tH 5 23 ?_
 refine tH 7 25 ?_
 refine tH 8 26 ?_
 refine tH 9 27 ?_
 refine tH 10 28 ?_
 refine wpH_one (i := 2) (by kernel_rfl) rfl (fun K hK => ?_)
 rw [if_pos (by rfl)]
 go_simp
 refine (clone_u _ us _ SU0.out (by omega)).mono ?_
 rintro e w1 ⟨xu, rfl, hs, hbb⟩
 have XU1 := Lib.hid (slt_of_own (L := usL) hs)
 obtain ⟨pxu, nxu, cxu, f0⟩ := XU1.out.slc
 subst f0
 have OT1 := Lib.hid (OT0.out.below hbb)
 have OL1 := Lib.hid (OL0.out.below hbb)
 have OX1 := Lib.hid (OX0.out.below hbb)
 have OR1 := Lib.hid (OR0.out.below hbb)
 have SU1 := Lib.hid (SU0.out.below hbb)
 have SG1 := Lib.hid (SG0.out.below hbb)
 have SA1 := Lib.hid (SA0.out.below hbb)
 have BB1 := Lib.hid (belowTo BB0.out hbb BB0.out.size)
 clear hbb hs
 obtain ⟨t10, t11, t12, _, _⟩ := own3 OT1.out
 obtain ⟨l10, l11, _, _⟩ := own2 OL1.out
 obtain ⟨x10, x11, x12, x13, x14, _, _⟩ := own5 OX1.out
 obtain ⟨r10, r11, r12, _, _⟩ := own3 OR1.out
 refine hK.out _ _ (⟨t10, t11, t12, x10, x11, x12, x13, x14⟩) ?_
 clear hK K hHeld
 intro hHeld
 try simp only [Act.put, List.setIfInBounds_toArray, List.set_cons_zero, List.set_cons_succ]
 refine wpH_one (i := 6) (by kernel_rfl) rfl (fun K hK => ?_)
 rw [if_pos (by rfl)]
 go_simp
 refine (ins_g _ gs x _ SG1.out g70).mono ?_
 rintro e w2 ⟨xg, rfl, hs, hbb⟩
 have XG2 := Lib.hid (hs)
 obtain ⟨pxg, nxg, cxg, f0⟩ := XG2.out.slc
 subst f0
 have OT2 := Lib.hid (OT1.out.below hbb)
 have OL2 := Lib.hid (OL1.out.below hbb)
 have OX2 := Lib.hid (OX1.out.below hbb)
 have OR2 := Lib.hid (OR1.out.below hbb)
 have SU2 := Lib.hid (SU1.out.below hbb)
 have SG2 := Lib.hid (SG1.out.below hbb)
 have SA2 := Lib.hid (SA1.out.below hbb)
 have XU2 := Lib.hid (XU1.out.below hbb)
 have BB2 := Lib.hid (belowTo BB1.out hbb BB1.out.size)
 clear hbb hs
 obtain ⟨t20, t21, t22, _, _⟩ := own3 OT2.out
 obtain ⟨l20, l21, _, _⟩ := own2 OL2.out
 obtain ⟨x20, x21, x22, x23, x24, _, _⟩ := own5 OX2.out
 obtain ⟨r20, r21, r22, _, _⟩ := own3 OR2.out
 refine hK.out _ _ (⟨t20, t21, t22, x20, x21, x22, x23, x24⟩) ?_
 clear hK K hHeld
 intro hHeld
 try simp only [Act.put, List.setIfInBounds_toArray, List.set_cons_zero, List.set_cons_succ]
 refine wpH_one (i := 11) (by kernel_rfl) rfl (fun K hK => ?_)
 rw [if_pos (by rfl)]
 go_simp
 refine (unasked_any _ _ _ ks x.s _ SA2.out (by omega)).mono ?_
 rintro e w3 ⟨xa, rfl, hs, hbb⟩
 have XA3 := Lib.hid (hs)
 obtain ⟨pxa, nxa, cxa, f0⟩ := XA3.out.slc
 subst f0
 have OT3 := Lib.hid (OT2.out.below hbb)
 have OL3 := Lib.hid (OL2.out.below hbb)
 have OX3 := Lib.hid (OX2.out.below hbb)
 have OR3 := Lib.hid (OR2.out.below hbb)
 have SU3 := Lib.hid (SU2.out.below hbb)
 have SG3 := Lib.hid (SG2.out.below hbb)
 have SA3 := Lib.hid (SA2.out.below hbb)
 have XU3 := Lib.hid (XU2.out.below hbb)
 have XG3 := Lib.hid (XG2.out.below hbb)
 have BB3 := Lib.hid (belowTo BB2.out hbb BB2.out.size)
 clear hbb hs
 obtain ⟨t30, t31, t32, _, _⟩ := own3 OT3.out
 obtain ⟨l30, l31, _, _⟩ := own2 OL3.out
 obtain ⟨x30, x31, x32, x33, x34, _, _⟩ := own5 OX3.out
 obtain ⟨r30, r31, r32, _, _⟩ := own3 OR3.out
 refine hK.out _ _ (⟨t30, t31, t32, x30, x31, x32, x33, x34⟩) ?_
 clear hK K hHeld
 intro hHeld
 try simp only [Act.put, List.setIfInBounds_toArray, List.set_cons_zero, List.set_cons_succ]
 refine tH 12 30 ?_
 refine wpH_one (i := 13) (by kernel_rfl) rfl (fun K hK => ?_)
 rw [if_pos (by rfl)]
 go_simp
 refine hK.out _ _ (⟨(far3 (by simp; try omega)).trans t30, (far3 (by simp; try omega)).trans t31, (far3 (by simp; try omega)).trans t32, (far3 (by simp; try omega)).trans x30, (far3 (by simp; try omega)).trans x31, (far3 (by simp; try omega)).trans x32, (far3 (by simp; try omega)).trans x33, (far3 (by simp; try omega)).trans x34⟩) ?_
 clear hK K hHeld
 intro hHeld
 try simp only [Act.put, List.setIfInBounds_toArray, List.set_cons_zero, List.set_cons_succ]
 refine tH 14 7 ?_
 refine wpAnyH_done (by kernel_rfl) ?_ _
 have OF := Lib.hid (own_set3 (x := .slice pxu nxu cxu) (y := .slice pxg nxg cxg) (z := .slice pxa nxa cxa) OR3.out)
 have FU := Lib.hid (SlT.set3 XU3.out numU OR3.out (.slice pxu nxu cxu) (.slice pxg nxg cxg) (.slice pxa nxa cxa))
 have FG := Lib.hid (SlT.set3 XG3.out numG OR3.out (.slice pxu nxu cxu) (.slice pxg nxg cxg) (.slice pxa nxa cxa))
 have FA := Lib.hid (SlT.set3 XA3.out numA OR3.out (.slice pxu nxu cxu) (.slice pxg nxg cxg) (.slice pxa nxa cxa))
 have BF := Lib.hid (below_set3 (x := .slice pxu nxu cxu) (y := .slice pxg nxg cxg) (z := .slice pxa nxa cxa) BB3.out (show w.heap.size ≤ w.heap.size + 1 + 1 + 1 by omega))
 generalize (((w3.setCell ⟨w.heap.size + 1 + 1 + 1, 0, none⟩ (.slice pxu nxu cxu)).setCell ⟨w.heap.size + 1 + 1 + 1, 1, none⟩ (.slice pxg nxg cxg)).setCell ⟨w.heap.size + 1 + 1 + 1, 2, none⟩ (.slice pxa nxa cxa)) = wf at OF FU FG FA BF ⊢
 obtain ⟨q0, q1, q2, _, _⟩ := own3 OF.out
 go_wp2_with fail
 refine bodyPost_ret (v := .tuple #[.agg #[.slice pxu nxu cxu, .slice pxg nxg cxg, .slice pxa nxa cxa], .int .i64 0]) (by simp [results, Tryz.results32, go_sem, *]) rfl ⟨_, _, _, rfl, FU.out, FG.out, FA.out, BF.out⟩
theorem addg_lit (vu vg va : Value) (us : List Us) (gs : List Gr) (ks : List Ak) (N D : Int) (w : World) (su : SlU w vu us) (sg : SlG w vg gs) (sa : SlA w va ks) (x : Gr) (u70 : us.length ≤ 70) (g70 : gs.length ≤ 70) (k70 : ks.length ≤ 70) (E : Int) (he : agE N D us gs ks x = E) : Calls Tryz.prog 32 #[.agg #[vu, vg, va], .agg #[.int .i64 N, .int .i64 D], .agg #[.int .i64 x.s, .int .i64 x.o, .int .i64 x.p, .int .i64 x.m, .int .i64 x.u]] w fun e w' => AddP w (agU us E) (agG gs x E) (adA ks x.s E) E e w' := by
 by_cases h : E = 0
 ·subst h
  have := addg_ok vu vg va us gs ks N D w su sg sa x u70 g70 k70 he
  simpa only [auU, auG, agU, agG, adA, if_pos rfl, if_true] using this
 ·have := addg_bad vu vg va us gs ks N D w su sg sa x u70 g70 k70 E he h
  simpa only [auU, auG, agU, agG, adA, if_neg h] using this
end Go.Proofs.YtmopiifamopidaaGreat
end
section
namespace Go.Proofs.YtmopiifamopidaaGreat
open Go.RowKit
set_option maxRecDepth 100000 in
set_option maxHeartbeats 2000000 in
theorem tak_bad (vu vg va : Value) (us : List Us) (gs : List Gr) (ks : List Ak) (N D me f : Int) (v : Value) (l : List Nr) (w : World) (su : SlU w vu us) (sg : SlG w vg gs) (sa : SlA w va ks) (u70 : us.length ≤ 70) (g70 : gs.length ≤ 70) (k70 : ks.length ≤ 70) (sl : SlN w v l) (ho : NsOk w l) (h1000 : l.length ≤ 1000) (hfew : ∀ r ∈ l, r.b.us.length ≤ 100 ∧ r.b.gs.length ≤ 100 ∧ r.b.ks.length ≤ 100) (f0 : 0 ≤ f) (f1 : f ≤ 1000000) (hs : sideB N D ⟨us, gs, ks⟩ me (l.map Nr.b) f = false) : Calls Tryz.prog 10 #[.agg #[.int .i64 N, .int .i64 D], .agg #[vu, vg, va], .int .i64 me, v, .int .i64 f] w (TblP w us gs ks) := by
 obtain ⟨pu, cu, e0, hlu, hcu, _⟩ := su.form us.length rfl
 subst e0
 obtain ⟨pg, cg, e0, hlg, hcg, _⟩ := sg.form gs.length rfl
 subst e0
 obtain ⟨pa, ca, e0, hla, hca, _⟩ := sa.form ks.length rfl
 subst e0
 have SU := Lib.hid su
 have SG := Lib.hid sg
 have SA := Lib.hid sa
 clear su sg sa
 have iu0 : (0 : Int) ≤ (us.length : Int) := Int.natCast_nonneg _
 have ig0 : (0 : Int) ≤ (gs.length : Int) := Int.natCast_nonneg _
 have ia0 : (0 : Int) ≤ (ks.length : Int) := Int.natCast_nonneg _
 have iu : (us.length : Int) ≤ 70 := by omega
 have ig : (gs.length : Int) ≤ 70 := by omega
 have ia : (ks.length : Int) ≤ 70 := by omega
 have HO := Lib.hid ho
 have HS := Lib.hid hs
 clear ho hs
 obtain ⟨p, cap, e0, hlc, hcm, hpn⟩ := sl.form l.length rfl
 subst e0
 have SL := Lib.hid sl
 unfold maxLen at hcm
 clear hpn sl
 go_enter Tryz.func10, Tryz.ntmps10
 go_wp2_with fail
 refine (new_any _ _ _ us gs ks N D me f _ l _ (SU.out.below ((((Below.refl _ _).alloc (by exact Nat.le_refl _) _).alloc (by simp) _).alloc (by simp; omega) _)) (SG.out.below ((((Below.refl _ _).alloc (by exact Nat.le_refl _) _).alloc (by simp) _).alloc (by simp; omega) _)) (SA.out.below ((((Below.refl _ _).alloc (by exact Nat.le_refl _) _).alloc (by simp) _).alloc (by simp; omega) _)) u70 g70 k70 (SL.out.below ((((Below.refl _ _).alloc (by exact Nat.le_refl _) _).alloc (by simp) _).alloc (by simp; omega) _)) (HO.out.below ((((Below.refl _ _).alloc (by exact Nat.le_refl _) _).alloc (by simp) _).alloc (by simp; omega) _)) h1000 hfew false HS.out).mono ?_
 rintro e w1 ⟨rfl, hb⟩
 have oL : Own w1 w.heap.size [.int .i64 N, .int .i64 D] 31 := (((own_at _ _ rfl).alloc _).alloc _).below hb
 have oT : Own w1 (w.heap.size + 1) [.slice pu us.length cu, .slice pg gs.length cg, .slice pa ks.length ca] 43 := ((own_at _ _ (by simp)).alloc _).below hb
 have oR : Own w1 (w.heap.size + 1 + 1) [.slice none 0 0, .slice none 0 0, .slice none 0 0] 43 := (own_at _ _ (by simp)).below hb
 have bel := belowTo ((((Below.refl w.heap.size w).alloc (by simp) _).alloc (by simp) _).alloc (by simp; omega) _) hb (by simp; omega)
 clear hb
 obtain ⟨cL0, cL1, fL, zL⟩ := own2 oL
 obtain ⟨cT0, cT1, cT2, fT, zT⟩ := own3 oT
 obtain ⟨cR0, cR1, cR2, fR, zR⟩ := own3 oR
 go_wp2_with fail
 replace oL := (((oL.other (by first | (simp; done) | (simp; omega) | omega | (dsimp only; omega)) (a := ⟨w.heap.size + 1 + 1, 0, none⟩) (.slice pu us.length cu)).other (by first | (simp; done) | (simp; omega) | omega | (dsimp only; omega)) (a := ⟨w.heap.size + 1 + 1, 1, none⟩) (.slice pg gs.length cg)).other (by first | (simp; done) | (simp; omega) | omega | (dsimp only; omega)) (a := ⟨w.heap.size + 1 + 1, 2, none⟩) (.slice pa ks.length ca))
 replace oT := (((oT.other (by first | (simp; done) | (simp; omega) | omega | (dsimp only; omega)) (a := ⟨w.heap.size + 1 + 1, 0, none⟩) (.slice pu us.length cu)).other (by first | (simp; done) | (simp; omega) | omega | (dsimp only; omega)) (a := ⟨w.heap.size + 1 + 1, 1, none⟩) (.slice pg gs.length cg)).other (by first | (simp; done) | (simp; omega) | omega | (dsimp only; omega)) (a := ⟨w.heap.size + 1 + 1, 2, none⟩) (.slice pa ks.length ca))
 replace bel := (((bel.setCell (p := ⟨w.heap.size + 1 + 1, 0, none⟩) (by first | (simp; done) | (simp; omega) | omega | (dsimp only; omega)) (.slice pu us.length cu)).setCell (p := ⟨w.heap.size + 1 + 1, 1, none⟩) (by first | (simp; done) | (simp; omega) | omega | (dsimp only; omega)) (.slice pg gs.length cg)).setCell (p := ⟨w.heap.size + 1 + 1, 2, none⟩) (by first | (simp; done) | (simp; omega) | omega | (dsimp only; omega)) (.slice pa ks.length ca))
 replace oR : Own _ (w.heap.size + 1 + 1) [.slice pu us.length cu, .slice pg gs.length cg, .slice pa ks.length ca] 43 := (((oR.set 0 (.slice pu us.length cu)).set 1 (.slice pg gs.length cg)).set 2 (.slice pa ks.length ca))
 clear cL0 cL1 fL zL cT0 cT1 cT2 fT zT cR0 cR1 cR2 fR zR
 generalize (((w1.setCell ⟨w.heap.size + 1 + 1, 0, none⟩ (.slice pu us.length cu)).setCell ⟨w.heap.size + 1 + 1, 1, none⟩ (.slice pg gs.length cg)).setCell ⟨w.heap.size + 1 + 1, 2, none⟩ (.slice pa ks.length ca)) = w2 at oL oT oR bel ⊢
 obtain ⟨cL0, cL1, fL, zL⟩ := own2 oL
 obtain ⟨cT0, cT1, cT2, fT, zT⟩ := own3 oT
 obtain ⟨cR0, cR1, cR2, fR, zR⟩ := own3 oR
 refine bodyPost_ret (v := .agg #[.slice pu us.length cu, .slice pg gs.length cg, .slice pa ks.length ca]) (by simp [results, Tryz.results10, go_sem, *]) rfl ⟨_, _, _, rfl, SU.out.below bel, SG.out.below bel, SA.out.below bel, bel⟩
theorem row_setN {w : World} {B k n b : Nat} {t : TypeId} {v : Value} {xs : List Value} (h : w.ownsRow B t k v n xs) (hne : ∀ k, v.ownBlock = some k → k ≠ b) (i : Nat) (x : Value) : (w.setCell ⟨b, i, none⟩ x).ownsRow B t k v n xs := by
 refine ⟨h.1, ?_⟩
 rcases h.2 with h2 | ⟨g, cap, cur, h1, h2, h3, h4⟩
 ·exact Or.inl h2
 ·refine Or.inr ⟨g, cap, cur, h1, h2, ?_, h4⟩
  refine (Below.heap_setCell w ⟨b, i, none⟩ x g (hne g ?_)).trans h3
  rw [h1]; rfl
def TI1 (w1 : World) (ks : List Ak) (i : Nat) (wz : World) : Prop := SetM wz w1.heap.size i ((ks.take i).map Ak.p) ∧ Below w1.heap.size w1 wz
def TI2 (w1 : World) (me f : Int) (S : List Nb) (us : List Us) (ks : List Ak) (i : Nat) (out : Value) (wz : World) : Prop := ∃ qs : List Us, SetM wz w1.heap.size (ks.length + i) (ks.map Ak.p ++ (us.take i).map Us.p) ∧ wz.ownsRow w1.heap.size 50 4 out qs.length (flatT usL qs) ∧ qs = (us.take i).filterMap (tkU1 me f S) ∧ Below w1.heap.size w1 wz
def TI4 (wl : World) (bT : Nat) (T : Tb) (wz : World) : Prop := Belo wl.heap.size bT wl wz ∧ TabW wz bT T
def TI3 (wl : World) (bT bN : Nat) (cs : List Value) (pl : Option Addr) (cl : Nat) (L : List Gr) (T : Tb) (wz : World) : Prop := Belo wl.heap.size bT wl wz ∧ TabW wz bT T ∧ Own wz bN cs 86 ∧ SlG wz (.slice pl L.length cl) L
set_option maxRecDepth 100000 in
set_option maxHeartbeats 8000000 in
theorem tak_ok (vu vg va : Value) (us : List Us) (gs : List Gr) (ks : List Ak) (N D me f : Int) (v : Value) (l : List Nr) (w : World) (su : SlU w vu us) (sg : SlG w vg gs) (sa : SlA w va ks) (u70 : us.length ≤ 70) (g70 : gs.length ≤ 70) (k70 : ks.length ≤ 70) (sl : SlN w v l) (ho : NsOk w l) (h1000 : l.length ≤ 1000) (hfew : ∀ r ∈ l, r.b.us.length ≤ 100 ∧ r.b.gs.length ≤ 100 ∧ r.b.ks.length ≤ 100) (f0 : 0 ≤ f) (f1 : f ≤ 1000000) (hs : sideB N D ⟨us, gs, ks⟩ me (l.map Nr.b) f = true) : Calls Tryz.prog 10 #[.agg #[.int .i64 N, .int .i64 D], .agg #[vu, vg, va], .int .i64 me, v, .int .i64 f] w (TblP w (takF N D ⟨us, gs, ks⟩ me (l.map Nr.b) f).us (takF N D ⟨us, gs, ks⟩ me (l.map Nr.b) f).gs (takF N D ⟨us, gs, ks⟩ me (l.map Nr.b) f).ks) := by
 have HVAL := Lib.hid (side_val hs)
 have HFM := Lib.hid (side_me hs).2
 have hlay := (layB_iff.1 HVAL.out.lay)
 have hNN : 1 ≤ N ∧ N ≤ 60 := hlay.1
 clear hlay
 have HFEW := Lib.hid hfew
 obtain ⟨pu, cu, e0, hlu, hcu, _⟩ := su.form us.length rfl
 subst e0
 obtain ⟨pg, cg, e0, hlg, hcg, _⟩ := sg.form gs.length rfl
 subst e0
 obtain ⟨pa, ca, e0, hla, hca, _⟩ := sa.form ks.length rfl
 subst e0
 have SU := Lib.hid su
 have SG := Lib.hid sg
 have SA := Lib.hid sa
 clear su sg sa
 have iu0 : (0 : Int) ≤ (us.length : Int) := Int.natCast_nonneg _
 have ig0 : (0 : Int) ≤ (gs.length : Int) := Int.natCast_nonneg _
 have ia0 : (0 : Int) ≤ (ks.length : Int) := Int.natCast_nonneg _
 have iu : (us.length : Int) ≤ 70 := by omega
 have ig : (gs.length : Int) ≤ 70 := by omega
 have ia : (ks.length : Int) ≤ 70 := by omega
 have HO := Lib.hid ho
 have HS := Lib.hid hs
 clear ho hs
 obtain ⟨p, cap, e0, hlc, hcm, hpn⟩ := sl.form l.length rfl
 subst e0
 have SL := Lib.hid sl
 unfold maxLen at hcm
 clear hpn sl
 obtain ⟨i0, hi, hz, hs0, hb0⟩ := info_parts info_u
 have IF := Lib.hid (And.intro hi (And.intro hz (And.intro hs0 hb0)))
 clear hi hz hs0 hb0
 have hmm := @run_makeMap Tryz.prog
 go_enter Tryz.func10, Tryz.ntmps10
 go_wp2_with fail
 refine (new_any _ _ _ us gs ks N D me f _ l _ (SU.out.below ((((Below.refl _ _).alloc (by exact Nat.le_refl _) _).alloc (by simp) _).alloc (by simp; omega) _)) (SG.out.below ((((Below.refl _ _).alloc (by exact Nat.le_refl _) _).alloc (by simp) _).alloc (by simp; omega) _)) (SA.out.below ((((Below.refl _ _).alloc (by exact Nat.le_refl _) _).alloc (by simp) _).alloc (by simp; omega) _)) u70 g70 k70 (SL.out.below ((((Below.refl _ _).alloc (by exact Nat.le_refl _) _).alloc (by simp) _).alloc (by simp; omega) _)) (HO.out.below ((((Below.refl _ _).alloc (by exact Nat.le_refl _) _).alloc (by simp) _).alloc (by simp; omega) _)) h1000 hfew true HS.out).mono ?_
 rintro e w1 ⟨bs, ⟨sp, sn, sc⟩, S, rfl, os, s1, o1, hS, hbs, hb⟩
 dsimp only at os s1
 have e2 := s1.len_eq
 subst e2
 have oL : Own w1 w.heap.size [.int .i64 N, .int .i64 D] 31 := (((own_at _ _ rfl).alloc _).alloc _).below hb
 have oT : Own w1 (w.heap.size + 1) [.slice pu us.length cu, .slice pg gs.length cg, .slice pa ks.length ca] 43 := ((own_at _ _ (by simp)).alloc _).below hb
 have oR : Own w1 (w.heap.size + 1 + 1) [.slice none 0 0, .slice none 0 0, .slice none 0 0] 43 := (own_at _ _ (by simp)).below hb
 have bel := belowTo ((((Below.refl w.heap.size w).alloc (by simp) _).alloc (by simp) _).alloc (by simp; omega) _) hb (by simp; omega)
 clear hb
 obtain ⟨cL0, cL1, fL, zL⟩ := own2 oL
 obtain ⟨cT0, cT1, cT2, fT, zT⟩ := own3 oT
 obtain ⟨cR0, cR1, cR2, fR, zR⟩ := own3 oR
 simp only [World.size_alloc] at hbs
 have oS := os
 clear os
 have HSM := Lib.hid hS
 clear hS
 obtain ⟨cS0, cS1, cS2, cS3, cS4, fS, zS⟩ := own5 oS
 have hSl : S.length ≤ 1000 := by have h9 := congrArg List.length HSM.out; simp only [sidL, List.length_map] at h9; omega
 have HSF := Lib.hid (show ∀ r ∈ S, r.b.gs.length ≤ 100 from fun r hr => by
  have h9 : r.b ∈ S.map Nr.b := List.mem_map_of_mem hr
  rw [HSM.out] at h9
  obtain ⟨m, hm, hm2⟩ := List.mem_map.1 h9
  obtain ⟨x, hx, rfl⟩ := List.mem_map.1 hm
  rw [← hm2]
  exact Nat.le_trans (List.length_filter_le _ _) (HFEW.out x hx).2.1)
 have HSP := Lib.hid (show ∀ r ∈ S, 0 ≤ r.b.fm ∧ r.b.fm < N from fun r hr => by
  have h9 : r.b ∈ S.map Nr.b := List.mem_map_of_mem hr
  rw [HSM.out] at h9
  obtain ⟨m, hm, hm2⟩ := List.mem_map.1 h9
  rw [← hm2]
  exact HFM.out m hm)
 have oL1 := Lib.hid oL
 have oT1 := Lib.hid oT
 have oR1 := Lib.hid oR
 have oS1 := Lib.hid oS
 have SU1 := Lib.hid (SU.out.below bel)
 have SG1 := Lib.hid (SG.out.below bel)
 have SA1 := Lib.hid (SA.out.below bel)
 have SS1 := Lib.hid s1
 have OO1 := Lib.hid o1
 have BB1 := Lib.hid bel
 have zT1 : w.heap.size + 1 < w1.heap.size := zT
 have zL1 : w.heap.size < w1.heap.size := zL
 have zS1 : bs < w1.heap.size := zS
 have zR1 : w.heap.size + 1 + 1 < w1.heap.size := zR
 clear s1 o1 bel
 go_wp2_with fail
 have SM0 := Lib.hid (setM_made w1)
 have B0 := Lib.hid (belowNew w1 (.map #[] 0))
 clear cL0 cL1 fL zL cT0 cT1 cT2 fT zT cR0 cR1 cR2 fR zR cS0 cS1 cS2 cS3 cS4 fS zS oL oT oR oS
 generalize w1.alloc (.map #[] 0) = w2 at SM0 B0 ⊢
 go_loopw [45] (fun ii wz => ∃ i : Nat, i ≤ ks.length ∧ ii = .int .i64 i ∧ TI1 w1 ks i wz) (fun ii _ => ks.length - (intOf ii).toNat)
 case atStart => exact ⟨0, by omega, rfl, SM0.out, B0.out⟩
 case round =>
  obtain ⟨i, hi, rfl, hsm, bel⟩ := hrel
  have SM := Lib.hid hsm
  have BE := Lib.hid bel
  clear hsm
  have j0 : (0 : Int) ≤ (i : Int) := Int.natCast_nonneg _
  by_cases hlt : i < ks.length
  ·obtain ⟨x, bx, ox, hx, rfl, hbl, _, x0, x1, x2⟩ := SA1.out.atA BE.out hlt
   have j1 : (i : Int) < (ks.length : Int) := by omega
   have HX := Lib.hid hx
   have hxp : 0 ≤ x.p ∧ x.p < N := (plcB_iff.1 (HVAL.out.oa x (mem_of_at hx))).2.2
   obtain ⟨hp0, hp1⟩ := hxp
   clear hx
   go_wp2_with (first | ((with_reducible refine setM_add w1.heap.size i x.p ((ks.take i).map Ak.p) ?_ ?_ (SM.out.below (belowNew wr (Obj.cells #[.int .i64 x.s, .int .i64 x.o, .int .i64 x.p] 81))) ?_ ?_ ?_); (next => rfl); (next => exact ⟨_, _, _, rfl, rfl, rfl, rfl⟩); (next => omega); (next => omega); intro w3 hset hgrow) | fail)
   go_roundw
   case rel => exact ⟨i + 1, by omega, by go_num, by rw [take_snocG HX.out, List.map_append]; exact hset, (BE.out.alloc BE.out.size _).grown hgrow (by have h9 := BE.out.size; simp; omega) (fun k hk => by injection hk with hk; omega)⟩
   case measure => simp [intOf]; omega
  ·obtain ⟨wq1, rfl⟩ : ∃ wo : World, wo = wr := ⟨_, rfl⟩
   obtain rfl : i = ks.length := by omega
   have oT := oT1.out.below bel
   obtain ⟨t0, t1, t2, fT, zT⟩ := own3 oT
   have TI0 := Lib.hid (show TI2 w1 me f (S.map Nr.b) us ks 0 (.slice none 0 0) wq1 from ⟨[], by simpa using SM.out, World.ownsRow_nil _ _ _ _, rfl, bel⟩)
   go_wp2_with fail
   clear oT t0 t1 t2 fT zT SM BE bel
   go_loopw [16, 56] (fun out ii wz => ∃ i : Nat, i ≤ us.length ∧ ii = .int .i64 i ∧ TI2 w1 me f (S.map Nr.b) us ks i out wz) (fun _ ii _ => us.length - (intOf ii).toNat)
   case atStart => exact ⟨0, by omega, rfl, TI0.out⟩
   case round =>
    obtain ⟨i, hi2, rfl, qs, hsm, hrow, hqs, bel⟩ := hrel
    have SM := Lib.hid hsm
    have BE := Lib.hid bel
    have ROW := Lib.hid hrow
    have HQS := Lib.hid hqs
    have hql : qs.length ≤ 70 := by rw [hqs]; exact Nat.le_trans (List.length_filterMap_le _ _) (by rw [List.length_take]; omega)
    obtain ⟨pq, cq, hv⟩ := row_form hrow
    subst hv
    clear hsm hrow hqs
    have j0 : (0 : Int) ≤ (i : Int) := Int.natCast_nonneg _
    by_cases hlt2 : i < us.length
    ·obtain ⟨d, b, off, hd, rfl, hbl, _, d0, d1, d2, d3⟩ := SU1.out.atU BE.out hlt2
     have j1 : (i : Int) < (us.length : Int) := by omega
     have HD := Lib.hid hd
     have hdp : 0 ≤ d.p ∧ d.p < N := (by have h9 := HVAL.out.ou d (mem_of_at hd); simp only [usB, Bool.and_eq_true] at h9; exact (plcB_iff.1 h9.1.1).2.2)
     obtain ⟨hp0, hp1⟩ := hdp
     have HNR := Lib.hid (fun k hk => (ROW.out.lt k hk).2)
     clear hd bel
     go_wp2_with (first | ((with_reducible refine setM_add w1.heap.size (ks.length + i) d.p (ks.map Ak.p ++ (us.take i).map Us.p) ?_ ?_ (SM.out.below (belowNew wr (Obj.cells #[.int .i64 d.s, .int .i64 d.o, .int .i64 d.p, .int .i64 d.m] 50))) ?_ ?_ ?_); (next => rfl); (next => exact ⟨_, _, _, rfl, rfl, rfl, rfl⟩); (next => omega); (next => omega); intro w3 hset hgrow; have bel : Below w1.heap.size w1 w3 := (BE.out.alloc BE.out.size _).grown hgrow (by have h9 := BE.out.size; simp; omega) (fun k hk => by injection hk with hk; omega); have oU : Own w3 wr.heap.size [.int .i64 d.s, .int .i64 d.o, .int .i64 d.p, .int .i64 d.m] 50 := own_map (own_at _ _ rfl) (SM.out.below (belowNew wr (Obj.cells #[.int .i64 d.s, .int .i64 d.o, .int .i64 d.p, .int .i64 d.m] 50))) hgrow; obtain ⟨cU0, cU1, cU2, cU3, fU, zU⟩ := own4 oU) | fail)
     have RW := Lib.hid (row_map (ROW.out.below (belowNew wr (Obj.cells #[.int .i64 d.s, .int .i64 d.o, .int .i64 d.p, .int .i64 d.m] 50))) (SM.out.below (belowNew wr (Obj.cells #[.int .i64 d.s, .int .i64 d.o, .int .i64 d.p, .int .i64 d.m] 50))) hgrow)
     have SW := Lib.hid (show SetM w3 w1.heap.size (ks.length + (i + 1)) (ks.map Ak.p ++ (us.take (i + 1)).map Us.p) from by rw [take_snocG HD.out, List.map_append, ← List.append_assoc]; exact hset)
     have hw1r : w1.heap.size ≤ wr.heap.size := BE.out.size
     clear hset hgrow d0 d1 d2 d3
     refine (find_any bs N D me f ⟨sp, S.length, sc⟩ S d.p _ (oS1.out.below bel) (SS1.out.below bel) (OO1.out.below bel) hSl).mono ?_
     rintro e w5 ⟨r, xb, rfl, rok, hrb, hb⟩
     replace oU := oU.below hb
     replace RW := Lib.hid (RW.out.below hb)
     replace SW := Lib.hid (SW.out.below hb)
     replace bel := belowTo bel hb (by exact bel.size)
     clear hb
     clear cU0 cU1 cU2 cU3 fU zU
     obtain ⟨cU0, cU1, cU2, cU3, fU, zU⟩ := own4 oU
     have RK := Lib.hid rok
     have HRB := Lib.hid hrb
     have h24 : r.b.gs.length ≤ 100 := by
      rw [HRB.out]
      cases hfn : fndF d.p (S.map Nr.b) with
      | none => simp [nb0]
      | some n =>
       obtain ⟨h1, _⟩ := fnd_mem hfn
       obtain ⟨x, hx, rfl⟩ := List.mem_map.1 h1
       exact HSF.out x hx
     clear rok hrb
     go_wp2_with (first | ((with_reducible refine storeNewN r w5.heap.size ?_ ?_ ?_ ?_); (next => exact ⟨_, _, rfl, rfl, rfl⟩); (next => rfl); (next => first | rfl | simp)) | ((with_reducible refine loadNg r w5.heap.size 0 ?_ ?_ (rg_new w5 r) ?_); (next => exact ⟨_, rfl, rfl⟩); (next => rfl)) | fail)
     refine (grd_any bs N D me f ⟨sp, S.length, sc⟩ r _ (oS1.out.below (bel.alloc bel.size _)) (RK.out.below (belowNew _ _)) h24).mono ?_
     rintro e w6 ⟨v1, rfl, g1, hb⟩
     replace oU := (oU.alloc _).below hb
     replace RW := Lib.hid ((RW.out.below (belowNew _ _)).below hb)
     replace SW := Lib.hid ((SW.out.below (belowNew _ _)).below hb)
     replace RK := Lib.hid ((RK.out.below (belowNew _ _)).below hb)
     replace bel := belowTo (bel.alloc (by have := bel.size; first | (simp; done) | (simp; omega)) _) hb (by have := bel.size; first | (simp; done) | (simp; omega))
     clear hb
     clear cU0 cU1 cU2 cU3 fU zU
     obtain ⟨cU0, cU1, cU2, cU3, fU, zU⟩ := own4 oU
     obtain ⟨L, hL⟩ : ∃ L, grdF me f r.b.gs = L := ⟨_, rfl⟩
     rw [hL] at g1
     have HTK := Lib.hid (tkU1_of (u := d) (show grdF me f ((fndF d.p (S.map Nr.b)).getD nb0).gs = L by rw [← HRB.out]; exact hL))
     have hLl : L.length ≤ 100 := by rw [← hL]; exact Nat.le_trans (List.length_filter_le _ _) h24
     clear hL
     obtain ⟨pl, nl, cl, rfl⟩ := g1.slc
     have e9 := g1.len_eq
     subst e9
     have GL := Lib.hid g1
     clear g1
     rcases idx_cases (fun g : Gr => g.s == d.s && g.o == d.o) L with ⟨hi0, _⟩ | ⟨k, g, hk, _, hi0, _, hfi, _⟩
     ·have HI := Lib.hid hi0
      have HT1 := Lib.hid (show tkU1 me f (S.map Nr.b) d = none by rw [HTK.out]; rw [Option.map_eq_none_iff, List.find?_eq_none]; intro g hg; have h9 := List.any_eq_false.1 (show L.any (fun g : Gr => g.s == d.s && g.o == d.o) = false from by rename_i h8; exact h8) g hg; simpa using h9)
      clear hi0
      go_wp2_with fail
      refine (ixx_tak1 _ L wr.heap.size (fun g : Gr => g.s == d.s && g.o == d.o) w6.heap.size (-1) _ GL.out (Nat.le_refl _) (fun g wx hbx => tak1_any wr.heap.size d.s d.o g wx (Nat.lt_of_lt_of_le zU hbx.size) ((hbx.cell (p := ⟨wr.heap.size, 0, none⟩) zU).trans cU0) ((hbx.cell (p := ⟨wr.heap.size, 1, none⟩) zU).trans cU1)) HI.out).mono ?_
      rintro e w7 ⟨rfl, hb⟩
      replace oU := oU.below hb
      replace RW := Lib.hid (RW.out.below hb)
      replace SW := Lib.hid (SW.out.below hb)
      replace GL := Lib.hid (GL.out.below hb)
      replace bel := belowTo bel hb (by exact bel.size)
      clear hb
      clear cU0 cU1 cU2 cU3 fU zU
      obtain ⟨cU0, cU1, cU2, cU3, fU, zU⟩ := own4 oU
      go_wp2_with fail
      go_roundw
      case rel => exact ⟨i + 1, by omega, by go_num, qs, SW.out, RW.out, by rw [take_fm HD.out, HT1.out, HQS.out]; simp, bel⟩
      case measure => simp [intOf]; omega
     ·have HI := Lib.hid hi0
      have HK := Lib.hid hk
      have HT1 := Lib.hid (show tkU1 me f (S.map Nr.b) d = some (⟨d.s, d.o, d.p, g.m⟩ : Us) by rw [HTK.out, hfi]; rfl)
      have hkl : k < L.length := (List.getElem?_eq_some_iff.1 hk).1
      clear hi0 hfi hk
      go_wp2_with fail
      refine (ixx_tak1 _ L wr.heap.size (fun g : Gr => g.s == d.s && g.o == d.o) w6.heap.size ((k : Int)) _ GL.out (Nat.le_refl _) (fun g wx hbx => tak1_any wr.heap.size d.s d.o g wx (Nat.lt_of_lt_of_le zU hbx.size) ((hbx.cell (p := ⟨wr.heap.size, 0, none⟩) zU).trans cU0) ((hbx.cell (p := ⟨wr.heap.size, 1, none⟩) zU).trans cU1)) HI.out).mono ?_
      rintro e w7 ⟨rfl, hb⟩
      replace oU := oU.below hb
      replace RW := Lib.hid (RW.out.below hb)
      replace SW := Lib.hid (SW.out.below hb)
      replace GL := Lib.hid (GL.out.below hb)
      replace bel := belowTo bel hb (by exact bel.size)
      clear hb
      clear cU0 cU1 cU2 cU3 fU zU
      obtain ⟨cU0, cU1, cU2, cU3, fU, zU⟩ := own4 oU
      obtain ⟨g9, bg, og, hg9, rfl, hbg, _, y0, y1, y2, y3, y4⟩ := GL.out.atG (Below.refl _ _) hkl
      obtain rfl : g9 = g := by have h9 := HK.out; rw [hg9] at h9; exact Option.some.inj h9
      have k0 : (0 : Int) ≤ (k : Int) := Int.natCast_nonneg _
      have k1 : (k : Int) < (L.length : Int) := by omega
      have R8 := Lib.hid (row_setN RW.out (b := wr.heap.size) (fun k hk => Nat.ne_of_lt (HNR.out k hk)) 3 (.int .i64 g9.m))
      have S8 := Lib.hid (SW.out.set oU 3 (.int .i64 g9.m))
      have B8 := Lib.hid (bel.setCell (p := ⟨wr.heap.size, 3, none⟩) hw1r (.int .i64 g9.m))
      clear hg9
      go_wp2_with (at_builtin; refine wpList_append_own _ rfl _ _ 39 rfl w1.heap.size 50 i0 _ 4 32 (by kernel_rfl) IF.out.1 IF.out.2.1 IF.out.2.2.1 IF.out.2.2.2 rfl (by decide) _ qs.length (flatT usL qs) rfl (R8.out.alloc _) _ 1 1 (usL.f (⟨d.s, d.o, d.p, g9.m⟩ : Us)) rfl rfl (newsTn (L := usL) (w := (w7.setCell ⟨wr.heap.size, 3, none⟩ (.int .i64 g9.m))) (by simp) (⟨d.s, d.o, d.p, g9.m⟩ : Us) 50) (usL.one _) ?qc4 ?qc5 ?qc6 ?_)
      case qc4 => unfold maxLen; omega
      case qc5 => omega
      case qc6 => have := B8.out.size; simp at this; simp; omega
      intro v2 w9 hown hgrow hnil
      have B9 := Lib.hid ((B8.out.alloc B8.out.size (Obj.cells #[.int .i64 d.s, .int .i64 d.o, .int .i64 d.p, .int .i64 g9.m] 50)).grown hgrow (by have := B8.out.size; simp at this; simp; omega) (fun k hk => (R8.out.lt k hk).1))
      have S9 := Lib.hid ((S8.out.below (belowNew _ (Obj.cells #[.int .i64 d.s, .int .i64 d.o, .int .i64 d.p, .int .i64 g9.m] 50))).row (R8.out.alloc (Obj.cells #[.int .i64 d.s, .int .i64 d.o, .int .i64 d.p, .int .i64 g9.m] 50)) hgrow)
      have R9 := Lib.hid hown
      clear hown hgrow hnil
      go_wp2_with fail
      go_roundw
      case rel => exact ⟨i + 1, by omega, by go_num, qs ++ [(⟨d.s, d.o, d.p, g9.m⟩ : Us)], S9.out, by have h9 := R9.out; rw [flatT_append, flatT_one]; simpa using h9, by rw [take_fm HD.out, HT1.out, HQS.out]; rfl, B9.out⟩
      case measure => simp [intOf]; omega
    ·obtain ⟨wq2, rfl⟩ : ∃ wo : World, wo = wr := ⟨_, rfl⟩
     obtain rfl : i = us.length := by omega
     obtain ⟨ps, hps⟩ : ∃ ps, ks.map Ak.p ++ us.map Us.p = ps := ⟨_, rfl⟩
     have HPS := Lib.hid hps
     have SMq := Lib.hid (show SetM wq2 w1.heap.size (ks.length + us.length) ps from by have h9 := SM.out; rw [List.take_length, hps] at h9; exact h9)
     have hqe := HQS.out
     rw [List.take_length] at hqe
     obtain ⟨T1, hT1⟩ : ∃ T1 : Tb, T1 = ⟨tkU me f (S.map Nr.b) us, gs, ks⟩ := ⟨_, rfl⟩
     have HT1 := Lib.hid hT1
     have HVT := Lib.hid (show T1.Val N D from by rw [hT1, HSM.out]; exact tkU_val HVAL.out)
     have oT := oT1.out.below bel
     have oS := oS1.out.below bel
     have HB2 := Lib.hid (((Belo.refl w1.heap.size (w.heap.size + 1) w1).to bel).set 0 (.slice pq qs.length cq))
     have HTAB := Lib.hid (show TabW (wq2.setCell ⟨w.heap.size + 1, 0, none⟩ (.slice pq qs.length cq)) (w.heap.size + 1) T1 from by rw [hT1]; exact ⟨⟨pq, qs.length, cq⟩, ⟨pg, gs.length, cg⟩, ⟨pa, ks.length, ca⟩, oT.set 0 _, (by have h9 := slt_of_own (L := usL) (row_setT ROW.out oT (by decide) 0 (.slice pq qs.length cq)); rw [hqe] at h9 ⊢; exact h9), HB2.out.slt SG1.out numG oT1.out, HB2.out.slt SA1.out numA oT1.out⟩)
     have SMl := Lib.hid (SMq.out.set oT 0 (.slice pq qs.length cq))
     clear hT1 hps hqe SM ROW BE SMq
     obtain ⟨cT0, cT1, cT2, fT, zT⟩ := own3 oT
     obtain ⟨cS0, cS1, cS2, cS3, cS4, fS, zS⟩ := own5 oS
     go_wp2_with fail
     clear cT0 cT1 cT2 fT zT cS0 cS1 cS2 cS3 cS4 fS zS oT oS bel
     generalize wq2.setCell ⟨w.heap.size + 1, 0, none⟩ (.slice pq qs.length cq) = wl at HB2 HTAB SMl ⊢
     have oL := HB2.out.own oL1.out zL1 (by omega)
     have oLl := Lib.hid oL
     have oR := HB2.out.own oR1.out zR1 (by omega)
     have oRl := Lib.hid oR
     have oS := HB2.out.own oS1.out zS1 (by omega)
     have oSl := Lib.hid oS
     obtain ⟨su, sg, sa, oT, _, _, _⟩ := HTAB.out
     have oTl := Lib.hid oT
     have SSl := Lib.hid (HB2.out.sln SS1.out oT1.out)
     have OOl := Lib.hid (HB2.out.nsok OO1.out oT1.out)
     have zTl : w.heap.size + 1 < wl.heap.size := oT.lt
     have zLl : w.heap.size < wl.heap.size := oL.lt
     have zSl : bs < wl.heap.size := oS.lt
     have zRl : w.heap.size + 1 + 1 < wl.heap.size := oR.lt
     have zMl : w1.heap.size < wl.heap.size := SMl.out.lt
     have hMT : w1.heap.size ≠ w.heap.size + 1 := by omega
     have BBl := Lib.hid (BB1.out.trans (HB2.out.below (C := w.heap.size) (by omega) (by omega)))
     clear oL oR oS oT
     go_loopw [96] (fun ii wz => ∃ i : Nat, i ≤ S.length ∧ ii = .int .i64 i ∧ TI4 wl (w.heap.size + 1) (((S.take i).map Nr.b).foldl (tkN N D me f ps) T1) wz) (fun ii _ => S.length - (intOf ii).toNat)
     case atStart => exact ⟨0, by omega, rfl, Belo.refl _ _ _, HTAB.out⟩
     case round =>
      obtain ⟨wo, rfl⟩ : ∃ wo : World, wo = wr := ⟨_, rfl⟩
      obtain ⟨i, hi3, rfl, hB, htab⟩ := hrel
      obtain ⟨Ti, hTi⟩ : ∃ Ti, ((S.take i).map Nr.b).foldl (tkN N D me f ps) T1 = Ti := ⟨_, rfl⟩
      have HVi := Lib.hid (show Ti.Val N D from by rw [← hTi]; exact foldl_inv (P := fun T : Tb => T.Val N D) (fun _ _ _ h => tkN_val h) HVT.out)
      rw [hTi] at htab
      have HTi := Lib.hid hTi
      have HB := Lib.hid hB
      have HTB := Lib.hid htab
      clear hB htab hTi
      have j0 : (0 : Int) ≤ (i : Int) := Int.natCast_nonneg _
      by_cases hlt3 : i < S.length
      ·have oL := HB.out.own oLl.out zLl (by omega)
       have oR := HB.out.own oRl.out zRl (by omega)
       have oS := HB.out.own oSl.out zSl (by omega)
       have SS := Lib.hid (HB.out.sln SSl.out oTl.out)
       have OO := Lib.hid (HB.out.nsok OOl.out oTl.out)
       obtain ⟨d, b, off, hd, rfl, hbl, _, hrg⟩ := SS.out.atN (Below.refl _ _) hlt3
       have j1 : (i : Int) < (S.length : Int) := by omega
       have HD := Lib.hid hd
       have HR := Lib.hid hrg
       have hm9 := mem_of_at hd
       have KD := Lib.hid (OO.out d hm9)
       have h24 := HSF.out d hm9
       obtain ⟨hp0, hp1⟩ := HSP.out d hm9
       have SMo := Lib.hid (SMl.out.belo HB.out zMl hMT)
       clear hd hrg hm9
       have bel := Below.refl wo.heap.size wo
       clear oR oL
       cases hh : ps.contains d.b.fm with
       | false =>
        have HH := Lib.hid hh
        clear hh
        go_wp2_with (first | ((with_reducible refine loadN d b (off + i * 31) ?_ ?_ HR.out ?_); (next => rfl); (next => exact ⟨_, rfl, rfl⟩)) | ((with_reducible refine storeNewN d wo.heap.size ?_ ?_ ?_ ?_); (next => exact ⟨_, _, rfl, rfl, rfl⟩); (next => rfl); (next => first | rfl | simp)) | ((with_reducible refine setM_look w1.heap.size (ks.length + us.length) d.b.fm ps ?_ ?_ (SMo.out.below (belowNew wo (Obj.cells #[.int .i64 d.b.fr, .int .i64 d.b.fm, .int .i64 0, .int .i64 0, .int .i64 0, .int .i64 0, .int .i64 0, .int .i64 0, .int .i64 0, .int .i64 0, .int .i64 0, .int .i64 0, .slice d.vu.p d.vu.n d.vu.c, .slice d.vg.p d.vg.n d.vg.c, .slice d.va.p d.va.n d.va.c, .slice none 0 0, .bool false, .slice none 0 0, .slice none 0 0, .slice none 0 0, .int .i64 0, .int .i64 0, .int .u64 0, .int .i64 0, .int .i64 0, .int .i64 0, .int .i64 0, .int .i64 0, .slice none 0 0, .slice none 0 0, .bool false] 86))) ?_ false HH.out ?_); (next => rfl); (next => exact ⟨_, _, rfl, rfl, rfl⟩); (next => omega)) | fail)
        go_roundw
        case rel => exact ⟨i + 1, by omega, by go_num, HB.out.next (belowNew _ _) HB.out.size, by rw [fold_stepM HD.out, HTi.out, tkN_skip HH.out]; exact HTB.out.below (belowNew _ _)⟩
        case measure => simp [intOf]; omega
       | true =>
        have HH := Lib.hid hh
        clear hh
        go_wp2_with (first | ((with_reducible refine loadN d b (off + i * 31) ?_ ?_ HR.out ?_); (next => rfl); (next => exact ⟨_, rfl, rfl⟩)) | ((with_reducible refine storeNewN d wo.heap.size ?_ ?_ ?_ ?_); (next => exact ⟨_, _, rfl, rfl, rfl⟩); (next => rfl); (next => first | rfl | simp)) | ((with_reducible refine setM_look w1.heap.size (ks.length + us.length) d.b.fm ps ?_ ?_ (SMo.out.below (belowNew wo (Obj.cells #[.int .i64 d.b.fr, .int .i64 d.b.fm, .int .i64 0, .int .i64 0, .int .i64 0, .int .i64 0, .int .i64 0, .int .i64 0, .int .i64 0, .int .i64 0, .int .i64 0, .int .i64 0, .slice d.vu.p d.vu.n d.vu.c, .slice d.vg.p d.vg.n d.vg.c, .slice d.va.p d.va.n d.va.c, .slice none 0 0, .bool false, .slice none 0 0, .slice none 0 0, .slice none 0 0, .int .i64 0, .int .i64 0, .int .u64 0, .int .i64 0, .int .i64 0, .int .i64 0, .int .i64 0, .int .i64 0, .slice none 0 0, .slice none 0 0, .bool false] 86))) ?_ true HH.out ?_); (next => rfl); (next => exact ⟨_, _, rfl, rfl, rfl⟩); (next => omega)) | ((with_reducible refine loadNg d wo.heap.size 0 ?_ ?_ (rg_new wo d) ?_); (next => exact ⟨_, rfl, rfl⟩); (next => rfl)) | fail)
        refine (grd_any bs N D me f ⟨_, S.length, sc⟩ d _ (oS.below (belowNew _ _)) (KD.out.below (belowNew _ _)) h24).mono ?_
        rintro e w2 ⟨v1, rfl, g1, hb⟩
        have oN : Own w2 wo.heap.size [.int .i64 d.b.fr, .int .i64 d.b.fm, .int .i64 0, .int .i64 0, .int .i64 0, .int .i64 0, .int .i64 0, .int .i64 0, .int .i64 0, .int .i64 0, .int .i64 0, .int .i64 0, .slice d.vu.p d.vu.n d.vu.c, .slice d.vg.p d.vg.n d.vg.c, .slice d.va.p d.va.n d.va.c, .slice none 0 0, .bool false, .slice none 0 0, .slice none 0 0, .slice none 0 0, .int .i64 0, .int .i64 0, .int .u64 0, .int .i64 0, .int .i64 0, .int .i64 0, .int .i64 0, .int .i64 0, .slice none 0 0, .slice none 0 0, .bool false] 86 := (own_at _ _ rfl).below hb
        replace bel := belowTo (bel.alloc (by have := bel.size; first | (simp; done) | (simp; omega)) _) hb (by have := bel.size; first | (simp; done) | (simp; omega))
        clear hb
        have cN1 := oN.cell (i := 1) rfl
        have fN := oN.frozen
        have zN := oN.lt
        obtain ⟨L, hL⟩ : ∃ L, grdF me f d.b.gs = L := ⟨_, rfl⟩
        rw [hL] at g1
        have HL := Lib.hid hL
        have hLl : L.length ≤ 100 := by rw [← hL]; exact Nat.le_trans (List.length_filter_le _ _) h24
        clear hL
        obtain ⟨pl, nl, cl, rfl⟩ := g1.slc
        have e9 := g1.len_eq
        subst e9
        have GL2 := Lib.hid g1
        clear g1
        obtain ⟨bN, hbN⟩ : ∃ bN, wo.heap.size = bN := ⟨_, rfl⟩
        have hNl : wl.heap.size ≤ bN := by rw [← hbN]; exact HB.out.size
        have hNT : bN ≠ w.heap.size + 1 := by omega
        rw [hbN] at oN cN1 zN fN
        have HBN := Lib.hid hbN
        clear hbN
        have HB2o := Lib.hid (HB.out.next bel HB.out.size)
        have HTB2 := Lib.hid (HTB.out.below bel)
        have oNl := Lib.hid oN
        rw [HBN.out]
        go_wp2_with fail
        clear cN1 fN zN oN oS SS OO bel HB HTB KD SMo
        go_loopw [110] (fun jj wz => ∃ j : Nat, j ≤ L.length ∧ jj = .int .i64 j ∧ TI3 wl (w.heap.size + 1) bN [.int .i64 d.b.fr, .int .i64 d.b.fm, .int .i64 0, .int .i64 0, .int .i64 0, .int .i64 0, .int .i64 0, .int .i64 0, .int .i64 0, .int .i64 0, .int .i64 0, .int .i64 0, .slice d.vu.p d.vu.n d.vu.c, .slice d.vg.p d.vg.n d.vg.c, .slice d.va.p d.va.n d.va.c, .slice none 0 0, .bool false, .slice none 0 0, .slice none 0 0, .slice none 0 0, .int .i64 0, .int .i64 0, .int .u64 0, .int .i64 0, .int .i64 0, .int .i64 0, .int .i64 0, .int .i64 0, .slice none 0 0, .slice none 0 0, .bool false] pl cl L ((L.take j).foldl (tkA N D d.b.fm) Ti) wz) (fun jj _ => L.length - (intOf jj).toNat)
        case atStart => exact ⟨0, by omega, rfl, HB2o.out, HTB2.out, oNl.out, GL2.out⟩
        case round =>
         obtain ⟨j, hj, rfl, hB, htab, oN, hgl⟩ := hrel
         obtain ⟨Tj, hTj⟩ : ∃ Tj, (L.take j).foldl (tkA N D d.b.fm) Ti = Tj := ⟨_, rfl⟩
         have HVj := Lib.hid (show Tj.Val N D from by rw [← hTj]; exact foldl_inv (P := fun T : Tb => T.Val N D) (fun _ _ _ h => tkA_val h) HVi.out)
         rw [hTj] at htab
         have HTj := Lib.hid hTj
         have HB := Lib.hid hB
         have HTB := Lib.hid htab
         have ON := Lib.hid oN
         have GL := Lib.hid hgl
         clear hB htab hTj oN hgl
         have i0 : (0 : Int) ≤ (j : Int) := Int.natCast_nonneg _
         by_cases hlt4 : j < L.length
         ·have oL := HB.out.own oLl.out zLl (by omega)
          obtain ⟨x, bx, ox, hx, rfl, hbxl, _, x0, x1, x2, x3, x4⟩ := GL.out.atG (Below.refl _ _) hlt4
          have i1 : (j : Int) < (L.length : Int) := by omega
          have HX := Lib.hid hx
          clear hx
          have oN := ON.out
          have bel := Below.refl wr.heap.size wr
          obtain ⟨su, sg, sa, oT, t1, t2, t3⟩ := HTB.out
          have TU := Lib.hid t1
          have TG := Lib.hid t2
          have TA := Lib.hid t3
          have hl2 := us_len HVj.out
          clear t1 t2 t3
          obtain ⟨cL0, cL1, fL, zL⟩ := own2 oL
          obtain ⟨cT0, cT1, cT2, fT, zT⟩ := own3 oT
          have cN1 := oN.cell (i := 1) rfl
          have fN := oN.frozen
          have zN := oN.lt
          obtain ⟨E, hE⟩ : ∃ E, auE N D Tj.us Tj.gs Tj.ks ⟨x.s, x.o, d.b.fm, x.m⟩ = E := ⟨_, rfl⟩
          have HE := Lib.hid hE
          clear hE
          go_wp2_with fail
          refine (addu_lit _ _ _ Tj.us Tj.gs Tj.ks N D _ (TU.out.below (belowNew _ _)) (TG.out.below (belowNew _ _)) (TA.out.below (belowNew _ _)) ⟨x.s, x.o, d.b.fm, x.m⟩ (by omega) (by omega) (by omega) E HE.out).mono ?_
          rintro e w7 ⟨v1, v2, v3, rfl, e1, e2, e3, hb⟩
          replace oL := (oL.alloc _).below hb
          replace oT := (oT.alloc _).below hb
          replace oN := (oN.alloc _).below hb
          replace TU := Lib.hid ((TU.out.below (belowNew _ _)).below hb)
          replace TG := Lib.hid ((TG.out.below (belowNew _ _)).below hb)
          replace TA := Lib.hid ((TA.out.below (belowNew _ _)).below hb)
          replace GL := Lib.hid ((GL.out.below (belowNew _ _)).below hb)
          have oG : Own w7 wr.heap.size [.int .i64 x.s, .int .i64 x.o, .int .i64 x.p, .int .i64 x.m, .int .i64 x.u] 52 := (own_at _ _ rfl).below hb
          replace bel := belowTo (bel.alloc (by have := bel.size; first | (simp; done) | (simp; omega)) _) hb (by have := bel.size; first | (simp; done) | (simp; omega))
          clear hb
          clear cL0 cL1 fL zL cT0 cT1 cT2 fT zT cN1 fN zN
          obtain ⟨cL0, cL1, fL, zL⟩ := own2 oL
          obtain ⟨cT0, cT1, cT2, fT, zT⟩ := own3 oT
          have cN1 := oN.cell (i := 1) rfl
          have fN := oN.frozen
          have zN := oN.lt
          obtain ⟨cG0, cG1, cG2, cG3, cG4, fG, zG⟩ := own5 oG
          obtain ⟨y1, m1, k1, rfl⟩ := e1.slc
          obtain ⟨y2, m2, k2, rfl⟩ := e2.slc
          obtain ⟨y3, m3, k3, rfl⟩ := e3.slc
          have E1 := Lib.hid e1
          have E2 := Lib.hid e2
          have E3 := Lib.hid e3
          clear e1 e2 e3
          by_cases hE0 : E = 0
          ·subst hE0
           have HEs := Lib.hid HE.out
           have TN := Lib.hid ((set3_tab (T := ⟨adU ⟨x.s, x.o, d.b.fm, x.m⟩ Tj.us, Tj.gs, una x.s Tj.ks⟩) (su := ⟨y1, m1, k1⟩) (sg := ⟨y2, m2, k2⟩) (sa := ⟨y3, m3, k3⟩) oT E1.out E2.out E3.out).below (belowNew _ (Obj.cells #[.slice y1 m1 k1, .slice y2 m2 k2, .slice y3 m3 k3] 43)))
           have BN := Lib.hid (((HB.out.next bel HB.out.size).set3 (.slice y1 m1 k1) (.slice y2 m2 k2) (.slice y3 m3 k3)).next (belowNew _ (Obj.cells #[.slice y1 m1 k1, .slice y2 m2 k2, .slice y3 m3 k3] 43)) (by have h1 := HB.out.size; have h2 := bel.size; simp; omega))
           have NN := Lib.hid (((((ON.out.below bel).other (a := ⟨w.heap.size + 1, 0, none⟩) hNT (.slice y1 m1 k1)).other (a := ⟨w.heap.size + 1, 1, none⟩) hNT (.slice y2 m2 k2)).other (a := ⟨w.heap.size + 1, 2, none⟩) hNT (.slice y3 m3 k3)).below (belowNew _ (Obj.cells #[.slice y1 m1 k1, .slice y2 m2 k2, .slice y3 m3 k3] 43)))
           have GN := Lib.hid ((GL.out.set3 numG oT (.slice y1 m1 k1) (.slice y2 m2 k2) (.slice y3 m3 k3)).below (belowNew _ (Obj.cells #[.slice y1 m1 k1, .slice y2 m2 k2, .slice y3 m3 k3] 43)))
           go_wp2_with fail
           go_roundw
           case rel => exact ⟨j + 1, by omega, by go_num, BN.out, by rw [fold_step HX.out, HTj.out, tkA_ok HEs.out]; exact TN.out, NN.out, GN.out⟩
           case measure => simp [intOf]; omega
          ·have hE1 : (E == 0) = false := by simpa using hE0
           have HC2 := Lib.hid (show ¬ auE N D Tj.us Tj.gs Tj.ks ⟨x.s, x.o, d.b.fm, x.m⟩ = 0 by rw [HE.out]; exact hE0)
           clear hE0
           go_wp2_with fail
           go_roundw
           case rel => exact ⟨j + 1, by omega, by go_num, HB.out.next (bel.alloc bel.size _) HB.out.size, by rw [fold_step HX.out, HTj.out, tkA_not HC2.out]; exact HTB.out.below (bel.alloc bel.size _), ON.out.below (bel.alloc bel.size _), GL.out.below (belowNew _ _)⟩
           case measure => simp [intOf]; omega
         ·have HTe := Lib.hid (show Tj = L.foldl (tkA N D d.b.fm) Ti by rw [← HTj.out, List.take_of_length_le (by omega)])
          go_wp2_with fail
          go_roundw
          case rel => exact ⟨i + 1, by omega, by go_num, HB.out, by rw [fold_stepM HD.out, HTi.out, tkN_do HH.out, HL.out, ← HTe.out]; exact HTB.out⟩
          case measure => simp [intOf]; omega
      ·have oL := HB.out.own oLl.out zLl (by omega)
       have oR := HB.out.own oRl.out zRl (by omega)
       have oS := HB.out.own oSl.out zSl (by omega)
       have SS := Lib.hid (HB.out.sln SSl.out oTl.out)
       have OO := Lib.hid (HB.out.nsok OOl.out oTl.out)
       obtain ⟨su, sg, sa, oT, t1, t2, t3⟩ := HTB.out
       have TU := Lib.hid t1
       have TG := Lib.hid t2
       have TA := Lib.hid t3
       have HTe := Lib.hid (show Ti = takF N D ⟨us, gs, ks⟩ me (l.map Nr.b) f from by rw [← HTi.out, List.take_of_length_le (by omega), takF, if_pos HS.out, HT1.out, HSM.out, ← HPS.out])
       have bel := BBl.out.trans (HB.out.below (by omega) (by omega))
       clear t1 t2 t3 oL
       obtain ⟨cR0, cR1, cR2, fR, zR⟩ := own3 oR
       obtain ⟨cT0, cT1, cT2, fT, zT⟩ := own3 oT
       go_wp2_with fail
       replace TU := Lib.hid (TU.out.set3 numU oR (.slice su.p su.n su.c) (.slice sg.p sg.n sg.c) (.slice sa.p sa.n sa.c))
       replace TG := Lib.hid (TG.out.set3 numG oR (.slice su.p su.n su.c) (.slice sg.p sg.n sg.c) (.slice sa.p sa.n sa.c))
       replace TA := Lib.hid (TA.out.set3 numA oR (.slice su.p su.n su.c) (.slice sg.p sg.n sg.c) (.slice sa.p sa.n sa.c))
       replace oT := (((oT.other (by first | (simp; done) | (simp; omega) | omega | (dsimp only; omega)) (a := ⟨w.heap.size + 1 + 1, 0, none⟩) (.slice su.p su.n su.c)).other (by first | (simp; done) | (simp; omega) | omega | (dsimp only; omega)) (a := ⟨w.heap.size + 1 + 1, 1, none⟩) (.slice sg.p sg.n sg.c)).other (by first | (simp; done) | (simp; omega) | omega | (dsimp only; omega)) (a := ⟨w.heap.size + 1 + 1, 2, none⟩) (.slice sa.p sa.n sa.c))
       replace bel := (((bel.setCell (p := ⟨w.heap.size + 1 + 1, 0, none⟩) (by first | (simp; done) | (simp; omega) | omega | (dsimp only; omega)) (.slice su.p su.n su.c)).setCell (p := ⟨w.heap.size + 1 + 1, 1, none⟩) (by first | (simp; done) | (simp; omega) | omega | (dsimp only; omega)) (.slice sg.p sg.n sg.c)).setCell (p := ⟨w.heap.size + 1 + 1, 2, none⟩) (by first | (simp; done) | (simp; omega) | omega | (dsimp only; omega)) (.slice sa.p sa.n sa.c))
       replace oR : Own _ (w.heap.size + 1 + 1) [.slice su.p su.n su.c, .slice sg.p sg.n sg.c, .slice sa.p sa.n sa.c] 43 := (((oR.set 0 (.slice su.p su.n su.c)).set 1 (.slice sg.p sg.n sg.c)).set 2 (.slice sa.p sa.n sa.c))
       clear cR0 cR1 cR2 fR zR cT0 cT1 cT2 fT zT
       generalize (((wo.setCell ⟨w.heap.size + 1 + 1, 0, none⟩ (.slice su.p su.n su.c)).setCell ⟨w.heap.size + 1 + 1, 1, none⟩ (.slice sg.p sg.n sg.c)).setCell ⟨w.heap.size + 1 + 1, 2, none⟩ (.slice sa.p sa.n sa.c)) = wf at oR oT TU TG TA bel ⊢
       obtain ⟨cR0, cR1, cR2, fR, zR⟩ := own3 oR
       obtain ⟨cT0, cT1, cT2, fT, zT⟩ := own3 oT
       try rw [Exit.noGoto_ret]
       rw [← HTe.out]
       refine bodyPost_ret (v := .agg #[.slice su.p su.n su.c, .slice sg.p sg.n sg.c, .slice sa.p sa.n sa.c]) (by simp [results, Tryz.results10, go_sem, *]) rfl ⟨_, _, _, rfl, TU.out, TG.out, TA.out, bel⟩
theorem tak_any (vu vg va : Value) (us : List Us) (gs : List Gr) (ks : List Ak) (N D me f : Int) (v : Value) (l : List Nr) (w : World) (su : SlU w vu us) (sg : SlG w vg gs) (sa : SlA w va ks) (u70 : us.length ≤ 70) (g70 : gs.length ≤ 70) (k70 : ks.length ≤ 70) (sl : SlN w v l) (ho : NsOk w l) (h1000 : l.length ≤ 1000) (hfew : ∀ r ∈ l, r.b.us.length ≤ 100 ∧ r.b.gs.length ≤ 100 ∧ r.b.ks.length ≤ 100) (f0 : 0 ≤ f) (f1 : f ≤ 1000000) : Calls Tryz.prog 10 #[.agg #[.int .i64 N, .int .i64 D], .agg #[vu, vg, va], .int .i64 me, v, .int .i64 f] w (TblP w (takF N D ⟨us, gs, ks⟩ me (l.map Nr.b) f).us (takF N D ⟨us, gs, ks⟩ me (l.map Nr.b) f).gs (takF N D ⟨us, gs, ks⟩ me (l.map Nr.b) f).ks) := by
 cases hs : sideB N D ⟨us, gs, ks⟩ me (l.map Nr.b) f with
 | false => rw [show takF N D ⟨us, gs, ks⟩ me (l.map Nr.b) f = ⟨us, gs, ks⟩ by simp [takF, hs]]; exact tak_bad vu vg va us gs ks N D me f v l w su sg sa u70 g70 k70 sl ho h1000 hfew f0 f1 hs
 | true => exact tak_ok vu vg va us gs ks N D me f v l w su sg sa u70 g70 k70 sl ho h1000 hfew f0 f1 hs
end Go.Proofs.YtmopiifamopidaaGreat
end
section
namespace Go.Proofs.YtmopiifamopidaaGreat
open Go.RowKit
theorem any_clm {gr : Bool} {f cs co : Int} {q : Int × Int → Bool} : ∀ {L : List Nr}, (clmL gr f cs co (L.filter (latR f))).any q = L.any (fun r => latB f r.b && (clmN gr f cs co r.b).any q)
 | [] => rfl
 | r :: L => by
  rw [List.filter_cons]
  cases h : latR f r with
  | false =>
   have h2 : latB f r.b = false := h
   simp only [Bool.false_eq_true, if_false, List.any_cons, h2, Bool.false_and, Bool.false_or]
   exact any_clm
  | true =>
   have h2 : latB f r.b = true := h
   simp only [if_true, List.any_cons, h2, Bool.true_and]
   rw [← any_clm (L := L)]
   simp [clmL]
theorem beats_u {f me : Int} {u : Us} {L : List Nr} : (clmL true f u.s u.o (L.filter (latR f))).any (btnB u.m me) = (L.map Nr.b).any (bgB f me u) := by
 rw [any_clm, List.any_map]
 congr 1
 funext r
 simp only [Function.comp, bgB, clmN, cgT, cuT, if_true, List.append_nil, List.any_map, List.any_filter]
 rfl
theorem beats_g {f : Int} {g : Gr} {L : List Nr} : (clmL false f g.s g.o (L.filter (latR f))).any (btnB g.m g.p) = (L.map Nr.b).any (buB f g) := by
 rw [any_clm, List.any_map]
 congr 1
 funext r
 simp only [Function.comp, buB, clmN, cgT, cuT, if_false, Bool.false_eq_true, List.nil_append, List.any_map, List.any_filter]
 rfl
theorem len_snoc {α : Type} {l : List α} {a : α} : (l ++ [a]).length = l.length + 1 := by simp
theorem tol_own (p : Option Addr) (m cap : Nat) (f cs co : Int) (gr : Bool) (w : World) : Calls Tryz.prog 26 #[.slice p m cap, .int .i64 f, .agg #[.int .i64 cs, .int .i64 co], .bool gr] w fun e w' => ∃ b1 b2 b3 b4 : Nat, e = .returned (.func (.func 60) #[] #[.pointer (some ⟨b1, 0, none⟩), .pointer (some ⟨b2, 0, none⟩), .pointer (some ⟨b3, 0, none⟩), .pointer (some ⟨b4, 0, none⟩)]) ∧
  Own w' b1 [.slice p m cap] 56 ∧ Own w' b2 [.int .i64 f] 3 ∧ Own w' b3 [.bool gr] 4 ∧ Own w' b4 [.int .i64 cs, .int .i64 co] 48 ∧ Below w.heap.size w w' := by
 refine (tol_any p m cap f cs co gr w).mono ?_
 rintro e w' ⟨rfl, rfl⟩
 exact ⟨_, _, _, _, rfl, ((((own_at _ _ rfl).alloc _).alloc _).alloc _), (((own_at _ _ (by simp)).alloc _).alloc _), own_at _ _ (by simp), ((own_at _ _ (by simp)).alloc _), ((((Below.refl _ _).alloc (Nat.le_refl _) _).alloc (by simp) _).alloc (by simp; omega) _).alloc (by simp; omega) _⟩
theorem filt_in {α : Type} {p : α → Bool} {l : List α} {i : Nat} {d : α} (h : l[i]? = some d) (hp : p d = true) : (l.take (i + 1)).filter p = (l.take i).filter p ++ [d] := by rw [take_snocG h, List.filter_append]; simp [hp]
theorem filt_out {α : Type} {p : α → Bool} {l : List α} {i : Nat} {d : α} (h : l[i]? = some d) (hp : p d = false) : (l.take (i + 1)).filter p = (l.take i).filter p := by rw [take_snocG h, List.filter_append]; simp [hp]
def YI1 (w1 : World) (bO : Nat) (y z : Value) (p : Us → Bool) (us : List Us) (i : Nat) (wz : World) : Prop := ∃ (qs : List Us) (pq : Option Addr) (cq : Nat), Belo w1.heap.size bO w1 wz ∧ Own wz bO [.slice pq qs.length cq, y, z] 43 ∧ wz.ownsRow w1.heap.size 50 4 (.slice pq qs.length cq) qs.length (flatT usL qs) ∧ qs = (us.take i).filter p
def YI2 (w1 : World) (bO : Nat) (x z : Value) (p : Gr → Bool) (gs : List Gr) (i : Nat) (wz : World) : Prop := ∃ (qs : List Gr) (pq : Option Addr) (cq : Nat), Belo w1.heap.size bO w1 wz ∧ Own wz bO [x, .slice pq qs.length cq, z] 43 ∧ wz.ownsRow w1.heap.size 52 5 (.slice pq qs.length cq) qs.length (flatT grL qs) ∧ qs = (gs.take i).filter p
set_option maxRecDepth 100000 in
set_option maxHeartbeats 8000000 in
theorem yld_any (vu vg va : Value) (us : List Us) (gs : List Gr) (ks : List Ak) (me f : Int) (v : Value) (l : List Nr) (w : World) (su : SlU w vu us) (sg : SlG w vg gs) (sa : SlA w va ks) (u70 : us.length ≤ 70) (g70 : gs.length ≤ 70) (k70 : ks.length ≤ 70) (sl : SlN w v l) (ho : NsOk w l) (f0 : 0 ≤ f) (f1 : f ≤ 1000000) : Calls Tryz.prog 12 #[.agg #[vu, vg, va], .int .i64 me, v, .int .i64 f] w (TblP w (yldF ⟨us, gs, ks⟩ me (l.map Nr.b) f).us (yldF ⟨us, gs, ks⟩ me (l.map Nr.b) f).gs (yldF ⟨us, gs, ks⟩ me (l.map Nr.b) f).ks) := by
 obtain ⟨pu, cu, e0, hlu, hcu, _⟩ := su.form us.length rfl
 subst e0
 obtain ⟨pg, cg, e0, hlg, hcg, _⟩ := sg.form gs.length rfl
 subst e0
 obtain ⟨pa, ca, e0, hla, hca, _⟩ := sa.form ks.length rfl
 subst e0
 have SU := Lib.hid su
 have SG := Lib.hid sg
 have SA := Lib.hid sa
 clear su sg sa
 have iu0 : (0 : Int) ≤ (us.length : Int) := Int.natCast_nonneg _
 have ig0 : (0 : Int) ≤ (gs.length : Int) := Int.natCast_nonneg _
 have ia0 : (0 : Int) ≤ (ks.length : Int) := Int.natCast_nonneg _
 have iu : (us.length : Int) ≤ 70 := by omega
 have ig : (gs.length : Int) ≤ 70 := by omega
 have ia : (ks.length : Int) ≤ 70 := by omega
 have HO := Lib.hid ho
 obtain ⟨p, cap, e0, hlc, hcm, hpn⟩ := sl.form l.length rfl
 subst e0
 have SL := Lib.hid sl
 have HF := Lib.hid (show 0 ≤ f ∧ f ≤ 1000000 from ⟨f0, f1⟩)
 clear hpn sl f0 f1 ho
 obtain ⟨iU, hi, hz, hs0, hb0⟩ := info_parts info_u
 have IFU := Lib.hid (And.intro hi (And.intro hz (And.intro hs0 hb0)))
 clear hi hz hs0 hb0
 obtain ⟨iG, hi, hz, hs0, hb0⟩ := info_parts info_g
 have IFG := Lib.hid (And.intro hi (And.intro hz (And.intro hs0 hb0)))
 clear hi hz hs0 hb0
 go_enter Tryz.func12, Tryz.ntmps12
 go_wp2_with fail
 have oT : Own (((w.alloc (.cells #[.slice pu us.length cu, .slice pg gs.length cg, .slice pa ks.length ca] 43)).alloc (.cells #[.slice none 0 0, .slice none 0 0, .slice none 0 0] 43)).alloc (.cells #[.slice none 0 0, .slice none 0 0, .slice pa ks.length ca] 43)) w.heap.size [.slice pu us.length cu, .slice pg gs.length cg, .slice pa ks.length ca] 43 := ((own_at _ _ rfl).alloc _).alloc _
 have oR : Own (((w.alloc (.cells #[.slice pu us.length cu, .slice pg gs.length cg, .slice pa ks.length ca] 43)).alloc (.cells #[.slice none 0 0, .slice none 0 0, .slice none 0 0] 43)).alloc (.cells #[.slice none 0 0, .slice none 0 0, .slice pa ks.length ca] 43)) (w.heap.size + 1) [.slice none 0 0, .slice none 0 0, .slice none 0 0] 43 := (own_at _ _ (by simp)).alloc _
 have oO : Own (((w.alloc (.cells #[.slice pu us.length cu, .slice pg gs.length cg, .slice pa ks.length ca] 43)).alloc (.cells #[.slice none 0 0, .slice none 0 0, .slice none 0 0] 43)).alloc (.cells #[.slice none 0 0, .slice none 0 0, .slice pa ks.length ca] 43)) (w.heap.size + 1 + 1) [.slice none 0 0, .slice none 0 0, .slice pa ks.length ca] 43 := own_at _ _ (by simp)
 have bel : Below w.heap.size w (((w.alloc (.cells #[.slice pu us.length cu, .slice pg gs.length cg, .slice pa ks.length ca] 43)).alloc (.cells #[.slice none 0 0, .slice none 0 0, .slice none 0 0] 43)).alloc (.cells #[.slice none 0 0, .slice none 0 0, .slice pa ks.length ca] 43)) := (((Below.refl _ _).alloc (Nat.le_refl _) _).alloc (by simp) _).alloc (by simp; omega) _
 have hs1 : (((w.alloc (.cells #[.slice pu us.length cu, .slice pg gs.length cg, .slice pa ks.length ca] 43)).alloc (.cells #[.slice none 0 0, .slice none 0 0, .slice none 0 0] 43)).alloc (.cells #[.slice none 0 0, .slice none 0 0, .slice pa ks.length ca] 43)).heap.size = w.heap.size + 3 := by simp
 generalize (((w.alloc (.cells #[.slice pu us.length cu, .slice pg gs.length cg, .slice pa ks.length ca] 43)).alloc (.cells #[.slice none 0 0, .slice none 0 0, .slice none 0 0] 43)).alloc (.cells #[.slice none 0 0, .slice none 0 0, .slice pa ks.length ca] 43)) = w1 at oT oR oO bel hs1 ⊢
 have SU1 := Lib.hid (SU.out.below bel)
 have SG1 := Lib.hid (SG.out.below bel)
 have SA1 := Lib.hid (SA.out.below bel)
 have SL1 := Lib.hid (SL.out.below bel)
 have HO1 := Lib.hid (HO.out.below bel)
 have BE1 := Lib.hid bel
 have OT1 := Lib.hid oT
 have OR1 := Lib.hid oR
 have OO1 := Lib.hid oO
 clear oT oR oO bel SU SG SA SL HO
 have Y0 := Lib.hid (show YI1 w1 (w.heap.size + 1 + 1) (.slice none 0 0) (.slice pa ks.length ca) (fun u => !(l.map Nr.b).any (bgB f me u)) us 0 w1 from ⟨[], none, 0, Belo.refl _ _ _, OO1.out, World.ownsRow_nil _ _ _ _, rfl⟩)
 go_loopw [20] (fun ii wz => ∃ i : Nat, i ≤ us.length ∧ ii = .int .i64 i ∧ YI1 w1 (w.heap.size + 1 + 1) (.slice none 0 0) (.slice pa ks.length ca) (fun u => !(l.map Nr.b).any (bgB f me u)) us i wz) (fun ii _ => us.length - (intOf ii).toNat)
 case atStart => exact ⟨0, by omega, rfl, Y0.out⟩
 case round =>
  clear Y0
  obtain ⟨i, hi, rfl, qs, pq, cq, hB, hO, hrow, hqs⟩ := hrel
  have HB := Lib.hid hB
  have HOO := Lib.hid hO
  have HROW := Lib.hid hrow
  have HQS := Lib.hid hqs
  have hql : qs.length ≤ 70 := by rw [hqs]; exact Nat.le_trans (List.length_filter_le _ _) (by rw [List.length_take]; omega)
  have hszw : w1.heap.size ≤ wr.heap.size := hB.size
  clear hB hO hrow hqs
  have j0 : (0 : Int) ≤ (i : Int) := Int.natCast_nonneg _
  by_cases hlt : i < us.length
  ·have SX := Lib.hid (HB.out.slt SU1.out numU OO1.out)
   have SLw := Lib.hid (HB.out.sln SL1.out OO1.out)
   have HOw := Lib.hid (HB.out.nsok HO1.out OO1.out)
   obtain ⟨d, b, off, hd, rfl, hbl, _, d0, d1, d2, d3⟩ := SX.out.atU (Below.refl _ _) hlt
   have j1 : (i : Int) < (us.length : Int) := by omega
   have HD := Lib.hid hd
   clear hd SX
   have HBT := Lib.hid (beats_u (L := l) (f := f) (me := me) (u := d))
   cases hx : (clmL true f d.s d.o (l.filter (latR f))).any (btnB d.m me) with
   | true =>
    have HX := Lib.hid hx
    rw [hx] at HBT
    clear hx
    go_wp2_with fail
    have oX : Own (wr.alloc (Obj.cells #[.int .i64 d.s, .int .i64 d.o, .int .i64 d.p, .int .i64 d.m] 50)) wr.heap.size [.int .i64 d.s, .int .i64 d.o, .int .i64 d.p, .int .i64 d.m] 50 := own_at _ _ rfl
    have oO := HOO.out.alloc (Obj.cells #[.int .i64 d.s, .int .i64 d.o, .int .i64 d.p, .int .i64 d.m] 50)
    have ROW := Lib.hid (HROW.out.alloc (Obj.cells #[.int .i64 d.s, .int .i64 d.o, .int .i64 d.p, .int .i64 d.m] 50))
    have SLx := Lib.hid (SLw.out.below (belowNew wr (Obj.cells #[.int .i64 d.s, .int .i64 d.o, .int .i64 d.p, .int .i64 d.m] 50)))
    have HOx := Lib.hid (HOw.out.below (belowNew wr (Obj.cells #[.int .i64 d.s, .int .i64 d.o, .int .i64 d.p, .int .i64 d.m] 50)))
    have bel := belowNew wr (Obj.cells #[.int .i64 d.s, .int .i64 d.o, .int .i64 d.p, .int .i64 d.m] 50)
    clear SLw HOw d0 d1 d2 d3
    generalize wr.alloc (Obj.cells #[.int .i64 d.s, .int .i64 d.o, .int .i64 d.p, .int .i64 d.m] 50) = wa at oX oO ROW SLx HOx bel ⊢
    obtain ⟨cX0, cX1, cX2, cX3, fX, zX⟩ := own4 oX
    obtain ⟨cO0, cO1, cO2, fO, zO⟩ := own3 oO
    go_wp2_with fail
    have OXk0 := Lib.hid oX.drew
    have OOk0 := Lib.hid oO.drew
    have BBk0 := Lib.hid bel.drew
    have ROWk0 := Lib.hid (ROW.out.below (Below.refl _ _).drew)
    have SLxk0 := Lib.hid (SLx.out.below (Below.refl _ _).drew)
    have HOxk0 := Lib.hid (HOx.out.below (Below.refl _ _).drew)
    clear oX cX0 cX1 cX2 cX3 fX zX oO cO0 cO1 cO2 fO zO
    clear bel ROW SLx HOx
    obtain ⟨hXk00, hXk01, hXk02, hXk03, _, _⟩ := own4 OXk0.out
    obtain ⟨hOk00, hOk01, hOk02, _, _⟩ := own3 OOk0.out
    refine region_H 11 #[false, false, false, false, false, false, false, false, false, false, false] (by kernel_rfl) (by kernel_rfl) (fun w' => w'.cell? ⟨wr.heap.size, 0, none⟩ = some (.int .i64 d.s) ∧ w'.cell? ⟨wr.heap.size, 1, none⟩ = some (.int .i64 d.o) ∧ w'.cell? ⟨wr.heap.size, 2, none⟩ = some (.int .i64 d.p) ∧ w'.cell? ⟨wr.heap.size, 3, none⟩ = some (.int .i64 d.m)) (by kernel_rfl) ?x1s (fun hHeld => ?x1r)
    case x1s => exact ⟨hXk00, hXk01, hXk02, hXk03⟩
    refine tH 0 24 ?_
    refine tH 1 25 ?_
    refine tH 2 26 ?_
    refine tH 3 27 ?_
    refine tH 5 29 ?_
    refine tH 6 30 ?_
    refine tH 7 31 ?_
    refine tH 8 32 ?_
    refine wpH_one (i := 4) (by kernel_rfl) rfl (fun K hK => ?_)
    rw [if_pos (by rfl)]
    go_simp
    refine (tol_own p l.length cap f d.s d.o true _).mono ?_
    rintro e wk1 ⟨b1, b2, b3, b4, rfl, k1, k2, k3, k4, hbb⟩
    have KAk1 := Lib.hid (k1)
    have KBk1 := Lib.hid (k2)
    have KCk1 := Lib.hid (k3)
    have KDk1 := Lib.hid (k4)
    have OXk1 := Lib.hid (OXk0.out.below hbb)
    have OOk1 := Lib.hid (OOk0.out.below hbb)
    have ROWk1 := Lib.hid (ROWk0.out.below hbb)
    have SLxk1 := Lib.hid (SLxk0.out.below hbb)
    have HOxk1 := Lib.hid (HOxk0.out.below hbb)
    have BBk1 := Lib.hid (belowTo BBk0.out hbb BBk0.out.size)
    clear hbb OXk0 OOk0 ROWk0 SLxk0 HOxk0 BBk0 hXk00 hXk01 hXk02 hXk03 hOk00 hOk01 hOk02
    obtain ⟨hXk10, hXk11, hXk12, hXk13, _, _⟩ := own4 OXk1.out
    obtain ⟨hOk10, hOk11, hOk12, _, _⟩ := own3 OOk1.out
    refine hK.out _ _ (⟨hXk10, hXk11, hXk12, hXk13⟩) ?_
    clear hK K hHeld
    intro hHeld
    try simp only [Act.put, List.setIfInBounds_toArray, List.set_cons_zero, List.set_cons_succ]
    refine wpH_one (i := 9) (by kernel_rfl) rfl (fun K hK => ?_)
    rw [if_pos (by rfl)]
    go_simp
    refine (calls_bool (bea_any b1 b2 b3 b4 _ l f true d.s d.o d.m me HF.out _ SLxk1.out HOxk1.out KAk1.out KBk1.out KCk1.out KDk1.out) HX.out).mono ?_
    rintro e wk2 ⟨rfl, hbb⟩
    have OXk2 := Lib.hid (OXk1.out.below hbb)
    have OOk2 := Lib.hid (OOk1.out.below hbb)
    have ROWk2 := Lib.hid (ROWk1.out.below hbb)
    have SLxk2 := Lib.hid (SLxk1.out.below hbb)
    have HOxk2 := Lib.hid (HOxk1.out.below hbb)
    have BBk2 := Lib.hid (belowTo BBk1.out hbb BBk1.out.size)
    clear hbb OXk1 OOk1 ROWk1 SLxk1 HOxk1 KAk1 KBk1 KCk1 KDk1 BBk1 hXk10 hXk11 hXk12 hXk13 hOk10 hOk11 hOk12
    obtain ⟨hXk20, hXk21, hXk22, hXk23, _, _⟩ := own4 OXk2.out
    obtain ⟨hOk20, hOk21, hOk22, _, _⟩ := own3 OOk2.out
    refine hK.out _ _ (⟨hXk20, hXk21, hXk22, hXk23⟩) ?_
    clear hK K hHeld
    intro hHeld
    try simp only [Act.put, List.setIfInBounds_toArray, List.set_cons_zero, List.set_cons_succ]
    refine tH 10 34 ?_
    refine wpAnyH_done (by kernel_rfl) ?_ _
    have oX := OXk2.out
    have oO := OOk2.out
    have bel := BBk2.out
    have ROW := ROWk2
    have SLx := SLxk2
    have HOx := HOxk2
    clear OXk2 OOk2 BBk2 ROWk2 SLxk2 HOxk2 hXk20 hXk21 hXk22 hXk23 hOk20 hOk21 hOk22
    obtain ⟨cX0, cX1, cX2, cX3, fX, zX⟩ := own4 oX
    obtain ⟨cO0, cO1, cO2, fO, zO⟩ := own3 oO
    go_wp2_with fail
    go_roundw
    case rel => exact ⟨i + 1, by omega, by go_num, qs, pq, cq, HB.out.next bel HB.out.size, oO, ROW.out, by rw [filt_out HD.out (by rw [← HBT.out]; rfl)]; exact HQS.out⟩
    case measure => simp [intOf]; omega
   | false =>
    have HX := Lib.hid hx
    rw [hx] at HBT
    clear hx
    go_wp2_with fail
    have oX : Own (wr.alloc (Obj.cells #[.int .i64 d.s, .int .i64 d.o, .int .i64 d.p, .int .i64 d.m] 50)) wr.heap.size [.int .i64 d.s, .int .i64 d.o, .int .i64 d.p, .int .i64 d.m] 50 := own_at _ _ rfl
    have oO := HOO.out.alloc (Obj.cells #[.int .i64 d.s, .int .i64 d.o, .int .i64 d.p, .int .i64 d.m] 50)
    have ROW := Lib.hid (HROW.out.alloc (Obj.cells #[.int .i64 d.s, .int .i64 d.o, .int .i64 d.p, .int .i64 d.m] 50))
    have SLx := Lib.hid (SLw.out.below (belowNew wr (Obj.cells #[.int .i64 d.s, .int .i64 d.o, .int .i64 d.p, .int .i64 d.m] 50)))
    have HOx := Lib.hid (HOw.out.below (belowNew wr (Obj.cells #[.int .i64 d.s, .int .i64 d.o, .int .i64 d.p, .int .i64 d.m] 50)))
    have bel := belowNew wr (Obj.cells #[.int .i64 d.s, .int .i64 d.o, .int .i64 d.p, .int .i64 d.m] 50)
    clear SLw HOw d0 d1 d2 d3
    generalize wr.alloc (Obj.cells #[.int .i64 d.s, .int .i64 d.o, .int .i64 d.p, .int .i64 d.m] 50) = wa at oX oO ROW SLx HOx bel ⊢
    obtain ⟨cX0, cX1, cX2, cX3, fX, zX⟩ := own4 oX
    obtain ⟨cO0, cO1, cO2, fO, zO⟩ := own3 oO
    go_wp2_with fail
    have OXk0 := Lib.hid oX.drew
    have OOk0 := Lib.hid oO.drew
    have BBk0 := Lib.hid bel.drew
    have ROWk0 := Lib.hid (ROW.out.below (Below.refl _ _).drew)
    have SLxk0 := Lib.hid (SLx.out.below (Below.refl _ _).drew)
    have HOxk0 := Lib.hid (HOx.out.below (Below.refl _ _).drew)
    clear oX cX0 cX1 cX2 cX3 fX zX oO cO0 cO1 cO2 fO zO
    clear bel ROW SLx HOx
    obtain ⟨hXk00, hXk01, hXk02, hXk03, _, _⟩ := own4 OXk0.out
    obtain ⟨hOk00, hOk01, hOk02, _, _⟩ := own3 OOk0.out
    refine region_H 11 #[false, false, false, false, false, false, false, false, false, false, false] (by kernel_rfl) (by kernel_rfl) (fun w' => w'.cell? ⟨wr.heap.size, 0, none⟩ = some (.int .i64 d.s) ∧ w'.cell? ⟨wr.heap.size, 1, none⟩ = some (.int .i64 d.o) ∧ w'.cell? ⟨wr.heap.size, 2, none⟩ = some (.int .i64 d.p) ∧ w'.cell? ⟨wr.heap.size, 3, none⟩ = some (.int .i64 d.m)) (by kernel_rfl) ?x13s (fun hHeld => ?x13r)
    case x13s => exact ⟨hXk00, hXk01, hXk02, hXk03⟩
    refine tH 0 24 ?_
    refine tH 1 25 ?_
    refine tH 2 26 ?_
    refine tH 3 27 ?_
    refine tH 5 29 ?_
    refine tH 6 30 ?_
    refine tH 7 31 ?_
    refine tH 8 32 ?_
    refine wpH_one (i := 4) (by kernel_rfl) rfl (fun K hK => ?_)
    rw [if_pos (by rfl)]
    go_simp
    refine (tol_own p l.length cap f d.s d.o true _).mono ?_
    rintro e wk1 ⟨b1, b2, b3, b4, rfl, k1, k2, k3, k4, hbb⟩
    have KAk1 := Lib.hid (k1)
    have KBk1 := Lib.hid (k2)
    have KCk1 := Lib.hid (k3)
    have KDk1 := Lib.hid (k4)
    have OXk1 := Lib.hid (OXk0.out.below hbb)
    have OOk1 := Lib.hid (OOk0.out.below hbb)
    have ROWk1 := Lib.hid (ROWk0.out.below hbb)
    have SLxk1 := Lib.hid (SLxk0.out.below hbb)
    have HOxk1 := Lib.hid (HOxk0.out.below hbb)
    have BBk1 := Lib.hid (belowTo BBk0.out hbb BBk0.out.size)
    clear hbb OXk0 OOk0 ROWk0 SLxk0 HOxk0 BBk0 hXk00 hXk01 hXk02 hXk03 hOk00 hOk01 hOk02
    obtain ⟨hXk10, hXk11, hXk12, hXk13, _, _⟩ := own4 OXk1.out
    obtain ⟨hOk10, hOk11, hOk12, _, _⟩ := own3 OOk1.out
    refine hK.out _ _ (⟨hXk10, hXk11, hXk12, hXk13⟩) ?_
    clear hK K hHeld
    intro hHeld
    try simp only [Act.put, List.setIfInBounds_toArray, List.set_cons_zero, List.set_cons_succ]
    refine wpH_one (i := 9) (by kernel_rfl) rfl (fun K hK => ?_)
    rw [if_pos (by rfl)]
    go_simp
    refine (calls_bool (bea_any b1 b2 b3 b4 _ l f true d.s d.o d.m me HF.out _ SLxk1.out HOxk1.out KAk1.out KBk1.out KCk1.out KDk1.out) HX.out).mono ?_
    rintro e wk2 ⟨rfl, hbb⟩
    have OXk2 := Lib.hid (OXk1.out.below hbb)
    have OOk2 := Lib.hid (OOk1.out.below hbb)
    have ROWk2 := Lib.hid (ROWk1.out.below hbb)
    have SLxk2 := Lib.hid (SLxk1.out.below hbb)
    have HOxk2 := Lib.hid (HOxk1.out.below hbb)
    have BBk2 := Lib.hid (belowTo BBk1.out hbb BBk1.out.size)
    clear hbb OXk1 OOk1 ROWk1 SLxk1 HOxk1 KAk1 KBk1 KCk1 KDk1 BBk1 hXk10 hXk11 hXk12 hXk13 hOk10 hOk11 hOk12
    obtain ⟨hXk20, hXk21, hXk22, hXk23, _, _⟩ := own4 OXk2.out
    obtain ⟨hOk20, hOk21, hOk22, _, _⟩ := own3 OOk2.out
    refine hK.out _ _ (⟨hXk20, hXk21, hXk22, hXk23⟩) ?_
    clear hK K hHeld
    intro hHeld
    try simp only [Act.put, List.setIfInBounds_toArray, List.set_cons_zero, List.set_cons_succ]
    refine tH 10 34 ?_
    refine wpAnyH_done (by kernel_rfl) ?_ _
    have oX := OXk2.out
    have oO := OOk2.out
    have bel := BBk2.out
    have ROW := ROWk2
    have SLx := SLxk2
    have HOx := HOxk2
    clear OXk2 OOk2 BBk2 ROWk2 SLxk2 HOxk2 hXk20 hXk21 hXk22 hXk23 hOk20 hOk21 hOk22
    obtain ⟨cX0, cX1, cX2, cX3, fX, zX⟩ := own4 oX
    obtain ⟨cO0, cO1, cO2, fO, zO⟩ := own3 oO
    have OOq := Lib.hid oO
    have BEq := Lib.hid bel
    have hwq : wr.heap.size ≤ wk2.heap.size := bel.size
    clear oX
    go_wp2_with (at_builtin; refine wpList_append_own _ rfl _ _ 39 rfl w1.heap.size 50 iU _ 4 32 (by kernel_rfl) IFU.out.1 IFU.out.2.1 IFU.out.2.2.1 IFU.out.2.2.2 rfl (by decide) _ qs.length (flatT usL qs) rfl (ROW.out.alloc _) _ 1 1 (usL.f d) rfl rfl (newsTn (L := usL) (w := wk2) (by simp) d 50) (usL.one _) ?qc4 ?qc5 ?qc6 ?_)
    case qc4 => unfold maxLen; omega
    case qc5 => omega
    case qc6 => simp; omega
    intro v2 w9 hown hgrow hnil
    have RWa := Lib.hid (ROW.out.alloc (Obj.cells #[.int .i64 d.s, .int .i64 d.o, .int .i64 d.p, .int .i64 d.m] 50))
    obtain ⟨p2, c2, hv2⟩ := row_form hown
    subst hv2
    have O9 := own_keptT (OOq.out.alloc (Obj.cells #[.int .i64 d.s, .int .i64 d.o, .int .i64 d.p, .int .i64 d.m] 50)) RWa.out (by decide) hgrow
    have B9 := Lib.hid ((HB.out.next (BEq.out.alloc BEq.out.size (Obj.cells #[.int .i64 d.s, .int .i64 d.o, .int .i64 d.p, .int .i64 d.m] 50)) HB.out.size).grown hgrow (by simp; omega) (fun k hk => (RWa.out.lt k hk).1))
    have R9 := Lib.hid hown
    clear hown hgrow hnil cX0 cO0 cO1 cO2 fO zO
    obtain ⟨cO0, cO1, cO2, fO, zO⟩ := own3 O9
    go_wp2_with fail
    have S9 := row_setT (i := 0) (x := .slice p2 (qs.length + 1) c2) R9.out O9 (by decide)
    go_roundw
    case rel => exact ⟨i + 1, by omega, by go_num, qs ++ [d], p2, c2, (by have h9 := B9.out.set 0 (.slice p2 (qs.length + 1) c2); simpa using h9), (by have h9 := O9.set 0 (.slice p2 (qs.length + 1) c2); simpa using h9), (by rw [flatT_append, flatT_one, len_snoc]; exact row_base S9 (by omega)), by rw [filt_in HD.out (by rw [← HBT.out]; rfl), HQS.out]⟩
    case measure => simp [intOf]; omega
  ·obtain ⟨w2, rfl⟩ : ∃ wo : World, wo = wr := ⟨_, rfl⟩
   obtain rfl : i = us.length := by omega
   have hqe := HQS.out
   rw [List.take_length] at hqe
   obtain ⟨n1, hn1⟩ : ∃ n1, qs.length = n1 := ⟨_, rfl⟩
   obtain ⟨pq1, rfl⟩ : ∃ z, z = pq := ⟨_, rfl⟩
   obtain ⟨cq1, rfl⟩ : ∃ z, z = cq := ⟨_, rfl⟩
   have NU2 := Lib.hid (show SlU w2 (.slice pq1 n1 cq1) (us.filter (fun u => !(l.map Nr.b).any (bgB f me u))) from by rw [← hqe, ← hn1]; exact slt_of_own (L := usL) HROW.out)
   have OO2 := Lib.hid (show Own w2 (w.heap.size + 1 + 1) [.slice pq1 n1 cq1, .slice none 0 0, .slice pa ks.length ca] 43 from by rw [← hn1]; exact HOO.out)
   have SG2 := Lib.hid (HB.out.slt SG1.out numG OO1.out)
   have SA2 := Lib.hid (HB.out.slt SA1.out numA OO1.out)
   have SL2 := Lib.hid (HB.out.sln SL1.out OO1.out)
   have HO2 := Lib.hid (HB.out.nsok HO1.out OO1.out)
   have BE2 := Lib.hid (BE1.out.trans (HB.out.below (by omega) (by omega)))
   have OT2 := Lib.hid (HB.out.own OT1.out (by omega) (by omega))
   have OR2 := Lib.hid (HB.out.own OR1.out (by omega) (by omega))
   have hs2 : w.heap.size + 3 ≤ w2.heap.size := by omega
   clear hqe hn1 hql HROW HOO HQS HB SG1 SA1 SL1 HO1 BE1 OT1 OR1 OO1 SU1
   obtain ⟨t0, t1, t2, fT, zT⟩ := own3 OT2.out
   go_wp2_with fail
   clear t0 t1 t2 fT zT
   have Y0 := Lib.hid (show YI2 w2 (w.heap.size + 1 + 1) (.slice pq1 n1 cq1) (.slice pa ks.length ca) (fun g => !(l.map Nr.b).any (buB f g)) gs 0 w2 from ⟨[], none, 0, Belo.refl _ _ _, OO2.out, World.ownsRow_nil _ _ _ _, rfl⟩)
   go_loopw [45] (fun ii wz => ∃ i : Nat, i ≤ gs.length ∧ ii = .int .i64 i ∧ YI2 w2 (w.heap.size + 1 + 1) (.slice pq1 n1 cq1) (.slice pa ks.length ca) (fun g => !(l.map Nr.b).any (buB f g)) gs i wz) (fun ii _ => gs.length - (intOf ii).toNat)
   case atStart => exact ⟨0, by omega, rfl, Y0.out⟩
   case round =>
    clear Y0
    obtain ⟨i, hi, rfl, qs, pq, cq, hB, hO, hrow, hqs⟩ := hrel
    have HB := Lib.hid hB
    have HOO := Lib.hid hO
    have HROW := Lib.hid hrow
    have HQS := Lib.hid hqs
    have hql : qs.length ≤ 70 := by rw [hqs]; exact Nat.le_trans (List.length_filter_le _ _) (by rw [List.length_take]; omega)
    have hszw : w2.heap.size ≤ wr.heap.size := hB.size
    clear hB hO hrow hqs
    have j0 : (0 : Int) ≤ (i : Int) := Int.natCast_nonneg _
    by_cases hlt : i < gs.length
    ·have SX := Lib.hid (HB.out.slt SG2.out numG OO2.out)
     have SLw := Lib.hid (HB.out.sln SL2.out OO2.out)
     have HOw := Lib.hid (HB.out.nsok HO2.out OO2.out)
     obtain ⟨d, b, off, hd, rfl, hbl, _, d0, d1, d2, d3, d4⟩ := SX.out.atG (Below.refl _ _) hlt
     have j1 : (i : Int) < (gs.length : Int) := by omega
     have HD := Lib.hid hd
     clear hd SX
     have HBT := Lib.hid (beats_g (L := l) (f := f) (g := d))
     cases hx : (clmL false f d.s d.o (l.filter (latR f))).any (btnB d.m d.p) with
     | true =>
      have HX := Lib.hid hx
      rw [hx] at HBT
      clear hx
      go_wp2_with fail
      have oX : Own (wr.alloc (Obj.cells #[.int .i64 d.s, .int .i64 d.o, .int .i64 d.p, .int .i64 d.m, .int .i64 d.u] 52)) wr.heap.size [.int .i64 d.s, .int .i64 d.o, .int .i64 d.p, .int .i64 d.m, .int .i64 d.u] 52 := own_at _ _ rfl
      have oO := HOO.out.alloc (Obj.cells #[.int .i64 d.s, .int .i64 d.o, .int .i64 d.p, .int .i64 d.m, .int .i64 d.u] 52)
      have ROW := Lib.hid (HROW.out.alloc (Obj.cells #[.int .i64 d.s, .int .i64 d.o, .int .i64 d.p, .int .i64 d.m, .int .i64 d.u] 52))
      have SLx := Lib.hid (SLw.out.below (belowNew wr (Obj.cells #[.int .i64 d.s, .int .i64 d.o, .int .i64 d.p, .int .i64 d.m, .int .i64 d.u] 52)))
      have HOx := Lib.hid (HOw.out.below (belowNew wr (Obj.cells #[.int .i64 d.s, .int .i64 d.o, .int .i64 d.p, .int .i64 d.m, .int .i64 d.u] 52)))
      have bel := belowNew wr (Obj.cells #[.int .i64 d.s, .int .i64 d.o, .int .i64 d.p, .int .i64 d.m, .int .i64 d.u] 52)
      clear SLw HOw d0 d1 d2 d3 d4
      generalize wr.alloc (Obj.cells #[.int .i64 d.s, .int .i64 d.o, .int .i64 d.p, .int .i64 d.m, .int .i64 d.u] 52) = wa at oX oO ROW SLx HOx bel ⊢
      obtain ⟨cX0, cX1, cX2, cX3, cX4, fX, zX⟩ := own5 oX
      obtain ⟨cO0, cO1, cO2, fO, zO⟩ := own3 oO
      go_wp2_with fail
      have OXk0 := Lib.hid oX.drew
      have OOk0 := Lib.hid oO.drew
      have BBk0 := Lib.hid bel.drew
      have ROWk0 := Lib.hid (ROW.out.below (Below.refl _ _).drew)
      have SLxk0 := Lib.hid (SLx.out.below (Below.refl _ _).drew)
      have HOxk0 := Lib.hid (HOx.out.below (Below.refl _ _).drew)
      clear oX cX0 cX1 cX2 cX3 cX4 fX zX oO cO0 cO1 cO2 fO zO
      clear bel ROW SLx HOx
      obtain ⟨hXk00, hXk01, hXk02, hXk03, hXk04, _, _⟩ := own5 OXk0.out
      obtain ⟨hOk00, hOk01, hOk02, _, _⟩ := own3 OOk0.out
      refine region_H 12 #[false, false, false, false, false, false, false, false, false, false, false, false] (by kernel_rfl) (by kernel_rfl) (fun w' => w'.cell? ⟨wr.heap.size, 0, none⟩ = some (.int .i64 d.s) ∧ w'.cell? ⟨wr.heap.size, 1, none⟩ = some (.int .i64 d.o) ∧ w'.cell? ⟨wr.heap.size, 2, none⟩ = some (.int .i64 d.p) ∧ w'.cell? ⟨wr.heap.size, 3, none⟩ = some (.int .i64 d.m) ∧ w'.cell? ⟨wr.heap.size, 4, none⟩ = some (.int .i64 d.u)) (by kernel_rfl) ?x25s (fun hHeld => ?x25r)
      case x25s => exact ⟨hXk00, hXk01, hXk02, hXk03, hXk04⟩
      refine tH 0 49 ?_
      refine tH 1 50 ?_
      refine tH 2 51 ?_
      refine tH 3 52 ?_
      refine tH 5 54 ?_
      refine tH 6 55 ?_
      refine tH 7 56 ?_
      refine tH 8 57 ?_
      refine tH 9 58 ?_
      refine wpH_one (i := 4) (by kernel_rfl) rfl (fun K hK => ?_)
      rw [if_pos (by rfl)]
      go_simp
      refine (tol_own p l.length cap f d.s d.o false _).mono ?_
      rintro e wk1 ⟨b1, b2, b3, b4, rfl, k1, k2, k3, k4, hbb⟩
      have KAk1 := Lib.hid (k1)
      have KBk1 := Lib.hid (k2)
      have KCk1 := Lib.hid (k3)
      have KDk1 := Lib.hid (k4)
      have OXk1 := Lib.hid (OXk0.out.below hbb)
      have OOk1 := Lib.hid (OOk0.out.below hbb)
      have ROWk1 := Lib.hid (ROWk0.out.below hbb)
      have SLxk1 := Lib.hid (SLxk0.out.below hbb)
      have HOxk1 := Lib.hid (HOxk0.out.below hbb)
      have BBk1 := Lib.hid (belowTo BBk0.out hbb BBk0.out.size)
      clear hbb OXk0 OOk0 ROWk0 SLxk0 HOxk0 BBk0 hXk00 hXk01 hXk02 hXk03 hXk04 hOk00 hOk01 hOk02
      obtain ⟨hXk10, hXk11, hXk12, hXk13, hXk14, _, _⟩ := own5 OXk1.out
      obtain ⟨hOk10, hOk11, hOk12, _, _⟩ := own3 OOk1.out
      refine hK.out _ _ (⟨hXk10, hXk11, hXk12, hXk13, hXk14⟩) ?_
      clear hK K hHeld
      intro hHeld
      try simp only [Act.put, List.setIfInBounds_toArray, List.set_cons_zero, List.set_cons_succ]
      refine wpH_one (i := 10) (by kernel_rfl) rfl (fun K hK => ?_)
      rw [if_pos (by rfl)]
      go_simp
      refine (calls_bool (bea_any b1 b2 b3 b4 _ l f false d.s d.o d.m d.p HF.out _ SLxk1.out HOxk1.out KAk1.out KBk1.out KCk1.out KDk1.out) HX.out).mono ?_
      rintro e wk2 ⟨rfl, hbb⟩
      have OXk2 := Lib.hid (OXk1.out.below hbb)
      have OOk2 := Lib.hid (OOk1.out.below hbb)
      have ROWk2 := Lib.hid (ROWk1.out.below hbb)
      have SLxk2 := Lib.hid (SLxk1.out.below hbb)
      have HOxk2 := Lib.hid (HOxk1.out.below hbb)
      have BBk2 := Lib.hid (belowTo BBk1.out hbb BBk1.out.size)
      clear hbb OXk1 OOk1 ROWk1 SLxk1 HOxk1 KAk1 KBk1 KCk1 KDk1 BBk1 hXk10 hXk11 hXk12 hXk13 hXk14 hOk10 hOk11 hOk12
      obtain ⟨hXk20, hXk21, hXk22, hXk23, hXk24, _, _⟩ := own5 OXk2.out
      obtain ⟨hOk20, hOk21, hOk22, _, _⟩ := own3 OOk2.out
      refine hK.out _ _ (⟨hXk20, hXk21, hXk22, hXk23, hXk24⟩) ?_
      clear hK K hHeld
      intro hHeld
      try simp only [Act.put, List.setIfInBounds_toArray, List.set_cons_zero, List.set_cons_succ]
      refine tH 11 60 ?_
      refine wpAnyH_done (by kernel_rfl) ?_ _
      have oX := OXk2.out
      have oO := OOk2.out
      have bel := BBk2.out
      have ROW := ROWk2
      have SLx := SLxk2
      have HOx := HOxk2
      clear OXk2 OOk2 BBk2 ROWk2 SLxk2 HOxk2 hXk20 hXk21 hXk22 hXk23 hXk24 hOk20 hOk21 hOk22
      obtain ⟨cX0, cX1, cX2, cX3, cX4, fX, zX⟩ := own5 oX
      obtain ⟨cO0, cO1, cO2, fO, zO⟩ := own3 oO
      go_wp2_with fail
      go_roundw
      case rel => exact ⟨i + 1, by omega, by go_num, qs, pq, cq, HB.out.next bel HB.out.size, oO, ROW.out, by rw [filt_out HD.out (by rw [← HBT.out]; rfl)]; exact HQS.out⟩
      case measure => simp [intOf]; omega
     | false =>
      have HX := Lib.hid hx
      rw [hx] at HBT
      clear hx
      go_wp2_with fail
      have oX : Own (wr.alloc (Obj.cells #[.int .i64 d.s, .int .i64 d.o, .int .i64 d.p, .int .i64 d.m, .int .i64 d.u] 52)) wr.heap.size [.int .i64 d.s, .int .i64 d.o, .int .i64 d.p, .int .i64 d.m, .int .i64 d.u] 52 := own_at _ _ rfl
      have oO := HOO.out.alloc (Obj.cells #[.int .i64 d.s, .int .i64 d.o, .int .i64 d.p, .int .i64 d.m, .int .i64 d.u] 52)
      have ROW := Lib.hid (HROW.out.alloc (Obj.cells #[.int .i64 d.s, .int .i64 d.o, .int .i64 d.p, .int .i64 d.m, .int .i64 d.u] 52))
      have SLx := Lib.hid (SLw.out.below (belowNew wr (Obj.cells #[.int .i64 d.s, .int .i64 d.o, .int .i64 d.p, .int .i64 d.m, .int .i64 d.u] 52)))
      have HOx := Lib.hid (HOw.out.below (belowNew wr (Obj.cells #[.int .i64 d.s, .int .i64 d.o, .int .i64 d.p, .int .i64 d.m, .int .i64 d.u] 52)))
      have bel := belowNew wr (Obj.cells #[.int .i64 d.s, .int .i64 d.o, .int .i64 d.p, .int .i64 d.m, .int .i64 d.u] 52)
      clear SLw HOw d0 d1 d2 d3 d4
      generalize wr.alloc (Obj.cells #[.int .i64 d.s, .int .i64 d.o, .int .i64 d.p, .int .i64 d.m, .int .i64 d.u] 52) = wa at oX oO ROW SLx HOx bel ⊢
      obtain ⟨cX0, cX1, cX2, cX3, cX4, fX, zX⟩ := own5 oX
      obtain ⟨cO0, cO1, cO2, fO, zO⟩ := own3 oO
      go_wp2_with fail
      have OXk0 := Lib.hid oX.drew
      have OOk0 := Lib.hid oO.drew
      have BBk0 := Lib.hid bel.drew
      have ROWk0 := Lib.hid (ROW.out.below (Below.refl _ _).drew)
      have SLxk0 := Lib.hid (SLx.out.below (Below.refl _ _).drew)
      have HOxk0 := Lib.hid (HOx.out.below (Below.refl _ _).drew)
      clear oX cX0 cX1 cX2 cX3 cX4 fX zX oO cO0 cO1 cO2 fO zO
      clear bel ROW SLx HOx
      obtain ⟨hXk00, hXk01, hXk02, hXk03, hXk04, _, _⟩ := own5 OXk0.out
      obtain ⟨hOk00, hOk01, hOk02, _, _⟩ := own3 OOk0.out
      refine region_H 12 #[false, false, false, false, false, false, false, false, false, false, false, false] (by kernel_rfl) (by kernel_rfl) (fun w' => w'.cell? ⟨wr.heap.size, 0, none⟩ = some (.int .i64 d.s) ∧ w'.cell? ⟨wr.heap.size, 1, none⟩ = some (.int .i64 d.o) ∧ w'.cell? ⟨wr.heap.size, 2, none⟩ = some (.int .i64 d.p) ∧ w'.cell? ⟨wr.heap.size, 3, none⟩ = some (.int .i64 d.m) ∧ w'.cell? ⟨wr.heap.size, 4, none⟩ = some (.int .i64 d.u)) (by kernel_rfl) ?x38s (fun hHeld => ?x38r)
      case x38s => exact ⟨hXk00, hXk01, hXk02, hXk03, hXk04⟩
      refine tH 0 49 ?_
      refine tH 1 50 ?_
      refine tH 2 51 ?_
      refine tH 3 52 ?_
      refine tH 5 54 ?_
      refine tH 6 55 ?_
      refine tH 7 56 ?_
      refine tH 8 57 ?_
      refine tH 9 58 ?_
      refine wpH_one (i := 4) (by kernel_rfl) rfl (fun K hK => ?_)
      rw [if_pos (by rfl)]
      go_simp
      refine (tol_own p l.length cap f d.s d.o false _).mono ?_
      rintro e wk1 ⟨b1, b2, b3, b4, rfl, k1, k2, k3, k4, hbb⟩
      have KAk1 := Lib.hid (k1)
      have KBk1 := Lib.hid (k2)
      have KCk1 := Lib.hid (k3)
      have KDk1 := Lib.hid (k4)
      have OXk1 := Lib.hid (OXk0.out.below hbb)
      have OOk1 := Lib.hid (OOk0.out.below hbb)
      have ROWk1 := Lib.hid (ROWk0.out.below hbb)
      have SLxk1 := Lib.hid (SLxk0.out.below hbb)
      have HOxk1 := Lib.hid (HOxk0.out.below hbb)
      have BBk1 := Lib.hid (belowTo BBk0.out hbb BBk0.out.size)
      clear hbb OXk0 OOk0 ROWk0 SLxk0 HOxk0 BBk0 hXk00 hXk01 hXk02 hXk03 hXk04 hOk00 hOk01 hOk02
      obtain ⟨hXk10, hXk11, hXk12, hXk13, hXk14, _, _⟩ := own5 OXk1.out
      obtain ⟨hOk10, hOk11, hOk12, _, _⟩ := own3 OOk1.out
      refine hK.out _ _ (⟨hXk10, hXk11, hXk12, hXk13, hXk14⟩) ?_
      clear hK K hHeld
      intro hHeld
      try simp only [Act.put, List.setIfInBounds_toArray, List.set_cons_zero, List.set_cons_succ]
      refine wpH_one (i := 10) (by kernel_rfl) rfl (fun K hK => ?_)
      rw [if_pos (by rfl)]
      go_simp
      refine (calls_bool (bea_any b1 b2 b3 b4 _ l f false d.s d.o d.m d.p HF.out _ SLxk1.out HOxk1.out KAk1.out KBk1.out KCk1.out KDk1.out) HX.out).mono ?_
      rintro e wk2 ⟨rfl, hbb⟩
      have OXk2 := Lib.hid (OXk1.out.below hbb)
      have OOk2 := Lib.hid (OOk1.out.below hbb)
      have ROWk2 := Lib.hid (ROWk1.out.below hbb)
      have SLxk2 := Lib.hid (SLxk1.out.below hbb)
      have HOxk2 := Lib.hid (HOxk1.out.below hbb)
      have BBk2 := Lib.hid (belowTo BBk1.out hbb BBk1.out.size)
      clear hbb OXk1 OOk1 ROWk1 SLxk1 HOxk1 KAk1 KBk1 KCk1 KDk1 BBk1 hXk10 hXk11 hXk12 hXk13 hXk14 hOk10 hOk11 hOk12
      obtain ⟨hXk20, hXk21, hXk22, hXk23, hXk24, _, _⟩ := own5 OXk2.out
      obtain ⟨hOk20, hOk21, hOk22, _, _⟩ := own3 OOk2.out
      refine hK.out _ _ (⟨hXk20, hXk21, hXk22, hXk23, hXk24⟩) ?_
      clear hK K hHeld
      intro hHeld
      try simp only [Act.put, List.setIfInBounds_toArray, List.set_cons_zero, List.set_cons_succ]
      refine tH 11 60 ?_
      refine wpAnyH_done (by kernel_rfl) ?_ _
      have oX := OXk2.out
      have oO := OOk2.out
      have bel := BBk2.out
      have ROW := ROWk2
      have SLx := SLxk2
      have HOx := HOxk2
      clear OXk2 OOk2 BBk2 ROWk2 SLxk2 HOxk2 hXk20 hXk21 hXk22 hXk23 hXk24 hOk20 hOk21 hOk22
      obtain ⟨cX0, cX1, cX2, cX3, cX4, fX, zX⟩ := own5 oX
      obtain ⟨cO0, cO1, cO2, fO, zO⟩ := own3 oO
      have OOq := Lib.hid oO
      have BEq := Lib.hid bel
      have hwq : wr.heap.size ≤ wk2.heap.size := bel.size
      clear oX
      go_wp2_with (at_builtin; refine wpList_append_own _ rfl _ _ 40 rfl w2.heap.size 52 iG _ 5 40 (by kernel_rfl) IFG.out.1 IFG.out.2.1 IFG.out.2.2.1 IFG.out.2.2.2 rfl (by decide) _ qs.length (flatT grL qs) rfl (ROW.out.alloc _) _ 1 1 (grL.f d) rfl rfl (newsTn (L := grL) (w := wk2) (by simp) d 52) (grL.one _) ?qc4 ?qc5 ?qc6 ?_)
      case qc4 => unfold maxLen; omega
      case qc5 => omega
      case qc6 => simp; omega
      intro v2 w9 hown hgrow hnil
      have RWa := Lib.hid (ROW.out.alloc (Obj.cells #[.int .i64 d.s, .int .i64 d.o, .int .i64 d.p, .int .i64 d.m, .int .i64 d.u] 52))
      obtain ⟨p2, c2, hv2⟩ := row_form hown
      subst hv2
      have O9 := own_keptT (OOq.out.alloc (Obj.cells #[.int .i64 d.s, .int .i64 d.o, .int .i64 d.p, .int .i64 d.m, .int .i64 d.u] 52)) RWa.out (by decide) hgrow
      have B9 := Lib.hid ((HB.out.next (BEq.out.alloc BEq.out.size (Obj.cells #[.int .i64 d.s, .int .i64 d.o, .int .i64 d.p, .int .i64 d.m, .int .i64 d.u] 52)) HB.out.size).grown hgrow (by simp; omega) (fun k hk => (RWa.out.lt k hk).1))
      have R9 := Lib.hid hown
      clear hown hgrow hnil cX0 cO0 cO1 cO2 fO zO
      obtain ⟨cO0, cO1, cO2, fO, zO⟩ := own3 O9
      go_wp2_with fail
      have S9 := row_setT (i := 1) (x := .slice p2 (qs.length + 1) c2) R9.out O9 (by decide)
      go_roundw
      case rel => exact ⟨i + 1, by omega, by go_num, qs ++ [d], p2, c2, (by have h9 := B9.out.set 1 (.slice p2 (qs.length + 1) c2); simpa using h9), (by have h9 := O9.set 1 (.slice p2 (qs.length + 1) c2); simpa using h9), (by rw [flatT_append, flatT_one, len_snoc]; exact row_base S9 (by omega)), by rw [filt_in HD.out (by rw [← HBT.out]; rfl), HQS.out]⟩
      case measure => simp [intOf]; omega
    ·obtain ⟨w3, rfl⟩ : ∃ wo : World, wo = wr := ⟨_, rfl⟩
     obtain rfl : i = gs.length := by omega
     have hqe := HQS.out
     rw [List.take_length] at hqe
     have hn3 : w2.heap.size ≤ w3.heap.size := hszw
     have NG3 := Lib.hid (show SlG w3 (.slice pq qs.length cq) (gs.filter (fun g => !(l.map Nr.b).any (buB f g))) from by rw [← hqe]; exact slt_of_own (L := grL) HROW.out)
     clear hqe
     have NU3 := Lib.hid (HB.out.slt NU2.out numU OO2.out)
     have SA3 := Lib.hid (HB.out.slt SA2.out numA OO2.out)
     have BE3 := Lib.hid (BE2.out.trans (HB.out.below (by omega) (by omega)))
     have OR3 := HB.out.own OR2.out (by omega) (by omega)
     have OO3 := HOO.out
     obtain ⟨o0, o1, o2, fO, zO⟩ := own3 OO3
     obtain ⟨r0, r1, r2, fR, zR⟩ := own3 OR3
     go_wp2_with fail
     have FU := Lib.hid (SlT.set3 NU3.out numU OR3 (.slice pq1 n1 cq1) (.slice pq qs.length cq) (.slice pa ks.length ca))
     have FG := Lib.hid (SlT.set3 NG3.out numG OR3 (.slice pq1 n1 cq1) (.slice pq qs.length cq) (.slice pa ks.length ca))
     have FA := Lib.hid (SlT.set3 SA3.out numA OR3 (.slice pq1 n1 cq1) (.slice pq qs.length cq) (.slice pa ks.length ca))
     have BF := Lib.hid (below_set3 (x := .slice pq1 n1 cq1) (y := .slice pq qs.length cq) (z := .slice pa ks.length ca) BE3.out (show w.heap.size ≤ w.heap.size + 1 by omega))
     have OF := Lib.hid (own_set3 (x := .slice pq1 n1 cq1) (y := .slice pq qs.length cq) (z := .slice pa ks.length ca) OR3)
     generalize (((w3.setCell ⟨w.heap.size + 1, 0, none⟩ (.slice pq1 n1 cq1)).setCell ⟨w.heap.size + 1, 1, none⟩ (.slice pq qs.length cq)).setCell ⟨w.heap.size + 1, 2, none⟩ (.slice pa ks.length ca)) = wf at OF FU FG FA BF ⊢
     clear r0 r1 r2 fR zR
     obtain ⟨q0, q1, q2, _, _⟩ := own3 OF.out
     go_wp2_with fail
     refine bodyPost_ret (v := .agg #[.slice pq1 n1 cq1, .slice pq qs.length cq, .slice pa ks.length ca]) (by simp [results, Tryz.results12, go_sem, *]) rfl ⟨_, _, _, rfl, FU.out, FG.out, FA.out, BF.out⟩
end Go.Proofs.YtmopiifamopidaaGreat
end

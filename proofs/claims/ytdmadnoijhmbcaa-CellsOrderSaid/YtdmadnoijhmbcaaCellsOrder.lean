/- The walk of CellsOrder. -/
import Derived.Test.YtdmadnoijhmbcaaHead12
import Derived.Test.YtdmadnoijhmbcaaRVld12
import Derived.Test.YtdmadnoijhmbcaaLaw12p
import Derived.Test.YtdmadnoijhmbcaaOpen12
namespace Go.Proofs.Ytdmadnoijhmbcaa
open Go.RowKit

set_option linter.unusedSimpArgs false in
set_option linter.unusedVariables false in
set_option maxRecDepth 100000 in
set_option maxHeartbeats 2000000 in
theorem order_few (vu vg va : Value) (us : List Us) (gs : List Gr) (ks : List Ak) (N D : Int) (x : Us) (y : Gr) (w : World) (su : SlU w vu us) (sg : SlG w vg gs) (sa : SlA w va ks) (hf : fewB us gs ks = false) : Calls Try.prog 6 #[.agg #[vu, vg, va], .agg #[.int .i64 N, .int .i64 D], .agg #[.int .i64 x.s, .int .i64 x.o, .int .i64 x.p, .int .i64 x.m], .agg #[.int .i64 y.s, .int .i64 y.o, .int .i64 y.p, .int .i64 y.m, .int .i64 y.u]] w fun e w' => e = .returned (.bool true) ∧ Below w.heap.size w w' := by
  obtain ⟨pu, cu, e0, hlu, hcu, _⟩ := su.form us.length rfl
  subst e0
  obtain ⟨pg, cg, e0, hlg, hcg, _⟩ := sg.form gs.length rfl
  subst e0
  obtain ⟨pa, ca, e0, hla, hca, _⟩ := sa.form ks.length rfl
  subst e0
  have SU := Lib.hid su
  have SG := Lib.hid sg
  have SA := Lib.hid sa
  clear su sg sa
  have HF := Lib.hid hf
  clear hf
  go_enter Try.func6, Try.ntmps6
  go_wp2_with fail
  refine (head_true _).mono ?_
  rintro e w1 ⟨rfl, hb⟩
  replace SU := Lib.hid (((((SU.out.below (belowNew _ _)).below (belowNew _ _)).below (belowNew _ _)).below (belowNew _ _)).below hb)
  replace SG := Lib.hid (((((SG.out.below (belowNew _ _)).below (belowNew _ _)).below (belowNew _ _)).below (belowNew _ _)).below hb)
  replace SA := Lib.hid (((((SA.out.below (belowNew _ _)).below (belowNew _ _)).below (belowNew _ _)).below (belowNew _ _)).below hb)
  have oT : Own w1 w.heap.size [.slice pu us.length cu, .slice pg gs.length cg, .slice pa ks.length ca] 26 := ((((own_at _ _ rfl).alloc _).alloc _).alloc _).below hb
  have oL : Own w1 (w.heap.size + 1) [.int .i64 N, .int .i64 D] 28 := (((own_at _ _ (by simp)).alloc _).alloc _).below hb
  have oX : Own w1 (w.heap.size + 1 + 1) [.int .i64 x.s, .int .i64 x.o, .int .i64 x.p, .int .i64 x.m] 32 := ((own_at _ _ (by simp)).alloc _).below hb
  have oY : Own w1 (w.heap.size + 1 + 1 + 1) [.int .i64 y.s, .int .i64 y.o, .int .i64 y.p, .int .i64 y.m, .int .i64 y.u] 34 := (own_at _ _ (by simp)).below hb
  have bel := belowTo (((((Below.refl w.heap.size w).alloc (by simp) _).alloc (by simp) _).alloc (by simp; omega) _).alloc (by simp; omega) _) hb (by simp; omega)
  clear hb
  obtain ⟨cT0, cT1, cT2, fT, zT⟩ := own3 oT
  obtain ⟨cL0, cL1, fL, zL⟩ := own2 oL
  obtain ⟨cX0, cX1, cX2, cX3, fX, zX⟩ := own4 oX
  obtain ⟨cY0, cY1, cY2, cY3, cY4, fY, zY⟩ := own5 oY
  go_wp2_with fail
  refine (few_lit _ _ _ us gs ks _ SU.out SG.out SA.out false HF.out).mono ?_
  rintro e w2 ⟨rfl, hb⟩
  replace oT := oT.below hb
  replace oL := oL.below hb
  replace oX := oX.below hb
  replace oY := oY.below hb
  replace SU := Lib.hid (SU.out.below hb)
  replace SG := Lib.hid (SG.out.below hb)
  replace SA := Lib.hid (SA.out.below hb)
  replace bel := belowTo bel hb (by exact bel.size)
  clear hb
  clear cT0 cT1 cT2 fT zT cL0 cL1 fL zL cX0 cX1 cX2 cX3 fX zX cY0 cY1 cY2 cY3 cY4 fY zY
  obtain ⟨cT0, cT1, cT2, fT, zT⟩ := own3 oT
  obtain ⟨cL0, cL1, fL, zL⟩ := own2 oL
  obtain ⟨cX0, cX1, cX2, cX3, fX, zX⟩ := own4 oX
  obtain ⟨cY0, cY1, cY2, cY3, cY4, fY, zY⟩ := own5 oY
  go_wp2_with fail
  go_ret
  exact ⟨rfl, bel⟩

set_option linter.unusedSimpArgs false in
set_option linter.unusedVariables false in
set_option maxRecDepth 100000 in
set_option maxHeartbeats 2000000 in
theorem order_bad (vu vg va : Value) (us : List Us) (gs : List Gr) (ks : List Ak) (N D : Int) (x : Us) (y : Gr) (w : World) (su : SlU w vu us) (sg : SlG w vg gs) (sa : SlA w va ks) (hf : fewB us gs ks = true) (hv : vldT N D us gs ks = false) : Calls Try.prog 6 #[.agg #[vu, vg, va], .agg #[.int .i64 N, .int .i64 D], .agg #[.int .i64 x.s, .int .i64 x.o, .int .i64 x.p, .int .i64 x.m], .agg #[.int .i64 y.s, .int .i64 y.o, .int .i64 y.p, .int .i64 y.m, .int .i64 y.u]] w fun e w' => e = .returned (.bool true) ∧ Below w.heap.size w w' := by
  have u70 : us.length ≤ 70 := (fewB_iff.1 hf).1
  have g70 : gs.length ≤ 70 := (fewB_iff.1 hf).2.1
  have k70 : ks.length ≤ 70 := (fewB_iff.1 hf).2.2
  obtain ⟨pu, cu, e0, hlu, hcu, _⟩ := su.form us.length rfl
  subst e0
  obtain ⟨pg, cg, e0, hlg, hcg, _⟩ := sg.form gs.length rfl
  subst e0
  obtain ⟨pa, ca, e0, hla, hca, _⟩ := sa.form ks.length rfl
  subst e0
  have SU := Lib.hid su
  have SG := Lib.hid sg
  have SA := Lib.hid sa
  clear su sg sa
  have HF := Lib.hid hf
  have HV := Lib.hid hv
  clear hf hv
  go_enter Try.func6, Try.ntmps6
  go_wp2_with fail
  refine (head_true _).mono ?_
  rintro e w1 ⟨rfl, hb⟩
  replace SU := Lib.hid (((((SU.out.below (belowNew _ _)).below (belowNew _ _)).below (belowNew _ _)).below (belowNew _ _)).below hb)
  replace SG := Lib.hid (((((SG.out.below (belowNew _ _)).below (belowNew _ _)).below (belowNew _ _)).below (belowNew _ _)).below hb)
  replace SA := Lib.hid (((((SA.out.below (belowNew _ _)).below (belowNew _ _)).below (belowNew _ _)).below (belowNew _ _)).below hb)
  have oT : Own w1 w.heap.size [.slice pu us.length cu, .slice pg gs.length cg, .slice pa ks.length ca] 26 := ((((own_at _ _ rfl).alloc _).alloc _).alloc _).below hb
  have oL : Own w1 (w.heap.size + 1) [.int .i64 N, .int .i64 D] 28 := (((own_at _ _ (by simp)).alloc _).alloc _).below hb
  have oX : Own w1 (w.heap.size + 1 + 1) [.int .i64 x.s, .int .i64 x.o, .int .i64 x.p, .int .i64 x.m] 32 := ((own_at _ _ (by simp)).alloc _).below hb
  have oY : Own w1 (w.heap.size + 1 + 1 + 1) [.int .i64 y.s, .int .i64 y.o, .int .i64 y.p, .int .i64 y.m, .int .i64 y.u] 34 := (own_at _ _ (by simp)).below hb
  have bel := belowTo (((((Below.refl w.heap.size w).alloc (by simp) _).alloc (by simp) _).alloc (by simp; omega) _).alloc (by simp; omega) _) hb (by simp; omega)
  clear hb
  obtain ⟨cT0, cT1, cT2, fT, zT⟩ := own3 oT
  obtain ⟨cL0, cL1, fL, zL⟩ := own2 oL
  obtain ⟨cX0, cX1, cX2, cX3, fX, zX⟩ := own4 oX
  obtain ⟨cY0, cY1, cY2, cY3, cY4, fY, zY⟩ := own5 oY
  go_wp2_with fail
  refine (few_lit _ _ _ us gs ks _ SU.out SG.out SA.out true HF.out).mono ?_
  rintro e w2 ⟨rfl, hb⟩
  replace oT := oT.below hb
  replace oL := oL.below hb
  replace oX := oX.below hb
  replace oY := oY.below hb
  replace SU := Lib.hid (SU.out.below hb)
  replace SG := Lib.hid (SG.out.below hb)
  replace SA := Lib.hid (SA.out.below hb)
  replace bel := belowTo bel hb (by exact bel.size)
  clear hb
  clear cT0 cT1 cT2 fT zT cL0 cL1 fL zL cX0 cX1 cX2 cX3 fX zX cY0 cY1 cY2 cY3 cY4 fY zY
  obtain ⟨cT0, cT1, cT2, fT, zT⟩ := own3 oT
  obtain ⟨cL0, cL1, fL, zL⟩ := own2 oL
  obtain ⟨cX0, cX1, cX2, cX3, fX, zX⟩ := own4 oX
  obtain ⟨cY0, cY1, cY2, cY3, cY4, fY, zY⟩ := own5 oY
  go_wp2_with fail
  refine (rvalid_lit _ _ _ us gs ks N D _ SU.out SG.out SA.out (by omega) (by omega) (by omega) false HV.out).mono ?_
  rintro e w3 ⟨rfl, hb⟩
  replace oT := oT.below hb
  replace oL := oL.below hb
  replace oX := oX.below hb
  replace oY := oY.below hb
  replace SU := Lib.hid (SU.out.below hb)
  replace SG := Lib.hid (SG.out.below hb)
  replace SA := Lib.hid (SA.out.below hb)
  replace bel := belowTo bel hb (by exact bel.size)
  clear hb
  clear cT0 cT1 cT2 fT zT cL0 cL1 fL zL cX0 cX1 cX2 cX3 fX zX cY0 cY1 cY2 cY3 cY4 fY zY
  obtain ⟨cT0, cT1, cT2, fT, zT⟩ := own3 oT
  obtain ⟨cL0, cL1, fL, zL⟩ := own2 oL
  obtain ⟨cX0, cX1, cX2, cX3, fX, zX⟩ := own4 oX
  obtain ⟨cY0, cY1, cY2, cY3, cY4, fY, zY⟩ := own5 oY
  go_wp2_with fail
  go_ret
  exact ⟨rfl, bel⟩

set_option linter.unusedSimpArgs false in
set_option linter.unusedVariables false in
set_option maxRecDepth 100000 in
set_option maxHeartbeats 2000000 in
theorem order_same (vu vg va : Value) (us : List Us) (gs : List Gr) (ks : List Ak) (N D : Int) (x : Us) (y : Gr) (w : World) (su : SlU w vu us) (sg : SlG w vg gs) (sa : SlA w va ks) (hf : fewB us gs ks = true) (hv : vldT N D us gs ks = true) (hs : (x.s == y.s) = true) : Calls Try.prog 6 #[.agg #[vu, vg, va], .agg #[.int .i64 N, .int .i64 D], .agg #[.int .i64 x.s, .int .i64 x.o, .int .i64 x.p, .int .i64 x.m], .agg #[.int .i64 y.s, .int .i64 y.o, .int .i64 y.p, .int .i64 y.m, .int .i64 y.u]] w fun e w' => e = .returned (.bool true) ∧ Below w.heap.size w w' := by
  have u70 : us.length ≤ 70 := (fewB_iff.1 hf).1
  have g70 : gs.length ≤ 70 := (fewB_iff.1 hf).2.1
  have k70 : ks.length ≤ 70 := (fewB_iff.1 hf).2.2
  obtain ⟨pu, cu, e0, hlu, hcu, _⟩ := su.form us.length rfl
  subst e0
  obtain ⟨pg, cg, e0, hlg, hcg, _⟩ := sg.form gs.length rfl
  subst e0
  obtain ⟨pa, ca, e0, hla, hca, _⟩ := sa.form ks.length rfl
  subst e0
  have SU := Lib.hid su
  have SG := Lib.hid sg
  have SA := Lib.hid sa
  clear su sg sa
  have iu0 : (0 : Int) ≤ (us.length : Int) := Int.natCast_nonneg _
  have ig0 : (0 : Int) ≤ (gs.length : Int) := Int.natCast_nonneg _
  have ia0 : (0 : Int) ≤ (ks.length : Int) := Int.natCast_nonneg _
  have iu : (us.length : Int) ≤ 70 := by omega
  have ig : (gs.length : Int) ≤ 70 := by omega
  have ia : (ks.length : Int) ≤ 70 := by omega
  have HF := Lib.hid hf
  have HV := Lib.hid hv
  clear hf hv
  go_enter Try.func6, Try.ntmps6
  go_wp2_with fail
  refine (head_true _).mono ?_
  rintro e w1 ⟨rfl, hb⟩
  replace SU := Lib.hid (((((SU.out.below (belowNew _ _)).below (belowNew _ _)).below (belowNew _ _)).below (belowNew _ _)).below hb)
  replace SG := Lib.hid (((((SG.out.below (belowNew _ _)).below (belowNew _ _)).below (belowNew _ _)).below (belowNew _ _)).below hb)
  replace SA := Lib.hid (((((SA.out.below (belowNew _ _)).below (belowNew _ _)).below (belowNew _ _)).below (belowNew _ _)).below hb)
  have oT : Own w1 w.heap.size [.slice pu us.length cu, .slice pg gs.length cg, .slice pa ks.length ca] 26 := ((((own_at _ _ rfl).alloc _).alloc _).alloc _).below hb
  have oL : Own w1 (w.heap.size + 1) [.int .i64 N, .int .i64 D] 28 := (((own_at _ _ (by simp)).alloc _).alloc _).below hb
  have oX : Own w1 (w.heap.size + 1 + 1) [.int .i64 x.s, .int .i64 x.o, .int .i64 x.p, .int .i64 x.m] 32 := ((own_at _ _ (by simp)).alloc _).below hb
  have oY : Own w1 (w.heap.size + 1 + 1 + 1) [.int .i64 y.s, .int .i64 y.o, .int .i64 y.p, .int .i64 y.m, .int .i64 y.u] 34 := (own_at _ _ (by simp)).below hb
  have bel := belowTo (((((Below.refl w.heap.size w).alloc (by simp) _).alloc (by simp) _).alloc (by simp; omega) _).alloc (by simp; omega) _) hb (by simp; omega)
  clear hb
  obtain ⟨cT0, cT1, cT2, fT, zT⟩ := own3 oT
  obtain ⟨cL0, cL1, fL, zL⟩ := own2 oL
  obtain ⟨cX0, cX1, cX2, cX3, fX, zX⟩ := own4 oX
  obtain ⟨cY0, cY1, cY2, cY3, cY4, fY, zY⟩ := own5 oY
  go_wp2_with fail
  refine (few_lit _ _ _ us gs ks _ SU.out SG.out SA.out true HF.out).mono ?_
  rintro e w2 ⟨rfl, hb⟩
  replace oT := oT.below hb
  replace oL := oL.below hb
  replace oX := oX.below hb
  replace oY := oY.below hb
  replace SU := Lib.hid (SU.out.below hb)
  replace SG := Lib.hid (SG.out.below hb)
  replace SA := Lib.hid (SA.out.below hb)
  replace bel := belowTo bel hb (by exact bel.size)
  clear hb
  clear cT0 cT1 cT2 fT zT cL0 cL1 fL zL cX0 cX1 cX2 cX3 fX zX cY0 cY1 cY2 cY3 cY4 fY zY
  obtain ⟨cT0, cT1, cT2, fT, zT⟩ := own3 oT
  obtain ⟨cL0, cL1, fL, zL⟩ := own2 oL
  obtain ⟨cX0, cX1, cX2, cX3, fX, zX⟩ := own4 oX
  obtain ⟨cY0, cY1, cY2, cY3, cY4, fY, zY⟩ := own5 oY
  go_wp2_with fail
  refine (rvalid_lit _ _ _ us gs ks N D _ SU.out SG.out SA.out (by omega) (by omega) (by omega) true HV.out).mono ?_
  rintro e w3 ⟨rfl, hb⟩
  replace oT := oT.below hb
  replace oL := oL.below hb
  replace oX := oX.below hb
  replace oY := oY.below hb
  replace SU := Lib.hid (SU.out.below hb)
  replace SG := Lib.hid (SG.out.below hb)
  replace SA := Lib.hid (SA.out.below hb)
  replace bel := belowTo bel hb (by exact bel.size)
  clear hb
  clear cT0 cT1 cT2 fT zT cL0 cL1 fL zL cX0 cX1 cX2 cX3 fX zX cY0 cY1 cY2 cY3 cY4 fY zY
  obtain ⟨cT0, cT1, cT2, fT, zT⟩ := own3 oT
  obtain ⟨cL0, cL1, fL, zL⟩ := own2 oL
  obtain ⟨cX0, cX1, cX2, cX3, fX, zX⟩ := own4 oX
  obtain ⟨cY0, cY1, cY2, cY3, cY4, fY, zY⟩ := own5 oY
  go_wp2_with fail
  go_ret
  exact ⟨rfl, bel⟩

set_option linter.unusedSimpArgs false in
set_option linter.unusedVariables false in
set_option maxRecDepth 100000 in
set_option maxHeartbeats 2000000 in
theorem order_long (vu vg va : Value) (us : List Us) (gs : List Gr) (ks : List Ak) (N D : Int) (x : Us) (y : Gr) (w : World) (su : SlU w vu us) (sg : SlG w vg gs) (sa : SlA w va ks) (hf : fewB us gs ks = true) (hv : vldT N D us gs ks = true) (hs : (x.s == y.s) = false) (hl : decide (24 < (us.length : Int) + (gs.length : Int) + 2) = true) : Calls Try.prog 6 #[.agg #[vu, vg, va], .agg #[.int .i64 N, .int .i64 D], .agg #[.int .i64 x.s, .int .i64 x.o, .int .i64 x.p, .int .i64 x.m], .agg #[.int .i64 y.s, .int .i64 y.o, .int .i64 y.p, .int .i64 y.m, .int .i64 y.u]] w fun e w' => e = .returned (.bool true) ∧ Below w.heap.size w w' := by
  have u70 : us.length ≤ 70 := (fewB_iff.1 hf).1
  have g70 : gs.length ≤ 70 := (fewB_iff.1 hf).2.1
  have k70 : ks.length ≤ 70 := (fewB_iff.1 hf).2.2
  obtain ⟨pu, cu, e0, hlu, hcu, _⟩ := su.form us.length rfl
  subst e0
  obtain ⟨pg, cg, e0, hlg, hcg, _⟩ := sg.form gs.length rfl
  subst e0
  obtain ⟨pa, ca, e0, hla, hca, _⟩ := sa.form ks.length rfl
  subst e0
  have SU := Lib.hid su
  have SG := Lib.hid sg
  have SA := Lib.hid sa
  clear su sg sa
  have iu0 : (0 : Int) ≤ (us.length : Int) := Int.natCast_nonneg _
  have ig0 : (0 : Int) ≤ (gs.length : Int) := Int.natCast_nonneg _
  have ia0 : (0 : Int) ≤ (ks.length : Int) := Int.natCast_nonneg _
  have iu : (us.length : Int) ≤ 70 := by omega
  have ig : (gs.length : Int) ≤ 70 := by omega
  have ia : (ks.length : Int) ≤ 70 := by omega
  have HF := Lib.hid hf
  have HV := Lib.hid hv
  clear hf hv
  go_enter Try.func6, Try.ntmps6
  go_wp2_with fail
  refine (head_true _).mono ?_
  rintro e w1 ⟨rfl, hb⟩
  replace SU := Lib.hid (((((SU.out.below (belowNew _ _)).below (belowNew _ _)).below (belowNew _ _)).below (belowNew _ _)).below hb)
  replace SG := Lib.hid (((((SG.out.below (belowNew _ _)).below (belowNew _ _)).below (belowNew _ _)).below (belowNew _ _)).below hb)
  replace SA := Lib.hid (((((SA.out.below (belowNew _ _)).below (belowNew _ _)).below (belowNew _ _)).below (belowNew _ _)).below hb)
  have oT : Own w1 w.heap.size [.slice pu us.length cu, .slice pg gs.length cg, .slice pa ks.length ca] 26 := ((((own_at _ _ rfl).alloc _).alloc _).alloc _).below hb
  have oL : Own w1 (w.heap.size + 1) [.int .i64 N, .int .i64 D] 28 := (((own_at _ _ (by simp)).alloc _).alloc _).below hb
  have oX : Own w1 (w.heap.size + 1 + 1) [.int .i64 x.s, .int .i64 x.o, .int .i64 x.p, .int .i64 x.m] 32 := ((own_at _ _ (by simp)).alloc _).below hb
  have oY : Own w1 (w.heap.size + 1 + 1 + 1) [.int .i64 y.s, .int .i64 y.o, .int .i64 y.p, .int .i64 y.m, .int .i64 y.u] 34 := (own_at _ _ (by simp)).below hb
  have bel := belowTo (((((Below.refl w.heap.size w).alloc (by simp) _).alloc (by simp) _).alloc (by simp; omega) _).alloc (by simp; omega) _) hb (by simp; omega)
  clear hb
  obtain ⟨cT0, cT1, cT2, fT, zT⟩ := own3 oT
  obtain ⟨cL0, cL1, fL, zL⟩ := own2 oL
  obtain ⟨cX0, cX1, cX2, cX3, fX, zX⟩ := own4 oX
  obtain ⟨cY0, cY1, cY2, cY3, cY4, fY, zY⟩ := own5 oY
  go_wp2_with fail
  refine (few_lit _ _ _ us gs ks _ SU.out SG.out SA.out true HF.out).mono ?_
  rintro e w2 ⟨rfl, hb⟩
  replace oT := oT.below hb
  replace oL := oL.below hb
  replace oX := oX.below hb
  replace oY := oY.below hb
  replace SU := Lib.hid (SU.out.below hb)
  replace SG := Lib.hid (SG.out.below hb)
  replace SA := Lib.hid (SA.out.below hb)
  replace bel := belowTo bel hb (by exact bel.size)
  clear hb
  clear cT0 cT1 cT2 fT zT cL0 cL1 fL zL cX0 cX1 cX2 cX3 fX zX cY0 cY1 cY2 cY3 cY4 fY zY
  obtain ⟨cT0, cT1, cT2, fT, zT⟩ := own3 oT
  obtain ⟨cL0, cL1, fL, zL⟩ := own2 oL
  obtain ⟨cX0, cX1, cX2, cX3, fX, zX⟩ := own4 oX
  obtain ⟨cY0, cY1, cY2, cY3, cY4, fY, zY⟩ := own5 oY
  go_wp2_with fail
  refine (rvalid_lit _ _ _ us gs ks N D _ SU.out SG.out SA.out (by omega) (by omega) (by omega) true HV.out).mono ?_
  rintro e w3 ⟨rfl, hb⟩
  replace oT := oT.below hb
  replace oL := oL.below hb
  replace oX := oX.below hb
  replace oY := oY.below hb
  replace SU := Lib.hid (SU.out.below hb)
  replace SG := Lib.hid (SG.out.below hb)
  replace SA := Lib.hid (SA.out.below hb)
  replace bel := belowTo bel hb (by exact bel.size)
  clear hb
  clear cT0 cT1 cT2 fT zT cL0 cL1 fL zL cX0 cX1 cX2 cX3 fX zX cY0 cY1 cY2 cY3 cY4 fY zY
  obtain ⟨cT0, cT1, cT2, fT, zT⟩ := own3 oT
  obtain ⟨cL0, cL1, fL, zL⟩ := own2 oL
  obtain ⟨cX0, cX1, cX2, cX3, fX, zX⟩ := own4 oX
  obtain ⟨cY0, cY1, cY2, cY3, cY4, fY, zY⟩ := own5 oY
  go_wp2_with fail
  go_ret
  exact ⟨rfl, bel⟩

set_option linter.unusedSimpArgs false in
set_option linter.unusedVariables false in
set_option maxRecDepth 100000 in
set_option maxHeartbeats 2000000 in
theorem order_e (vu vg va : Value) (us : List Us) (gs : List Gr) (ks : List Ak) (N D : Int) (x : Us) (y : Gr) (w : World) (su : SlU w vu us) (sg : SlG w vg gs) (sa : SlA w va ks) (hf : fewB us gs ks = true) (hv : vldT N D us gs ks = true) (hs : (x.s == y.s) = false) (hl : decide (24 < (us.length : Int) + (gs.length : Int) + 2) = false) (E G : Int) (he : auE N D us gs ks x = E) (hg : agE N D us gs ks y = G) (hn : ¬ E = 0) : Calls Try.prog 6 #[.agg #[vu, vg, va], .agg #[.int .i64 N, .int .i64 D], .agg #[.int .i64 x.s, .int .i64 x.o, .int .i64 x.p, .int .i64 x.m], .agg #[.int .i64 y.s, .int .i64 y.o, .int .i64 y.p, .int .i64 y.m, .int .i64 y.u]] w fun e w' => e = .returned (.bool true) ∧ Below w.heap.size w w' := by
  have u70 : us.length ≤ 70 := (fewB_iff.1 hf).1
  have g70 : gs.length ≤ 70 := (fewB_iff.1 hf).2.1
  have k70 : ks.length ≤ 70 := (fewB_iff.1 hf).2.2
  obtain ⟨pu, cu, e0, hlu, hcu, _⟩ := su.form us.length rfl
  subst e0
  obtain ⟨pg, cg, e0, hlg, hcg, _⟩ := sg.form gs.length rfl
  subst e0
  obtain ⟨pa, ca, e0, hla, hca, _⟩ := sa.form ks.length rfl
  subst e0
  have SU := Lib.hid su
  have SG := Lib.hid sg
  have SA := Lib.hid sa
  clear su sg sa
  have iu0 : (0 : Int) ≤ (us.length : Int) := Int.natCast_nonneg _
  have ig0 : (0 : Int) ≤ (gs.length : Int) := Int.natCast_nonneg _
  have ia0 : (0 : Int) ≤ (ks.length : Int) := Int.natCast_nonneg _
  have iu : (us.length : Int) ≤ 70 := by omega
  have ig : (gs.length : Int) ≤ 70 := by omega
  have ia : (ks.length : Int) ≤ 70 := by omega
  have HF := Lib.hid hf
  have HV := Lib.hid hv
  have HE := Lib.hid he
  have HG := Lib.hid hg
  clear hf hv he hg
  go_enter Try.func6, Try.ntmps6
  go_wp2_with fail
  refine (head_true _).mono ?_
  rintro e w1 ⟨rfl, hb⟩
  replace SU := Lib.hid (((((SU.out.below (belowNew _ _)).below (belowNew _ _)).below (belowNew _ _)).below (belowNew _ _)).below hb)
  replace SG := Lib.hid (((((SG.out.below (belowNew _ _)).below (belowNew _ _)).below (belowNew _ _)).below (belowNew _ _)).below hb)
  replace SA := Lib.hid (((((SA.out.below (belowNew _ _)).below (belowNew _ _)).below (belowNew _ _)).below (belowNew _ _)).below hb)
  have oT : Own w1 w.heap.size [.slice pu us.length cu, .slice pg gs.length cg, .slice pa ks.length ca] 26 := ((((own_at _ _ rfl).alloc _).alloc _).alloc _).below hb
  have oL : Own w1 (w.heap.size + 1) [.int .i64 N, .int .i64 D] 28 := (((own_at _ _ (by simp)).alloc _).alloc _).below hb
  have oX : Own w1 (w.heap.size + 1 + 1) [.int .i64 x.s, .int .i64 x.o, .int .i64 x.p, .int .i64 x.m] 32 := ((own_at _ _ (by simp)).alloc _).below hb
  have oY : Own w1 (w.heap.size + 1 + 1 + 1) [.int .i64 y.s, .int .i64 y.o, .int .i64 y.p, .int .i64 y.m, .int .i64 y.u] 34 := (own_at _ _ (by simp)).below hb
  have bel := belowTo (((((Below.refl w.heap.size w).alloc (by simp) _).alloc (by simp) _).alloc (by simp; omega) _).alloc (by simp; omega) _) hb (by simp; omega)
  clear hb
  obtain ⟨cT0, cT1, cT2, fT, zT⟩ := own3 oT
  obtain ⟨cL0, cL1, fL, zL⟩ := own2 oL
  obtain ⟨cX0, cX1, cX2, cX3, fX, zX⟩ := own4 oX
  obtain ⟨cY0, cY1, cY2, cY3, cY4, fY, zY⟩ := own5 oY
  go_wp2_with fail
  refine (few_lit _ _ _ us gs ks _ SU.out SG.out SA.out true HF.out).mono ?_
  rintro e w2 ⟨rfl, hb⟩
  replace oT := oT.below hb
  replace oL := oL.below hb
  replace oX := oX.below hb
  replace oY := oY.below hb
  replace SU := Lib.hid (SU.out.below hb)
  replace SG := Lib.hid (SG.out.below hb)
  replace SA := Lib.hid (SA.out.below hb)
  replace bel := belowTo bel hb (by exact bel.size)
  clear hb
  clear cT0 cT1 cT2 fT zT cL0 cL1 fL zL cX0 cX1 cX2 cX3 fX zX cY0 cY1 cY2 cY3 cY4 fY zY
  obtain ⟨cT0, cT1, cT2, fT, zT⟩ := own3 oT
  obtain ⟨cL0, cL1, fL, zL⟩ := own2 oL
  obtain ⟨cX0, cX1, cX2, cX3, fX, zX⟩ := own4 oX
  obtain ⟨cY0, cY1, cY2, cY3, cY4, fY, zY⟩ := own5 oY
  go_wp2_with fail
  refine (rvalid_lit _ _ _ us gs ks N D _ SU.out SG.out SA.out (by omega) (by omega) (by omega) true HV.out).mono ?_
  rintro e w3 ⟨rfl, hb⟩
  replace oT := oT.below hb
  replace oL := oL.below hb
  replace oX := oX.below hb
  replace oY := oY.below hb
  replace SU := Lib.hid (SU.out.below hb)
  replace SG := Lib.hid (SG.out.below hb)
  replace SA := Lib.hid (SA.out.below hb)
  replace bel := belowTo bel hb (by exact bel.size)
  clear hb
  clear cT0 cT1 cT2 fT zT cL0 cL1 fL zL cX0 cX1 cX2 cX3 fX zX cY0 cY1 cY2 cY3 cY4 fY zY
  obtain ⟨cT0, cT1, cT2, fT, zT⟩ := own3 oT
  obtain ⟨cL0, cL1, fL, zL⟩ := own2 oL
  obtain ⟨cX0, cX1, cX2, cX3, fX, zX⟩ := own4 oX
  obtain ⟨cY0, cY1, cY2, cY3, cY4, fY, zY⟩ := own5 oY
  go_wp2_with fail
  refine (addu_lit _ _ _ us gs ks N D _ SU.out SG.out SA.out x (by omega) (by omega) (by omega) E HE.out).mono ?_
  rintro e w4 ⟨vA1, vA2, vA3, rfl, z1, z2, z3, hb⟩
  replace oT := oT.below hb
  replace oL := oL.below hb
  replace oX := oX.below hb
  replace oY := oY.below hb
  replace SU := Lib.hid (SU.out.below hb)
  replace SG := Lib.hid (SG.out.below hb)
  replace SA := Lib.hid (SA.out.below hb)
  replace bel := belowTo bel hb (by exact bel.size)
  clear hb
  clear cT0 cT1 cT2 fT zT cL0 cL1 fL zL cX0 cX1 cX2 cX3 fX zX cY0 cY1 cY2 cY3 cY4 fY zY
  obtain ⟨cT0, cT1, cT2, fT, zT⟩ := own3 oT
  obtain ⟨cL0, cL1, fL, zL⟩ := own2 oL
  obtain ⟨cX0, cX1, cX2, cX3, fX, zX⟩ := own4 oX
  obtain ⟨cY0, cY1, cY2, cY3, cY4, fY, zY⟩ := own5 oY
  have AU := Lib.hid (show SlU w4 vA1 (auU us x E) from z1)
  have AG := Lib.hid (show SlG w4 vA2 (auG gs E) from z2)
  have AA := Lib.hid (show SlA w4 vA3 (adA ks x.s E) from z3)
  clear z1 z2 z3
  obtain ⟨pA1, nA1, cA1, f0⟩ := AU.out.slc
  subst f0
  obtain ⟨pA2, nA2, cA2, f0⟩ := AG.out.slc
  subst f0
  obtain ⟨pA3, nA3, cA3, f0⟩ := AA.out.slc
  subst f0
  go_wp2_with fail
  have oA : Own (w4.alloc (Obj.cells #[.slice pA1 nA1 cA1, .slice pA2 nA2 cA2, .slice pA3 nA3 cA3] 26)) w4.heap.size [.slice pA1 nA1 cA1, .slice pA2 nA2 cA2, .slice pA3 nA3 cA3] 26 := own_at _ _ rfl
  have ltAT : w.heap.size < w4.heap.size := zT
  have ltAL : w.heap.size + 1 < w4.heap.size := zL
  have ltAX : w.heap.size + 1 + 1 < w4.heap.size := zX
  have ltAY : w.heap.size + 1 + 1 + 1 < w4.heap.size := zY
  replace oT := oT.alloc (Obj.cells #[.slice pA1 nA1 cA1, .slice pA2 nA2 cA2, .slice pA3 nA3 cA3] 26)
  replace oL := oL.alloc (Obj.cells #[.slice pA1 nA1 cA1, .slice pA2 nA2 cA2, .slice pA3 nA3 cA3] 26)
  replace oX := oX.alloc (Obj.cells #[.slice pA1 nA1 cA1, .slice pA2 nA2 cA2, .slice pA3 nA3 cA3] 26)
  replace oY := oY.alloc (Obj.cells #[.slice pA1 nA1 cA1, .slice pA2 nA2 cA2, .slice pA3 nA3 cA3] 26)
  replace SU := Lib.hid (SU.out.below (belowNew w4 (Obj.cells #[.slice pA1 nA1 cA1, .slice pA2 nA2 cA2, .slice pA3 nA3 cA3] 26)))
  replace SG := Lib.hid (SG.out.below (belowNew w4 (Obj.cells #[.slice pA1 nA1 cA1, .slice pA2 nA2 cA2, .slice pA3 nA3 cA3] 26)))
  replace SA := Lib.hid (SA.out.below (belowNew w4 (Obj.cells #[.slice pA1 nA1 cA1, .slice pA2 nA2 cA2, .slice pA3 nA3 cA3] 26)))
  replace AU := Lib.hid (AU.out.below (belowNew w4 (Obj.cells #[.slice pA1 nA1 cA1, .slice pA2 nA2 cA2, .slice pA3 nA3 cA3] 26)))
  replace AG := Lib.hid (AG.out.below (belowNew w4 (Obj.cells #[.slice pA1 nA1 cA1, .slice pA2 nA2 cA2, .slice pA3 nA3 cA3] 26)))
  replace AA := Lib.hid (AA.out.below (belowNew w4 (Obj.cells #[.slice pA1 nA1 cA1, .slice pA2 nA2 cA2, .slice pA3 nA3 cA3] 26)))
  replace bel := bel.alloc bel.size (Obj.cells #[.slice pA1 nA1 cA1, .slice pA2 nA2 cA2, .slice pA3 nA3 cA3] 26)
  clear cT0 cT1 cT2 fT zT cL0 cL1 fL zL cX0 cX1 cX2 cX3 fX zX cY0 cY1 cY2 cY3 cY4 fY zY
  generalize w4.alloc (Obj.cells #[.slice pA1 nA1 cA1, .slice pA2 nA2 cA2, .slice pA3 nA3 cA3] 26) = w5 at oT oL oX oY oA SU SG SA AU AG AA bel ⊢
  obtain ⟨cT0, cT1, cT2, fT, zT⟩ := own3 oT
  obtain ⟨cL0, cL1, fL, zL⟩ := own2 oL
  obtain ⟨cX0, cX1, cX2, cX3, fX, zX⟩ := own4 oX
  obtain ⟨cY0, cY1, cY2, cY3, cY4, fY, zY⟩ := own5 oY
  obtain ⟨cA0, cA1, cA2, fA, zA⟩ := own3 oA
  go_wp2_with fail
  refine (addg_lit _ _ _ us gs ks N D _ SU.out SG.out SA.out y (by omega) (by omega) (by omega) G HG.out).mono ?_
  rintro e w6 ⟨vB1, vB2, vB3, rfl, z1, z2, z3, hb⟩
  replace oT := oT.below hb
  replace oL := oL.below hb
  replace oX := oX.below hb
  replace oY := oY.below hb
  replace oA := oA.below hb
  replace SU := Lib.hid (SU.out.below hb)
  replace SG := Lib.hid (SG.out.below hb)
  replace SA := Lib.hid (SA.out.below hb)
  replace AU := Lib.hid (AU.out.below hb)
  replace AG := Lib.hid (AG.out.below hb)
  replace AA := Lib.hid (AA.out.below hb)
  replace bel := belowTo bel hb (by exact bel.size)
  clear hb
  clear cT0 cT1 cT2 fT zT cL0 cL1 fL zL cX0 cX1 cX2 cX3 fX zX cY0 cY1 cY2 cY3 cY4 fY zY cA0 cA1 cA2 fA zA
  obtain ⟨cT0, cT1, cT2, fT, zT⟩ := own3 oT
  obtain ⟨cL0, cL1, fL, zL⟩ := own2 oL
  obtain ⟨cX0, cX1, cX2, cX3, fX, zX⟩ := own4 oX
  obtain ⟨cY0, cY1, cY2, cY3, cY4, fY, zY⟩ := own5 oY
  obtain ⟨cA0, cA1, cA2, fA, zA⟩ := own3 oA
  have BU := Lib.hid (show SlU w6 vB1 (agU us G) from z1)
  have BG := Lib.hid (show SlG w6 vB2 (agG gs y G) from z2)
  have BA := Lib.hid (show SlA w6 vB3 (adA ks y.s G) from z3)
  clear z1 z2 z3
  obtain ⟨pB1, nB1, cB1, f0⟩ := BU.out.slc
  subst f0
  obtain ⟨pB2, nB2, cB2, f0⟩ := BG.out.slc
  subst f0
  obtain ⟨pB3, nB3, cB3, f0⟩ := BA.out.slc
  subst f0
  go_wp2_with fail
  have oB : Own (w6.alloc (Obj.cells #[.slice pB1 nB1 cB1, .slice pB2 nB2 cB2, .slice pB3 nB3 cB3] 26)) w6.heap.size [.slice pB1 nB1 cB1, .slice pB2 nB2 cB2, .slice pB3 nB3 cB3] 26 := own_at _ _ rfl
  have ltBT : w.heap.size < w6.heap.size := zT
  have ltBL : w.heap.size + 1 < w6.heap.size := zL
  have ltBX : w.heap.size + 1 + 1 < w6.heap.size := zX
  have ltBY : w.heap.size + 1 + 1 + 1 < w6.heap.size := zY
  have ltBA : w4.heap.size < w6.heap.size := zA
  replace oT := oT.alloc (Obj.cells #[.slice pB1 nB1 cB1, .slice pB2 nB2 cB2, .slice pB3 nB3 cB3] 26)
  replace oL := oL.alloc (Obj.cells #[.slice pB1 nB1 cB1, .slice pB2 nB2 cB2, .slice pB3 nB3 cB3] 26)
  replace oX := oX.alloc (Obj.cells #[.slice pB1 nB1 cB1, .slice pB2 nB2 cB2, .slice pB3 nB3 cB3] 26)
  replace oY := oY.alloc (Obj.cells #[.slice pB1 nB1 cB1, .slice pB2 nB2 cB2, .slice pB3 nB3 cB3] 26)
  replace oA := oA.alloc (Obj.cells #[.slice pB1 nB1 cB1, .slice pB2 nB2 cB2, .slice pB3 nB3 cB3] 26)
  replace SU := Lib.hid (SU.out.below (belowNew w6 (Obj.cells #[.slice pB1 nB1 cB1, .slice pB2 nB2 cB2, .slice pB3 nB3 cB3] 26)))
  replace SG := Lib.hid (SG.out.below (belowNew w6 (Obj.cells #[.slice pB1 nB1 cB1, .slice pB2 nB2 cB2, .slice pB3 nB3 cB3] 26)))
  replace SA := Lib.hid (SA.out.below (belowNew w6 (Obj.cells #[.slice pB1 nB1 cB1, .slice pB2 nB2 cB2, .slice pB3 nB3 cB3] 26)))
  replace AU := Lib.hid (AU.out.below (belowNew w6 (Obj.cells #[.slice pB1 nB1 cB1, .slice pB2 nB2 cB2, .slice pB3 nB3 cB3] 26)))
  replace AG := Lib.hid (AG.out.below (belowNew w6 (Obj.cells #[.slice pB1 nB1 cB1, .slice pB2 nB2 cB2, .slice pB3 nB3 cB3] 26)))
  replace AA := Lib.hid (AA.out.below (belowNew w6 (Obj.cells #[.slice pB1 nB1 cB1, .slice pB2 nB2 cB2, .slice pB3 nB3 cB3] 26)))
  replace BU := Lib.hid (BU.out.below (belowNew w6 (Obj.cells #[.slice pB1 nB1 cB1, .slice pB2 nB2 cB2, .slice pB3 nB3 cB3] 26)))
  replace BG := Lib.hid (BG.out.below (belowNew w6 (Obj.cells #[.slice pB1 nB1 cB1, .slice pB2 nB2 cB2, .slice pB3 nB3 cB3] 26)))
  replace BA := Lib.hid (BA.out.below (belowNew w6 (Obj.cells #[.slice pB1 nB1 cB1, .slice pB2 nB2 cB2, .slice pB3 nB3 cB3] 26)))
  replace bel := bel.alloc bel.size (Obj.cells #[.slice pB1 nB1 cB1, .slice pB2 nB2 cB2, .slice pB3 nB3 cB3] 26)
  clear cT0 cT1 cT2 fT zT cL0 cL1 fL zL cX0 cX1 cX2 cX3 fX zX cY0 cY1 cY2 cY3 cY4 fY zY cA0 cA1 cA2 fA zA
  generalize w6.alloc (Obj.cells #[.slice pB1 nB1 cB1, .slice pB2 nB2 cB2, .slice pB3 nB3 cB3] 26) = w7 at oT oL oX oY oA oB SU SG SA AU AG AA BU BG BA bel ⊢
  obtain ⟨cT0, cT1, cT2, fT, zT⟩ := own3 oT
  obtain ⟨cL0, cL1, fL, zL⟩ := own2 oL
  obtain ⟨cX0, cX1, cX2, cX3, fX, zX⟩ := own4 oX
  obtain ⟨cY0, cY1, cY2, cY3, cY4, fY, zY⟩ := own5 oY
  obtain ⟨cA0, cA1, cA2, fA, zA⟩ := own3 oA
  obtain ⟨cB0, cB1, cB2, fB, zB⟩ := own3 oB
  go_wp2_with fail
  go_ret
  exact ⟨rfl, bel⟩

set_option linter.unusedSimpArgs false in
set_option linter.unusedVariables false in
set_option maxRecDepth 100000 in
set_option maxHeartbeats 2000000 in
theorem order_f (vu vg va : Value) (us : List Us) (gs : List Gr) (ks : List Ak) (N D : Int) (x : Us) (y : Gr) (w : World) (su : SlU w vu us) (sg : SlG w vg gs) (sa : SlA w va ks) (hf : fewB us gs ks = true) (hv : vldT N D us gs ks = true) (hs : (x.s == y.s) = false) (hl : decide (24 < (us.length : Int) + (gs.length : Int) + 2) = false) (G : Int) (he : auE N D us gs ks x = 0) (hg : agE N D us gs ks y = G) (hn : ¬ G = 0) : Calls Try.prog 6 #[.agg #[vu, vg, va], .agg #[.int .i64 N, .int .i64 D], .agg #[.int .i64 x.s, .int .i64 x.o, .int .i64 x.p, .int .i64 x.m], .agg #[.int .i64 y.s, .int .i64 y.o, .int .i64 y.p, .int .i64 y.m, .int .i64 y.u]] w fun e w' => e = .returned (.bool true) ∧ Below w.heap.size w w' := by
  have u70 : us.length ≤ 70 := (fewB_iff.1 hf).1
  have g70 : gs.length ≤ 70 := (fewB_iff.1 hf).2.1
  have k70 : ks.length ≤ 70 := (fewB_iff.1 hf).2.2
  obtain ⟨pu, cu, e0, hlu, hcu, _⟩ := su.form us.length rfl
  subst e0
  obtain ⟨pg, cg, e0, hlg, hcg, _⟩ := sg.form gs.length rfl
  subst e0
  obtain ⟨pa, ca, e0, hla, hca, _⟩ := sa.form ks.length rfl
  subst e0
  have SU := Lib.hid su
  have SG := Lib.hid sg
  have SA := Lib.hid sa
  clear su sg sa
  have iu0 : (0 : Int) ≤ (us.length : Int) := Int.natCast_nonneg _
  have ig0 : (0 : Int) ≤ (gs.length : Int) := Int.natCast_nonneg _
  have ia0 : (0 : Int) ≤ (ks.length : Int) := Int.natCast_nonneg _
  have iu : (us.length : Int) ≤ 70 := by omega
  have ig : (gs.length : Int) ≤ 70 := by omega
  have ia : (ks.length : Int) ≤ 70 := by omega
  have HF := Lib.hid hf
  have HV := Lib.hid hv
  have HE := Lib.hid he
  have HG := Lib.hid hg
  clear hf hv he hg
  go_enter Try.func6, Try.ntmps6
  go_wp2_with fail
  refine (head_true _).mono ?_
  rintro e w1 ⟨rfl, hb⟩
  replace SU := Lib.hid (((((SU.out.below (belowNew _ _)).below (belowNew _ _)).below (belowNew _ _)).below (belowNew _ _)).below hb)
  replace SG := Lib.hid (((((SG.out.below (belowNew _ _)).below (belowNew _ _)).below (belowNew _ _)).below (belowNew _ _)).below hb)
  replace SA := Lib.hid (((((SA.out.below (belowNew _ _)).below (belowNew _ _)).below (belowNew _ _)).below (belowNew _ _)).below hb)
  have oT : Own w1 w.heap.size [.slice pu us.length cu, .slice pg gs.length cg, .slice pa ks.length ca] 26 := ((((own_at _ _ rfl).alloc _).alloc _).alloc _).below hb
  have oL : Own w1 (w.heap.size + 1) [.int .i64 N, .int .i64 D] 28 := (((own_at _ _ (by simp)).alloc _).alloc _).below hb
  have oX : Own w1 (w.heap.size + 1 + 1) [.int .i64 x.s, .int .i64 x.o, .int .i64 x.p, .int .i64 x.m] 32 := ((own_at _ _ (by simp)).alloc _).below hb
  have oY : Own w1 (w.heap.size + 1 + 1 + 1) [.int .i64 y.s, .int .i64 y.o, .int .i64 y.p, .int .i64 y.m, .int .i64 y.u] 34 := (own_at _ _ (by simp)).below hb
  have bel := belowTo (((((Below.refl w.heap.size w).alloc (by simp) _).alloc (by simp) _).alloc (by simp; omega) _).alloc (by simp; omega) _) hb (by simp; omega)
  clear hb
  obtain ⟨cT0, cT1, cT2, fT, zT⟩ := own3 oT
  obtain ⟨cL0, cL1, fL, zL⟩ := own2 oL
  obtain ⟨cX0, cX1, cX2, cX3, fX, zX⟩ := own4 oX
  obtain ⟨cY0, cY1, cY2, cY3, cY4, fY, zY⟩ := own5 oY
  go_wp2_with fail
  refine (few_lit _ _ _ us gs ks _ SU.out SG.out SA.out true HF.out).mono ?_
  rintro e w2 ⟨rfl, hb⟩
  replace oT := oT.below hb
  replace oL := oL.below hb
  replace oX := oX.below hb
  replace oY := oY.below hb
  replace SU := Lib.hid (SU.out.below hb)
  replace SG := Lib.hid (SG.out.below hb)
  replace SA := Lib.hid (SA.out.below hb)
  replace bel := belowTo bel hb (by exact bel.size)
  clear hb
  clear cT0 cT1 cT2 fT zT cL0 cL1 fL zL cX0 cX1 cX2 cX3 fX zX cY0 cY1 cY2 cY3 cY4 fY zY
  obtain ⟨cT0, cT1, cT2, fT, zT⟩ := own3 oT
  obtain ⟨cL0, cL1, fL, zL⟩ := own2 oL
  obtain ⟨cX0, cX1, cX2, cX3, fX, zX⟩ := own4 oX
  obtain ⟨cY0, cY1, cY2, cY3, cY4, fY, zY⟩ := own5 oY
  go_wp2_with fail
  refine (rvalid_lit _ _ _ us gs ks N D _ SU.out SG.out SA.out (by omega) (by omega) (by omega) true HV.out).mono ?_
  rintro e w3 ⟨rfl, hb⟩
  replace oT := oT.below hb
  replace oL := oL.below hb
  replace oX := oX.below hb
  replace oY := oY.below hb
  replace SU := Lib.hid (SU.out.below hb)
  replace SG := Lib.hid (SG.out.below hb)
  replace SA := Lib.hid (SA.out.below hb)
  replace bel := belowTo bel hb (by exact bel.size)
  clear hb
  clear cT0 cT1 cT2 fT zT cL0 cL1 fL zL cX0 cX1 cX2 cX3 fX zX cY0 cY1 cY2 cY3 cY4 fY zY
  obtain ⟨cT0, cT1, cT2, fT, zT⟩ := own3 oT
  obtain ⟨cL0, cL1, fL, zL⟩ := own2 oL
  obtain ⟨cX0, cX1, cX2, cX3, fX, zX⟩ := own4 oX
  obtain ⟨cY0, cY1, cY2, cY3, cY4, fY, zY⟩ := own5 oY
  go_wp2_with fail
  refine (addu_lit _ _ _ us gs ks N D _ SU.out SG.out SA.out x (by omega) (by omega) (by omega) 0 HE.out).mono ?_
  rintro e w4 ⟨vA1, vA2, vA3, rfl, z1, z2, z3, hb⟩
  replace oT := oT.below hb
  replace oL := oL.below hb
  replace oX := oX.below hb
  replace oY := oY.below hb
  replace SU := Lib.hid (SU.out.below hb)
  replace SG := Lib.hid (SG.out.below hb)
  replace SA := Lib.hid (SA.out.below hb)
  replace bel := belowTo bel hb (by exact bel.size)
  clear hb
  clear cT0 cT1 cT2 fT zT cL0 cL1 fL zL cX0 cX1 cX2 cX3 fX zX cY0 cY1 cY2 cY3 cY4 fY zY
  obtain ⟨cT0, cT1, cT2, fT, zT⟩ := own3 oT
  obtain ⟨cL0, cL1, fL, zL⟩ := own2 oL
  obtain ⟨cX0, cX1, cX2, cX3, fX, zX⟩ := own4 oX
  obtain ⟨cY0, cY1, cY2, cY3, cY4, fY, zY⟩ := own5 oY
  have AU := Lib.hid (show SlU w4 vA1 (adU x us) from z1)
  have AG := Lib.hid (show SlG w4 vA2 gs from z2)
  have AA := Lib.hid (show SlA w4 vA3 (una x.s ks) from z3)
  clear z1 z2 z3
  obtain ⟨pA1, nA1, cA1, f0⟩ := AU.out.slc
  subst f0
  obtain ⟨pA2, nA2, cA2, f0⟩ := AG.out.slc
  subst f0
  obtain ⟨pA3, nA3, cA3, f0⟩ := AA.out.slc
  subst f0
  go_wp2_with fail
  have oA : Own (w4.alloc (Obj.cells #[.slice pA1 nA1 cA1, .slice pA2 nA2 cA2, .slice pA3 nA3 cA3] 26)) w4.heap.size [.slice pA1 nA1 cA1, .slice pA2 nA2 cA2, .slice pA3 nA3 cA3] 26 := own_at _ _ rfl
  have ltAT : w.heap.size < w4.heap.size := zT
  have ltAL : w.heap.size + 1 < w4.heap.size := zL
  have ltAX : w.heap.size + 1 + 1 < w4.heap.size := zX
  have ltAY : w.heap.size + 1 + 1 + 1 < w4.heap.size := zY
  replace oT := oT.alloc (Obj.cells #[.slice pA1 nA1 cA1, .slice pA2 nA2 cA2, .slice pA3 nA3 cA3] 26)
  replace oL := oL.alloc (Obj.cells #[.slice pA1 nA1 cA1, .slice pA2 nA2 cA2, .slice pA3 nA3 cA3] 26)
  replace oX := oX.alloc (Obj.cells #[.slice pA1 nA1 cA1, .slice pA2 nA2 cA2, .slice pA3 nA3 cA3] 26)
  replace oY := oY.alloc (Obj.cells #[.slice pA1 nA1 cA1, .slice pA2 nA2 cA2, .slice pA3 nA3 cA3] 26)
  replace SU := Lib.hid (SU.out.below (belowNew w4 (Obj.cells #[.slice pA1 nA1 cA1, .slice pA2 nA2 cA2, .slice pA3 nA3 cA3] 26)))
  replace SG := Lib.hid (SG.out.below (belowNew w4 (Obj.cells #[.slice pA1 nA1 cA1, .slice pA2 nA2 cA2, .slice pA3 nA3 cA3] 26)))
  replace SA := Lib.hid (SA.out.below (belowNew w4 (Obj.cells #[.slice pA1 nA1 cA1, .slice pA2 nA2 cA2, .slice pA3 nA3 cA3] 26)))
  replace AU := Lib.hid (AU.out.below (belowNew w4 (Obj.cells #[.slice pA1 nA1 cA1, .slice pA2 nA2 cA2, .slice pA3 nA3 cA3] 26)))
  replace AG := Lib.hid (AG.out.below (belowNew w4 (Obj.cells #[.slice pA1 nA1 cA1, .slice pA2 nA2 cA2, .slice pA3 nA3 cA3] 26)))
  replace AA := Lib.hid (AA.out.below (belowNew w4 (Obj.cells #[.slice pA1 nA1 cA1, .slice pA2 nA2 cA2, .slice pA3 nA3 cA3] 26)))
  replace bel := bel.alloc bel.size (Obj.cells #[.slice pA1 nA1 cA1, .slice pA2 nA2 cA2, .slice pA3 nA3 cA3] 26)
  clear cT0 cT1 cT2 fT zT cL0 cL1 fL zL cX0 cX1 cX2 cX3 fX zX cY0 cY1 cY2 cY3 cY4 fY zY
  generalize w4.alloc (Obj.cells #[.slice pA1 nA1 cA1, .slice pA2 nA2 cA2, .slice pA3 nA3 cA3] 26) = w5 at oT oL oX oY oA SU SG SA AU AG AA bel ⊢
  obtain ⟨cT0, cT1, cT2, fT, zT⟩ := own3 oT
  obtain ⟨cL0, cL1, fL, zL⟩ := own2 oL
  obtain ⟨cX0, cX1, cX2, cX3, fX, zX⟩ := own4 oX
  obtain ⟨cY0, cY1, cY2, cY3, cY4, fY, zY⟩ := own5 oY
  obtain ⟨cA0, cA1, cA2, fA, zA⟩ := own3 oA
  go_wp2_with fail
  refine (addg_lit _ _ _ us gs ks N D _ SU.out SG.out SA.out y (by omega) (by omega) (by omega) G HG.out).mono ?_
  rintro e w6 ⟨vB1, vB2, vB3, rfl, z1, z2, z3, hb⟩
  replace oT := oT.below hb
  replace oL := oL.below hb
  replace oX := oX.below hb
  replace oY := oY.below hb
  replace oA := oA.below hb
  replace SU := Lib.hid (SU.out.below hb)
  replace SG := Lib.hid (SG.out.below hb)
  replace SA := Lib.hid (SA.out.below hb)
  replace AU := Lib.hid (AU.out.below hb)
  replace AG := Lib.hid (AG.out.below hb)
  replace AA := Lib.hid (AA.out.below hb)
  replace bel := belowTo bel hb (by exact bel.size)
  clear hb
  clear cT0 cT1 cT2 fT zT cL0 cL1 fL zL cX0 cX1 cX2 cX3 fX zX cY0 cY1 cY2 cY3 cY4 fY zY cA0 cA1 cA2 fA zA
  obtain ⟨cT0, cT1, cT2, fT, zT⟩ := own3 oT
  obtain ⟨cL0, cL1, fL, zL⟩ := own2 oL
  obtain ⟨cX0, cX1, cX2, cX3, fX, zX⟩ := own4 oX
  obtain ⟨cY0, cY1, cY2, cY3, cY4, fY, zY⟩ := own5 oY
  obtain ⟨cA0, cA1, cA2, fA, zA⟩ := own3 oA
  have BU := Lib.hid (show SlU w6 vB1 (agU us G) from z1)
  have BG := Lib.hid (show SlG w6 vB2 (agG gs y G) from z2)
  have BA := Lib.hid (show SlA w6 vB3 (adA ks y.s G) from z3)
  clear z1 z2 z3
  obtain ⟨pB1, nB1, cB1, f0⟩ := BU.out.slc
  subst f0
  obtain ⟨pB2, nB2, cB2, f0⟩ := BG.out.slc
  subst f0
  obtain ⟨pB3, nB3, cB3, f0⟩ := BA.out.slc
  subst f0
  go_wp2_with fail
  have oB : Own (w6.alloc (Obj.cells #[.slice pB1 nB1 cB1, .slice pB2 nB2 cB2, .slice pB3 nB3 cB3] 26)) w6.heap.size [.slice pB1 nB1 cB1, .slice pB2 nB2 cB2, .slice pB3 nB3 cB3] 26 := own_at _ _ rfl
  have ltBT : w.heap.size < w6.heap.size := zT
  have ltBL : w.heap.size + 1 < w6.heap.size := zL
  have ltBX : w.heap.size + 1 + 1 < w6.heap.size := zX
  have ltBY : w.heap.size + 1 + 1 + 1 < w6.heap.size := zY
  have ltBA : w4.heap.size < w6.heap.size := zA
  replace oT := oT.alloc (Obj.cells #[.slice pB1 nB1 cB1, .slice pB2 nB2 cB2, .slice pB3 nB3 cB3] 26)
  replace oL := oL.alloc (Obj.cells #[.slice pB1 nB1 cB1, .slice pB2 nB2 cB2, .slice pB3 nB3 cB3] 26)
  replace oX := oX.alloc (Obj.cells #[.slice pB1 nB1 cB1, .slice pB2 nB2 cB2, .slice pB3 nB3 cB3] 26)
  replace oY := oY.alloc (Obj.cells #[.slice pB1 nB1 cB1, .slice pB2 nB2 cB2, .slice pB3 nB3 cB3] 26)
  replace oA := oA.alloc (Obj.cells #[.slice pB1 nB1 cB1, .slice pB2 nB2 cB2, .slice pB3 nB3 cB3] 26)
  replace SU := Lib.hid (SU.out.below (belowNew w6 (Obj.cells #[.slice pB1 nB1 cB1, .slice pB2 nB2 cB2, .slice pB3 nB3 cB3] 26)))
  replace SG := Lib.hid (SG.out.below (belowNew w6 (Obj.cells #[.slice pB1 nB1 cB1, .slice pB2 nB2 cB2, .slice pB3 nB3 cB3] 26)))
  replace SA := Lib.hid (SA.out.below (belowNew w6 (Obj.cells #[.slice pB1 nB1 cB1, .slice pB2 nB2 cB2, .slice pB3 nB3 cB3] 26)))
  replace AU := Lib.hid (AU.out.below (belowNew w6 (Obj.cells #[.slice pB1 nB1 cB1, .slice pB2 nB2 cB2, .slice pB3 nB3 cB3] 26)))
  replace AG := Lib.hid (AG.out.below (belowNew w6 (Obj.cells #[.slice pB1 nB1 cB1, .slice pB2 nB2 cB2, .slice pB3 nB3 cB3] 26)))
  replace AA := Lib.hid (AA.out.below (belowNew w6 (Obj.cells #[.slice pB1 nB1 cB1, .slice pB2 nB2 cB2, .slice pB3 nB3 cB3] 26)))
  replace BU := Lib.hid (BU.out.below (belowNew w6 (Obj.cells #[.slice pB1 nB1 cB1, .slice pB2 nB2 cB2, .slice pB3 nB3 cB3] 26)))
  replace BG := Lib.hid (BG.out.below (belowNew w6 (Obj.cells #[.slice pB1 nB1 cB1, .slice pB2 nB2 cB2, .slice pB3 nB3 cB3] 26)))
  replace BA := Lib.hid (BA.out.below (belowNew w6 (Obj.cells #[.slice pB1 nB1 cB1, .slice pB2 nB2 cB2, .slice pB3 nB3 cB3] 26)))
  replace bel := bel.alloc bel.size (Obj.cells #[.slice pB1 nB1 cB1, .slice pB2 nB2 cB2, .slice pB3 nB3 cB3] 26)
  clear cT0 cT1 cT2 fT zT cL0 cL1 fL zL cX0 cX1 cX2 cX3 fX zX cY0 cY1 cY2 cY3 cY4 fY zY cA0 cA1 cA2 fA zA
  generalize w6.alloc (Obj.cells #[.slice pB1 nB1 cB1, .slice pB2 nB2 cB2, .slice pB3 nB3 cB3] 26) = w7 at oT oL oX oY oA oB SU SG SA AU AG AA BU BG BA bel ⊢
  obtain ⟨cT0, cT1, cT2, fT, zT⟩ := own3 oT
  obtain ⟨cL0, cL1, fL, zL⟩ := own2 oL
  obtain ⟨cX0, cX1, cX2, cX3, fX, zX⟩ := own4 oX
  obtain ⟨cY0, cY1, cY2, cY3, cY4, fY, zY⟩ := own5 oY
  obtain ⟨cA0, cA1, cA2, fA, zA⟩ := own3 oA
  obtain ⟨cB0, cB1, cB2, fB, zB⟩ := own3 oB
  go_wp2_with fail
  go_ret
  exact ⟨rfl, bel⟩

set_option linter.unusedSimpArgs false in
set_option linter.unusedVariables false in
set_option maxRecDepth 100000 in
set_option maxHeartbeats 2000000 in
theorem order_go (vu vg va : Value) (us : List Us) (gs : List Gr) (ks : List Ak) (N D : Int) (x : Us) (y : Gr) (w : World) (su : SlU w vu us) (sg : SlG w vg gs) (sa : SlA w va ks) (hf : fewB us gs ks = true) (hv : vldT N D us gs ks = true) (hs : (x.s == y.s) = false) (hl : decide (24 < (us.length : Int) + (gs.length : Int) + 2) = false) (he : auE N D us gs ks x = 0) (hg : agE N D us gs ks y = 0) : Calls Try.prog 6 #[.agg #[vu, vg, va], .agg #[.int .i64 N, .int .i64 D], .agg #[.int .i64 x.s, .int .i64 x.o, .int .i64 x.p, .int .i64 x.m], .agg #[.int .i64 y.s, .int .i64 y.o, .int .i64 y.p, .int .i64 y.m, .int .i64 y.u]] w fun e w' => e = .returned (.bool true) ∧ Below w.heap.size w w' := by
  have u70 : us.length ≤ 70 := (fewB_iff.1 hf).1
  have g70 : gs.length ≤ 70 := (fewB_iff.1 hf).2.1
  have k70 : ks.length ≤ 70 := (fewB_iff.1 hf).2.2
  have OP := Lib.hid (order_plain he hg (by simpa using hs) (by have := of_decide_eq_false hl; omega))
  have AL := Lib.hid (auE_ok he)
  obtain ⟨pu, cu, e0, hlu, hcu, _⟩ := su.form us.length rfl
  subst e0
  obtain ⟨pg, cg, e0, hlg, hcg, _⟩ := sg.form gs.length rfl
  subst e0
  obtain ⟨pa, ca, e0, hla, hca, _⟩ := sa.form ks.length rfl
  subst e0
  have SU := Lib.hid su
  have SG := Lib.hid sg
  have SA := Lib.hid sa
  clear su sg sa
  have iu0 : (0 : Int) ≤ (us.length : Int) := Int.natCast_nonneg _
  have ig0 : (0 : Int) ≤ (gs.length : Int) := Int.natCast_nonneg _
  have ia0 : (0 : Int) ≤ (ks.length : Int) := Int.natCast_nonneg _
  have iu : (us.length : Int) ≤ 70 := by omega
  have ig : (gs.length : Int) ≤ 70 := by omega
  have ia : (ks.length : Int) ≤ 70 := by omega
  have HF := Lib.hid hf
  have HV := Lib.hid hv
  have HE := Lib.hid he
  have HG := Lib.hid hg
  clear hf hv he hg
  go_enter Try.func6, Try.ntmps6
  go_wp2_with fail
  refine (head_true _).mono ?_
  rintro e w1 ⟨rfl, hb⟩
  replace SU := Lib.hid (((((SU.out.below (belowNew _ _)).below (belowNew _ _)).below (belowNew _ _)).below (belowNew _ _)).below hb)
  replace SG := Lib.hid (((((SG.out.below (belowNew _ _)).below (belowNew _ _)).below (belowNew _ _)).below (belowNew _ _)).below hb)
  replace SA := Lib.hid (((((SA.out.below (belowNew _ _)).below (belowNew _ _)).below (belowNew _ _)).below (belowNew _ _)).below hb)
  have oT : Own w1 w.heap.size [.slice pu us.length cu, .slice pg gs.length cg, .slice pa ks.length ca] 26 := ((((own_at _ _ rfl).alloc _).alloc _).alloc _).below hb
  have oL : Own w1 (w.heap.size + 1) [.int .i64 N, .int .i64 D] 28 := (((own_at _ _ (by simp)).alloc _).alloc _).below hb
  have oX : Own w1 (w.heap.size + 1 + 1) [.int .i64 x.s, .int .i64 x.o, .int .i64 x.p, .int .i64 x.m] 32 := ((own_at _ _ (by simp)).alloc _).below hb
  have oY : Own w1 (w.heap.size + 1 + 1 + 1) [.int .i64 y.s, .int .i64 y.o, .int .i64 y.p, .int .i64 y.m, .int .i64 y.u] 34 := (own_at _ _ (by simp)).below hb
  have bel := belowTo (((((Below.refl w.heap.size w).alloc (by simp) _).alloc (by simp) _).alloc (by simp; omega) _).alloc (by simp; omega) _) hb (by simp; omega)
  clear hb
  obtain ⟨cT0, cT1, cT2, fT, zT⟩ := own3 oT
  obtain ⟨cL0, cL1, fL, zL⟩ := own2 oL
  obtain ⟨cX0, cX1, cX2, cX3, fX, zX⟩ := own4 oX
  obtain ⟨cY0, cY1, cY2, cY3, cY4, fY, zY⟩ := own5 oY
  go_wp2_with fail
  refine (few_lit _ _ _ us gs ks _ SU.out SG.out SA.out true HF.out).mono ?_
  rintro e w2 ⟨rfl, hb⟩
  replace oT := oT.below hb
  replace oL := oL.below hb
  replace oX := oX.below hb
  replace oY := oY.below hb
  replace SU := Lib.hid (SU.out.below hb)
  replace SG := Lib.hid (SG.out.below hb)
  replace SA := Lib.hid (SA.out.below hb)
  replace bel := belowTo bel hb (by exact bel.size)
  clear hb
  clear cT0 cT1 cT2 fT zT cL0 cL1 fL zL cX0 cX1 cX2 cX3 fX zX cY0 cY1 cY2 cY3 cY4 fY zY
  obtain ⟨cT0, cT1, cT2, fT, zT⟩ := own3 oT
  obtain ⟨cL0, cL1, fL, zL⟩ := own2 oL
  obtain ⟨cX0, cX1, cX2, cX3, fX, zX⟩ := own4 oX
  obtain ⟨cY0, cY1, cY2, cY3, cY4, fY, zY⟩ := own5 oY
  go_wp2_with fail
  refine (rvalid_lit _ _ _ us gs ks N D _ SU.out SG.out SA.out (by omega) (by omega) (by omega) true HV.out).mono ?_
  rintro e w3 ⟨rfl, hb⟩
  replace oT := oT.below hb
  replace oL := oL.below hb
  replace oX := oX.below hb
  replace oY := oY.below hb
  replace SU := Lib.hid (SU.out.below hb)
  replace SG := Lib.hid (SG.out.below hb)
  replace SA := Lib.hid (SA.out.below hb)
  replace bel := belowTo bel hb (by exact bel.size)
  clear hb
  clear cT0 cT1 cT2 fT zT cL0 cL1 fL zL cX0 cX1 cX2 cX3 fX zX cY0 cY1 cY2 cY3 cY4 fY zY
  obtain ⟨cT0, cT1, cT2, fT, zT⟩ := own3 oT
  obtain ⟨cL0, cL1, fL, zL⟩ := own2 oL
  obtain ⟨cX0, cX1, cX2, cX3, fX, zX⟩ := own4 oX
  obtain ⟨cY0, cY1, cY2, cY3, cY4, fY, zY⟩ := own5 oY
  go_wp2_with fail
  refine (addu_lit _ _ _ us gs ks N D _ SU.out SG.out SA.out x (by omega) (by omega) (by omega) 0 HE.out).mono ?_
  rintro e w4 ⟨vA1, vA2, vA3, rfl, z1, z2, z3, hb⟩
  replace oT := oT.below hb
  replace oL := oL.below hb
  replace oX := oX.below hb
  replace oY := oY.below hb
  replace SU := Lib.hid (SU.out.below hb)
  replace SG := Lib.hid (SG.out.below hb)
  replace SA := Lib.hid (SA.out.below hb)
  replace bel := belowTo bel hb (by exact bel.size)
  clear hb
  clear cT0 cT1 cT2 fT zT cL0 cL1 fL zL cX0 cX1 cX2 cX3 fX zX cY0 cY1 cY2 cY3 cY4 fY zY
  obtain ⟨cT0, cT1, cT2, fT, zT⟩ := own3 oT
  obtain ⟨cL0, cL1, fL, zL⟩ := own2 oL
  obtain ⟨cX0, cX1, cX2, cX3, fX, zX⟩ := own4 oX
  obtain ⟨cY0, cY1, cY2, cY3, cY4, fY, zY⟩ := own5 oY
  have AU := Lib.hid (show SlU w4 vA1 (adU x us) from z1)
  have AG := Lib.hid (show SlG w4 vA2 gs from z2)
  have AA := Lib.hid (show SlA w4 vA3 (una x.s ks) from z3)
  clear z1 z2 z3
  obtain ⟨pA1, nA1, cA1, f0⟩ := AU.out.slc
  subst f0
  obtain ⟨pA2, nA2, cA2, f0⟩ := AG.out.slc
  subst f0
  obtain ⟨pA3, nA3, cA3, f0⟩ := AA.out.slc
  subst f0
  go_wp2_with fail
  have oA : Own (w4.alloc (Obj.cells #[.slice pA1 nA1 cA1, .slice pA2 nA2 cA2, .slice pA3 nA3 cA3] 26)) w4.heap.size [.slice pA1 nA1 cA1, .slice pA2 nA2 cA2, .slice pA3 nA3 cA3] 26 := own_at _ _ rfl
  have ltAT : w.heap.size < w4.heap.size := zT
  have ltAL : w.heap.size + 1 < w4.heap.size := zL
  have ltAX : w.heap.size + 1 + 1 < w4.heap.size := zX
  have ltAY : w.heap.size + 1 + 1 + 1 < w4.heap.size := zY
  replace oT := oT.alloc (Obj.cells #[.slice pA1 nA1 cA1, .slice pA2 nA2 cA2, .slice pA3 nA3 cA3] 26)
  replace oL := oL.alloc (Obj.cells #[.slice pA1 nA1 cA1, .slice pA2 nA2 cA2, .slice pA3 nA3 cA3] 26)
  replace oX := oX.alloc (Obj.cells #[.slice pA1 nA1 cA1, .slice pA2 nA2 cA2, .slice pA3 nA3 cA3] 26)
  replace oY := oY.alloc (Obj.cells #[.slice pA1 nA1 cA1, .slice pA2 nA2 cA2, .slice pA3 nA3 cA3] 26)
  replace SU := Lib.hid (SU.out.below (belowNew w4 (Obj.cells #[.slice pA1 nA1 cA1, .slice pA2 nA2 cA2, .slice pA3 nA3 cA3] 26)))
  replace SG := Lib.hid (SG.out.below (belowNew w4 (Obj.cells #[.slice pA1 nA1 cA1, .slice pA2 nA2 cA2, .slice pA3 nA3 cA3] 26)))
  replace SA := Lib.hid (SA.out.below (belowNew w4 (Obj.cells #[.slice pA1 nA1 cA1, .slice pA2 nA2 cA2, .slice pA3 nA3 cA3] 26)))
  replace AU := Lib.hid (AU.out.below (belowNew w4 (Obj.cells #[.slice pA1 nA1 cA1, .slice pA2 nA2 cA2, .slice pA3 nA3 cA3] 26)))
  replace AG := Lib.hid (AG.out.below (belowNew w4 (Obj.cells #[.slice pA1 nA1 cA1, .slice pA2 nA2 cA2, .slice pA3 nA3 cA3] 26)))
  replace AA := Lib.hid (AA.out.below (belowNew w4 (Obj.cells #[.slice pA1 nA1 cA1, .slice pA2 nA2 cA2, .slice pA3 nA3 cA3] 26)))
  replace bel := bel.alloc bel.size (Obj.cells #[.slice pA1 nA1 cA1, .slice pA2 nA2 cA2, .slice pA3 nA3 cA3] 26)
  clear cT0 cT1 cT2 fT zT cL0 cL1 fL zL cX0 cX1 cX2 cX3 fX zX cY0 cY1 cY2 cY3 cY4 fY zY
  generalize w4.alloc (Obj.cells #[.slice pA1 nA1 cA1, .slice pA2 nA2 cA2, .slice pA3 nA3 cA3] 26) = w5 at oT oL oX oY oA SU SG SA AU AG AA bel ⊢
  obtain ⟨cT0, cT1, cT2, fT, zT⟩ := own3 oT
  obtain ⟨cL0, cL1, fL, zL⟩ := own2 oL
  obtain ⟨cX0, cX1, cX2, cX3, fX, zX⟩ := own4 oX
  obtain ⟨cY0, cY1, cY2, cY3, cY4, fY, zY⟩ := own5 oY
  obtain ⟨cA0, cA1, cA2, fA, zA⟩ := own3 oA
  go_wp2_with fail
  refine (addg_lit _ _ _ us gs ks N D _ SU.out SG.out SA.out y (by omega) (by omega) (by omega) 0 HG.out).mono ?_
  rintro e w6 ⟨vB1, vB2, vB3, rfl, z1, z2, z3, hb⟩
  replace oT := oT.below hb
  replace oL := oL.below hb
  replace oX := oX.below hb
  replace oY := oY.below hb
  replace oA := oA.below hb
  replace SU := Lib.hid (SU.out.below hb)
  replace SG := Lib.hid (SG.out.below hb)
  replace SA := Lib.hid (SA.out.below hb)
  replace AU := Lib.hid (AU.out.below hb)
  replace AG := Lib.hid (AG.out.below hb)
  replace AA := Lib.hid (AA.out.below hb)
  replace bel := belowTo bel hb (by exact bel.size)
  clear hb
  clear cT0 cT1 cT2 fT zT cL0 cL1 fL zL cX0 cX1 cX2 cX3 fX zX cY0 cY1 cY2 cY3 cY4 fY zY cA0 cA1 cA2 fA zA
  obtain ⟨cT0, cT1, cT2, fT, zT⟩ := own3 oT
  obtain ⟨cL0, cL1, fL, zL⟩ := own2 oL
  obtain ⟨cX0, cX1, cX2, cX3, fX, zX⟩ := own4 oX
  obtain ⟨cY0, cY1, cY2, cY3, cY4, fY, zY⟩ := own5 oY
  obtain ⟨cA0, cA1, cA2, fA, zA⟩ := own3 oA
  have BU := Lib.hid (show SlU w6 vB1 us from z1)
  have BG := Lib.hid (show SlG w6 vB2 (adG y gs) from z2)
  have BA := Lib.hid (show SlA w6 vB3 (una y.s ks) from z3)
  clear z1 z2 z3
  obtain ⟨pB1, nB1, cB1, f0⟩ := BU.out.slc
  subst f0
  obtain ⟨pB2, nB2, cB2, f0⟩ := BG.out.slc
  subst f0
  obtain ⟨pB3, nB3, cB3, f0⟩ := BA.out.slc
  subst f0
  go_wp2_with fail
  have oB : Own (w6.alloc (Obj.cells #[.slice pB1 nB1 cB1, .slice pB2 nB2 cB2, .slice pB3 nB3 cB3] 26)) w6.heap.size [.slice pB1 nB1 cB1, .slice pB2 nB2 cB2, .slice pB3 nB3 cB3] 26 := own_at _ _ rfl
  have ltBT : w.heap.size < w6.heap.size := zT
  have ltBL : w.heap.size + 1 < w6.heap.size := zL
  have ltBX : w.heap.size + 1 + 1 < w6.heap.size := zX
  have ltBY : w.heap.size + 1 + 1 + 1 < w6.heap.size := zY
  have ltBA : w4.heap.size < w6.heap.size := zA
  replace oT := oT.alloc (Obj.cells #[.slice pB1 nB1 cB1, .slice pB2 nB2 cB2, .slice pB3 nB3 cB3] 26)
  replace oL := oL.alloc (Obj.cells #[.slice pB1 nB1 cB1, .slice pB2 nB2 cB2, .slice pB3 nB3 cB3] 26)
  replace oX := oX.alloc (Obj.cells #[.slice pB1 nB1 cB1, .slice pB2 nB2 cB2, .slice pB3 nB3 cB3] 26)
  replace oY := oY.alloc (Obj.cells #[.slice pB1 nB1 cB1, .slice pB2 nB2 cB2, .slice pB3 nB3 cB3] 26)
  replace oA := oA.alloc (Obj.cells #[.slice pB1 nB1 cB1, .slice pB2 nB2 cB2, .slice pB3 nB3 cB3] 26)
  replace SU := Lib.hid (SU.out.below (belowNew w6 (Obj.cells #[.slice pB1 nB1 cB1, .slice pB2 nB2 cB2, .slice pB3 nB3 cB3] 26)))
  replace SG := Lib.hid (SG.out.below (belowNew w6 (Obj.cells #[.slice pB1 nB1 cB1, .slice pB2 nB2 cB2, .slice pB3 nB3 cB3] 26)))
  replace SA := Lib.hid (SA.out.below (belowNew w6 (Obj.cells #[.slice pB1 nB1 cB1, .slice pB2 nB2 cB2, .slice pB3 nB3 cB3] 26)))
  replace AU := Lib.hid (AU.out.below (belowNew w6 (Obj.cells #[.slice pB1 nB1 cB1, .slice pB2 nB2 cB2, .slice pB3 nB3 cB3] 26)))
  replace AG := Lib.hid (AG.out.below (belowNew w6 (Obj.cells #[.slice pB1 nB1 cB1, .slice pB2 nB2 cB2, .slice pB3 nB3 cB3] 26)))
  replace AA := Lib.hid (AA.out.below (belowNew w6 (Obj.cells #[.slice pB1 nB1 cB1, .slice pB2 nB2 cB2, .slice pB3 nB3 cB3] 26)))
  replace BU := Lib.hid (BU.out.below (belowNew w6 (Obj.cells #[.slice pB1 nB1 cB1, .slice pB2 nB2 cB2, .slice pB3 nB3 cB3] 26)))
  replace BG := Lib.hid (BG.out.below (belowNew w6 (Obj.cells #[.slice pB1 nB1 cB1, .slice pB2 nB2 cB2, .slice pB3 nB3 cB3] 26)))
  replace BA := Lib.hid (BA.out.below (belowNew w6 (Obj.cells #[.slice pB1 nB1 cB1, .slice pB2 nB2 cB2, .slice pB3 nB3 cB3] 26)))
  replace bel := bel.alloc bel.size (Obj.cells #[.slice pB1 nB1 cB1, .slice pB2 nB2 cB2, .slice pB3 nB3 cB3] 26)
  clear cT0 cT1 cT2 fT zT cL0 cL1 fL zL cX0 cX1 cX2 cX3 fX zX cY0 cY1 cY2 cY3 cY4 fY zY cA0 cA1 cA2 fA zA
  generalize w6.alloc (Obj.cells #[.slice pB1 nB1 cB1, .slice pB2 nB2 cB2, .slice pB3 nB3 cB3] 26) = w7 at oT oL oX oY oA oB SU SG SA AU AG AA BU BG BA bel ⊢
  obtain ⟨cT0, cT1, cT2, fT, zT⟩ := own3 oT
  obtain ⟨cL0, cL1, fL, zL⟩ := own2 oL
  obtain ⟨cX0, cX1, cX2, cX3, fX, zX⟩ := own4 oX
  obtain ⟨cY0, cY1, cY2, cY3, cY4, fY, zY⟩ := own5 oY
  obtain ⟨cA0, cA1, cA2, fA, zA⟩ := own3 oA
  obtain ⟨cB0, cB1, cB2, fB, zB⟩ := own3 oB
  go_wp2_with fail
  refine (addg_lit _ _ _ (adU x us) gs (una x.s ks) N D _ AU.out AG.out AA.out y (by (rw [adU, length_insL]; have := AL.out.2.2.2; omega)) (by omega) (by (have := una_len x.s ks; omega)) 0 OP.out.1).mono ?_
  rintro e w8 ⟨vP1, vP2, vP3, rfl, z1, z2, z3, hb⟩
  replace oT := oT.below hb
  replace oL := oL.below hb
  replace oX := oX.below hb
  replace oY := oY.below hb
  replace oA := oA.below hb
  replace oB := oB.below hb
  replace SU := Lib.hid (SU.out.below hb)
  replace SG := Lib.hid (SG.out.below hb)
  replace SA := Lib.hid (SA.out.below hb)
  replace AU := Lib.hid (AU.out.below hb)
  replace AG := Lib.hid (AG.out.below hb)
  replace AA := Lib.hid (AA.out.below hb)
  replace BU := Lib.hid (BU.out.below hb)
  replace BG := Lib.hid (BG.out.below hb)
  replace BA := Lib.hid (BA.out.below hb)
  replace bel := belowTo bel hb (by exact bel.size)
  clear hb
  clear cT0 cT1 cT2 fT zT cL0 cL1 fL zL cX0 cX1 cX2 cX3 fX zX cY0 cY1 cY2 cY3 cY4 fY zY cA0 cA1 cA2 fA zA cB0 cB1 cB2 fB zB
  obtain ⟨cT0, cT1, cT2, fT, zT⟩ := own3 oT
  obtain ⟨cL0, cL1, fL, zL⟩ := own2 oL
  obtain ⟨cX0, cX1, cX2, cX3, fX, zX⟩ := own4 oX
  obtain ⟨cY0, cY1, cY2, cY3, cY4, fY, zY⟩ := own5 oY
  obtain ⟨cA0, cA1, cA2, fA, zA⟩ := own3 oA
  obtain ⟨cB0, cB1, cB2, fB, zB⟩ := own3 oB
  have PU := Lib.hid (show SlU w8 vP1 (adU x us) from z1)
  have PG := Lib.hid (show SlG w8 vP2 (adG y gs) from z2)
  have PA := Lib.hid (show SlA w8 vP3 (una y.s (una x.s ks)) from z3)
  clear z1 z2 z3
  obtain ⟨pP1, nP1, cP1, f0⟩ := PU.out.slc
  subst f0
  obtain ⟨pP2, nP2, cP2, f0⟩ := PG.out.slc
  subst f0
  obtain ⟨pP3, nP3, cP3, f0⟩ := PA.out.slc
  subst f0
  go_wp2_with fail
  have oP : Own (w8.alloc (Obj.cells #[.slice pP1 nP1 cP1, .slice pP2 nP2 cP2, .slice pP3 nP3 cP3] 26)) w8.heap.size [.slice pP1 nP1 cP1, .slice pP2 nP2 cP2, .slice pP3 nP3 cP3] 26 := own_at _ _ rfl
  have ltPT : w.heap.size < w8.heap.size := zT
  have ltPL : w.heap.size + 1 < w8.heap.size := zL
  have ltPX : w.heap.size + 1 + 1 < w8.heap.size := zX
  have ltPY : w.heap.size + 1 + 1 + 1 < w8.heap.size := zY
  have ltPA : w4.heap.size < w8.heap.size := zA
  have ltPB : w6.heap.size < w8.heap.size := zB
  replace oT := oT.alloc (Obj.cells #[.slice pP1 nP1 cP1, .slice pP2 nP2 cP2, .slice pP3 nP3 cP3] 26)
  replace oL := oL.alloc (Obj.cells #[.slice pP1 nP1 cP1, .slice pP2 nP2 cP2, .slice pP3 nP3 cP3] 26)
  replace oX := oX.alloc (Obj.cells #[.slice pP1 nP1 cP1, .slice pP2 nP2 cP2, .slice pP3 nP3 cP3] 26)
  replace oY := oY.alloc (Obj.cells #[.slice pP1 nP1 cP1, .slice pP2 nP2 cP2, .slice pP3 nP3 cP3] 26)
  replace oA := oA.alloc (Obj.cells #[.slice pP1 nP1 cP1, .slice pP2 nP2 cP2, .slice pP3 nP3 cP3] 26)
  replace oB := oB.alloc (Obj.cells #[.slice pP1 nP1 cP1, .slice pP2 nP2 cP2, .slice pP3 nP3 cP3] 26)
  replace SU := Lib.hid (SU.out.below (belowNew w8 (Obj.cells #[.slice pP1 nP1 cP1, .slice pP2 nP2 cP2, .slice pP3 nP3 cP3] 26)))
  replace SG := Lib.hid (SG.out.below (belowNew w8 (Obj.cells #[.slice pP1 nP1 cP1, .slice pP2 nP2 cP2, .slice pP3 nP3 cP3] 26)))
  replace SA := Lib.hid (SA.out.below (belowNew w8 (Obj.cells #[.slice pP1 nP1 cP1, .slice pP2 nP2 cP2, .slice pP3 nP3 cP3] 26)))
  replace AU := Lib.hid (AU.out.below (belowNew w8 (Obj.cells #[.slice pP1 nP1 cP1, .slice pP2 nP2 cP2, .slice pP3 nP3 cP3] 26)))
  replace AG := Lib.hid (AG.out.below (belowNew w8 (Obj.cells #[.slice pP1 nP1 cP1, .slice pP2 nP2 cP2, .slice pP3 nP3 cP3] 26)))
  replace AA := Lib.hid (AA.out.below (belowNew w8 (Obj.cells #[.slice pP1 nP1 cP1, .slice pP2 nP2 cP2, .slice pP3 nP3 cP3] 26)))
  replace BU := Lib.hid (BU.out.below (belowNew w8 (Obj.cells #[.slice pP1 nP1 cP1, .slice pP2 nP2 cP2, .slice pP3 nP3 cP3] 26)))
  replace BG := Lib.hid (BG.out.below (belowNew w8 (Obj.cells #[.slice pP1 nP1 cP1, .slice pP2 nP2 cP2, .slice pP3 nP3 cP3] 26)))
  replace BA := Lib.hid (BA.out.below (belowNew w8 (Obj.cells #[.slice pP1 nP1 cP1, .slice pP2 nP2 cP2, .slice pP3 nP3 cP3] 26)))
  replace PU := Lib.hid (PU.out.below (belowNew w8 (Obj.cells #[.slice pP1 nP1 cP1, .slice pP2 nP2 cP2, .slice pP3 nP3 cP3] 26)))
  replace PG := Lib.hid (PG.out.below (belowNew w8 (Obj.cells #[.slice pP1 nP1 cP1, .slice pP2 nP2 cP2, .slice pP3 nP3 cP3] 26)))
  replace PA := Lib.hid (PA.out.below (belowNew w8 (Obj.cells #[.slice pP1 nP1 cP1, .slice pP2 nP2 cP2, .slice pP3 nP3 cP3] 26)))
  replace bel := bel.alloc bel.size (Obj.cells #[.slice pP1 nP1 cP1, .slice pP2 nP2 cP2, .slice pP3 nP3 cP3] 26)
  clear cT0 cT1 cT2 fT zT cL0 cL1 fL zL cX0 cX1 cX2 cX3 fX zX cY0 cY1 cY2 cY3 cY4 fY zY cA0 cA1 cA2 fA zA cB0 cB1 cB2 fB zB
  generalize w8.alloc (Obj.cells #[.slice pP1 nP1 cP1, .slice pP2 nP2 cP2, .slice pP3 nP3 cP3] 26) = w9 at oT oL oX oY oA oB oP SU SG SA AU AG AA BU BG BA PU PG PA bel ⊢
  obtain ⟨cT0, cT1, cT2, fT, zT⟩ := own3 oT
  obtain ⟨cL0, cL1, fL, zL⟩ := own2 oL
  obtain ⟨cX0, cX1, cX2, cX3, fX, zX⟩ := own4 oX
  obtain ⟨cY0, cY1, cY2, cY3, cY4, fY, zY⟩ := own5 oY
  obtain ⟨cA0, cA1, cA2, fA, zA⟩ := own3 oA
  obtain ⟨cB0, cB1, cB2, fB, zB⟩ := own3 oB
  obtain ⟨cP0, cP1, cP2, fP, zP⟩ := own3 oP
  go_wp2_with fail
  refine (addu_lit _ _ _ us (adG y gs) (una y.s ks) N D _ BU.out BG.out BA.out x (by omega) (by (rw [adG, length_insL]; have := AL.out.2.2.2; omega)) (by (have := una_len y.s ks; omega)) 0 OP.out.2.1).mono ?_
  rintro e w10 ⟨vQ1, vQ2, vQ3, rfl, z1, z2, z3, hb⟩
  replace oT := oT.below hb
  replace oL := oL.below hb
  replace oX := oX.below hb
  replace oY := oY.below hb
  replace oA := oA.below hb
  replace oB := oB.below hb
  replace oP := oP.below hb
  replace SU := Lib.hid (SU.out.below hb)
  replace SG := Lib.hid (SG.out.below hb)
  replace SA := Lib.hid (SA.out.below hb)
  replace AU := Lib.hid (AU.out.below hb)
  replace AG := Lib.hid (AG.out.below hb)
  replace AA := Lib.hid (AA.out.below hb)
  replace BU := Lib.hid (BU.out.below hb)
  replace BG := Lib.hid (BG.out.below hb)
  replace BA := Lib.hid (BA.out.below hb)
  replace PU := Lib.hid (PU.out.below hb)
  replace PG := Lib.hid (PG.out.below hb)
  replace PA := Lib.hid (PA.out.below hb)
  replace bel := belowTo bel hb (by exact bel.size)
  clear hb
  clear cT0 cT1 cT2 fT zT cL0 cL1 fL zL cX0 cX1 cX2 cX3 fX zX cY0 cY1 cY2 cY3 cY4 fY zY cA0 cA1 cA2 fA zA cB0 cB1 cB2 fB zB cP0 cP1 cP2 fP zP
  obtain ⟨cT0, cT1, cT2, fT, zT⟩ := own3 oT
  obtain ⟨cL0, cL1, fL, zL⟩ := own2 oL
  obtain ⟨cX0, cX1, cX2, cX3, fX, zX⟩ := own4 oX
  obtain ⟨cY0, cY1, cY2, cY3, cY4, fY, zY⟩ := own5 oY
  obtain ⟨cA0, cA1, cA2, fA, zA⟩ := own3 oA
  obtain ⟨cB0, cB1, cB2, fB, zB⟩ := own3 oB
  obtain ⟨cP0, cP1, cP2, fP, zP⟩ := own3 oP
  have QU := Lib.hid (show SlU w10 vQ1 (adU x us) from z1)
  have QG := Lib.hid (show SlG w10 vQ2 (adG y gs) from z2)
  have QA := Lib.hid (show SlA w10 vQ3 (una x.s (una y.s ks)) from z3)
  clear z1 z2 z3
  obtain ⟨pQ1, nQ1, cQ1, f0⟩ := QU.out.slc
  subst f0
  obtain ⟨pQ2, nQ2, cQ2, f0⟩ := QG.out.slc
  subst f0
  obtain ⟨pQ3, nQ3, cQ3, f0⟩ := QA.out.slc
  subst f0
  go_wp2_with fail
  have oQ : Own (w10.alloc (Obj.cells #[.slice pQ1 nQ1 cQ1, .slice pQ2 nQ2 cQ2, .slice pQ3 nQ3 cQ3] 26)) w10.heap.size [.slice pQ1 nQ1 cQ1, .slice pQ2 nQ2 cQ2, .slice pQ3 nQ3 cQ3] 26 := own_at _ _ rfl
  have ltQT : w.heap.size < w10.heap.size := zT
  have ltQL : w.heap.size + 1 < w10.heap.size := zL
  have ltQX : w.heap.size + 1 + 1 < w10.heap.size := zX
  have ltQY : w.heap.size + 1 + 1 + 1 < w10.heap.size := zY
  have ltQA : w4.heap.size < w10.heap.size := zA
  have ltQB : w6.heap.size < w10.heap.size := zB
  have ltQP : w8.heap.size < w10.heap.size := zP
  replace oT := oT.alloc (Obj.cells #[.slice pQ1 nQ1 cQ1, .slice pQ2 nQ2 cQ2, .slice pQ3 nQ3 cQ3] 26)
  replace oL := oL.alloc (Obj.cells #[.slice pQ1 nQ1 cQ1, .slice pQ2 nQ2 cQ2, .slice pQ3 nQ3 cQ3] 26)
  replace oX := oX.alloc (Obj.cells #[.slice pQ1 nQ1 cQ1, .slice pQ2 nQ2 cQ2, .slice pQ3 nQ3 cQ3] 26)
  replace oY := oY.alloc (Obj.cells #[.slice pQ1 nQ1 cQ1, .slice pQ2 nQ2 cQ2, .slice pQ3 nQ3 cQ3] 26)
  replace oA := oA.alloc (Obj.cells #[.slice pQ1 nQ1 cQ1, .slice pQ2 nQ2 cQ2, .slice pQ3 nQ3 cQ3] 26)
  replace oB := oB.alloc (Obj.cells #[.slice pQ1 nQ1 cQ1, .slice pQ2 nQ2 cQ2, .slice pQ3 nQ3 cQ3] 26)
  replace oP := oP.alloc (Obj.cells #[.slice pQ1 nQ1 cQ1, .slice pQ2 nQ2 cQ2, .slice pQ3 nQ3 cQ3] 26)
  replace SU := Lib.hid (SU.out.below (belowNew w10 (Obj.cells #[.slice pQ1 nQ1 cQ1, .slice pQ2 nQ2 cQ2, .slice pQ3 nQ3 cQ3] 26)))
  replace SG := Lib.hid (SG.out.below (belowNew w10 (Obj.cells #[.slice pQ1 nQ1 cQ1, .slice pQ2 nQ2 cQ2, .slice pQ3 nQ3 cQ3] 26)))
  replace SA := Lib.hid (SA.out.below (belowNew w10 (Obj.cells #[.slice pQ1 nQ1 cQ1, .slice pQ2 nQ2 cQ2, .slice pQ3 nQ3 cQ3] 26)))
  replace AU := Lib.hid (AU.out.below (belowNew w10 (Obj.cells #[.slice pQ1 nQ1 cQ1, .slice pQ2 nQ2 cQ2, .slice pQ3 nQ3 cQ3] 26)))
  replace AG := Lib.hid (AG.out.below (belowNew w10 (Obj.cells #[.slice pQ1 nQ1 cQ1, .slice pQ2 nQ2 cQ2, .slice pQ3 nQ3 cQ3] 26)))
  replace AA := Lib.hid (AA.out.below (belowNew w10 (Obj.cells #[.slice pQ1 nQ1 cQ1, .slice pQ2 nQ2 cQ2, .slice pQ3 nQ3 cQ3] 26)))
  replace BU := Lib.hid (BU.out.below (belowNew w10 (Obj.cells #[.slice pQ1 nQ1 cQ1, .slice pQ2 nQ2 cQ2, .slice pQ3 nQ3 cQ3] 26)))
  replace BG := Lib.hid (BG.out.below (belowNew w10 (Obj.cells #[.slice pQ1 nQ1 cQ1, .slice pQ2 nQ2 cQ2, .slice pQ3 nQ3 cQ3] 26)))
  replace BA := Lib.hid (BA.out.below (belowNew w10 (Obj.cells #[.slice pQ1 nQ1 cQ1, .slice pQ2 nQ2 cQ2, .slice pQ3 nQ3 cQ3] 26)))
  replace PU := Lib.hid (PU.out.below (belowNew w10 (Obj.cells #[.slice pQ1 nQ1 cQ1, .slice pQ2 nQ2 cQ2, .slice pQ3 nQ3 cQ3] 26)))
  replace PG := Lib.hid (PG.out.below (belowNew w10 (Obj.cells #[.slice pQ1 nQ1 cQ1, .slice pQ2 nQ2 cQ2, .slice pQ3 nQ3 cQ3] 26)))
  replace PA := Lib.hid (PA.out.below (belowNew w10 (Obj.cells #[.slice pQ1 nQ1 cQ1, .slice pQ2 nQ2 cQ2, .slice pQ3 nQ3 cQ3] 26)))
  replace QU := Lib.hid (QU.out.below (belowNew w10 (Obj.cells #[.slice pQ1 nQ1 cQ1, .slice pQ2 nQ2 cQ2, .slice pQ3 nQ3 cQ3] 26)))
  replace QG := Lib.hid (QG.out.below (belowNew w10 (Obj.cells #[.slice pQ1 nQ1 cQ1, .slice pQ2 nQ2 cQ2, .slice pQ3 nQ3 cQ3] 26)))
  replace QA := Lib.hid (QA.out.below (belowNew w10 (Obj.cells #[.slice pQ1 nQ1 cQ1, .slice pQ2 nQ2 cQ2, .slice pQ3 nQ3 cQ3] 26)))
  replace bel := bel.alloc bel.size (Obj.cells #[.slice pQ1 nQ1 cQ1, .slice pQ2 nQ2 cQ2, .slice pQ3 nQ3 cQ3] 26)
  clear cT0 cT1 cT2 fT zT cL0 cL1 fL zL cX0 cX1 cX2 cX3 fX zX cY0 cY1 cY2 cY3 cY4 fY zY cA0 cA1 cA2 fA zA cB0 cB1 cB2 fB zB cP0 cP1 cP2 fP zP
  generalize w10.alloc (Obj.cells #[.slice pQ1 nQ1 cQ1, .slice pQ2 nQ2 cQ2, .slice pQ3 nQ3 cQ3] 26) = w11 at oT oL oX oY oA oB oP oQ SU SG SA AU AG AA BU BG BA PU PG PA QU QG QA bel ⊢
  obtain ⟨cT0, cT1, cT2, fT, zT⟩ := own3 oT
  obtain ⟨cL0, cL1, fL, zL⟩ := own2 oL
  obtain ⟨cX0, cX1, cX2, cX3, fX, zX⟩ := own4 oX
  obtain ⟨cY0, cY1, cY2, cY3, cY4, fY, zY⟩ := own5 oY
  obtain ⟨cA0, cA1, cA2, fA, zA⟩ := own3 oA
  obtain ⟨cB0, cB1, cB2, fB, zB⟩ := own3 oB
  obtain ⟨cP0, cP1, cP2, fP, zP⟩ := own3 oP
  obtain ⟨cQ0, cQ1, cQ2, fQ, zQ⟩ := own3 oQ
  go_wp2_with fail
  refine (same_lit _ _ _ _ _ _ (adU x us) (adU x us) (adG y gs) (adG y gs) (una y.s (una x.s ks)) (una x.s (una y.s ks)) _ PU.out PG.out PA.out QU.out QG.out QA.out (by rw [adU, length_insL]; have := AL.out.2.2.2; omega) (by rw [adG, length_insL]; have := AL.out.2.2.2; omega) (by have := una_len y.s (una x.s ks); have := una_len x.s ks; omega) true (samT_iff.2 ⟨rfl, rfl, OP.out.2.2⟩)).mono ?_
  rintro e w12 ⟨rfl, hb⟩
  replace oT := oT.below hb
  replace oL := oL.below hb
  replace oX := oX.below hb
  replace oY := oY.below hb
  replace oA := oA.below hb
  replace oB := oB.below hb
  replace oP := oP.below hb
  replace oQ := oQ.below hb
  replace SU := Lib.hid (SU.out.below hb)
  replace SG := Lib.hid (SG.out.below hb)
  replace SA := Lib.hid (SA.out.below hb)
  replace AU := Lib.hid (AU.out.below hb)
  replace AG := Lib.hid (AG.out.below hb)
  replace AA := Lib.hid (AA.out.below hb)
  replace BU := Lib.hid (BU.out.below hb)
  replace BG := Lib.hid (BG.out.below hb)
  replace BA := Lib.hid (BA.out.below hb)
  replace PU := Lib.hid (PU.out.below hb)
  replace PG := Lib.hid (PG.out.below hb)
  replace PA := Lib.hid (PA.out.below hb)
  replace QU := Lib.hid (QU.out.below hb)
  replace QG := Lib.hid (QG.out.below hb)
  replace QA := Lib.hid (QA.out.below hb)
  replace bel := belowTo bel hb (by exact bel.size)
  clear hb
  clear cT0 cT1 cT2 fT zT cL0 cL1 fL zL cX0 cX1 cX2 cX3 fX zX cY0 cY1 cY2 cY3 cY4 fY zY cA0 cA1 cA2 fA zA cB0 cB1 cB2 fB zB cP0 cP1 cP2 fP zP cQ0 cQ1 cQ2 fQ zQ
  obtain ⟨cT0, cT1, cT2, fT, zT⟩ := own3 oT
  obtain ⟨cL0, cL1, fL, zL⟩ := own2 oL
  obtain ⟨cX0, cX1, cX2, cX3, fX, zX⟩ := own4 oX
  obtain ⟨cY0, cY1, cY2, cY3, cY4, fY, zY⟩ := own5 oY
  obtain ⟨cA0, cA1, cA2, fA, zA⟩ := own3 oA
  obtain ⟨cB0, cB1, cB2, fB, zB⟩ := own3 oB
  obtain ⟨cP0, cP1, cP2, fP, zP⟩ := own3 oP
  obtain ⟨cQ0, cQ1, cQ2, fQ, zQ⟩ := own3 oQ
  go_wp2_with fail
  go_ret
  exact ⟨rfl, bel⟩

theorem cellsOrder_walk (vu vg va : Value) (us : List Us) (gs : List Gr) (ks : List Ak) (N D : Int) (s o p m : Int) (s2 o2 p2 m2 u2 : Int) (w : World) (su : SlU w vu us) (sg : SlG w vg gs) (sa : SlA w va ks) {q1 q2 q3 q4 q5 q6 q7 q8 q9 q10 q11 : Prop} (_ : q1) (_ : q2) (_ : q3) (_ : q4) (_ : q5) (_ : q6) (_ : q7) (_ : q8) (_ : q9) (_ : q10) (_ : q11) : Calls Try.prog 6 #[.agg #[vu, vg, va], .agg #[.int .i64 N, .int .i64 D], .agg #[.int .i64 s, .int .i64 o, .int .i64 p, .int .i64 m], .agg #[.int .i64 s2, .int .i64 o2, .int .i64 p2, .int .i64 m2, .int .i64 u2]] w fun e w' => e = .returned (.bool true) ∧ Below w.heap.size w w' := by
  cases hf : fewB us gs ks with
  | false => exact order_few vu vg va us gs ks N D ⟨s, o, p, m⟩ ⟨s2, o2, p2, m2, u2⟩ w su sg sa hf
  | true =>
    cases hv : vldT N D us gs ks with
    | false => exact order_bad vu vg va us gs ks N D ⟨s, o, p, m⟩ ⟨s2, o2, p2, m2, u2⟩ w su sg sa hf hv
    | true =>
      cases hs : (s == s2) with
      | true => exact order_same vu vg va us gs ks N D ⟨s, o, p, m⟩ ⟨s2, o2, p2, m2, u2⟩ w su sg sa hf hv hs
      | false =>
        cases hl : decide (24 < (us.length : Int) + (gs.length : Int) + 2) with
        | true => exact order_long vu vg va us gs ks N D ⟨s, o, p, m⟩ ⟨s2, o2, p2, m2, u2⟩ w su sg sa hf hv hs hl
        | false =>
          by_cases he : auE N D us gs ks ⟨s, o, p, m⟩ = 0
          · by_cases hg : agE N D us gs ks ⟨s2, o2, p2, m2, u2⟩ = 0
            · exact order_go vu vg va us gs ks N D ⟨s, o, p, m⟩ ⟨s2, o2, p2, m2, u2⟩ w su sg sa hf hv hs hl he hg
            · exact order_f vu vg va us gs ks N D ⟨s, o, p, m⟩ ⟨s2, o2, p2, m2, u2⟩ w su sg sa hf hv hs hl _ he rfl hg
          · exact order_e vu vg va us gs ks N D ⟨s, o, p, m⟩ ⟨s2, o2, p2, m2, u2⟩ w su sg sa hf hv hs hl _ _ rfl rfl he

end Go.Proofs.Ytdmadnoijhmbcaa

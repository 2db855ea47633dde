/- The walk of CellsMatchesReference. -/
import Derived.Test.YtdmadnoijhmbcaaHead12
import Derived.Test.YtdmadnoijhmbcaaRVld12
import Derived.Test.YtdmadnoijhmbcaaLaw12p
import Derived.Test.YtdmadnoijhmbcaaOpen12
import Derived.Test.YtdmadnoijhmbcaaRAdd12
import Derived.Test.YtdmadnoijhmbcaaRDrp12
namespace Go.Proofs.Ytdmadnoijhmbcaa
open Go.RowKit

theorem auU_len (us : List Us) (x : Us) (E : Int) : (auU us x E).length ≤ us.length + 1 := by
  unfold auU; split
  · rw [adU, length_insL]; exact Nat.le_refl _
  · simp
theorem auG_len (gs : List Gr) (E : Int) : (auG gs E).length ≤ gs.length := by unfold auG; split <;> simp
theorem agU_len (us : List Us) (E : Int) : (agU us E).length ≤ us.length := by unfold agU; split <;> simp
theorem agG_len (gs : List Gr) (x : Gr) (E : Int) : (agG gs x E).length ≤ gs.length + 1 := by
  unfold agG; split
  · rw [adG, length_insL]; exact Nat.le_refl _
  · simp
theorem adA_len (ks : List Ak) (s E : Int) : (adA ks s E).length ≤ ks.length := by
  unfold adA; split
  · exact una_len _ _
  · simp

set_option linter.unusedSimpArgs false in
set_option linter.unusedVariables false in
set_option maxRecDepth 100000 in
set_option maxHeartbeats 6000000 in
theorem matches_few (vu vg va : Value) (us : List Us) (gs : List Gr) (ks : List Ak) (N D : Int) (x : Us) (y : Gr) (zs zo n : Int) (w : World) (su : SlU w vu us) (sg : SlG w vg gs) (sa : SlA w va ks) (hf : fewB us gs ks = false) : Calls Try.prog 3 #[.agg #[vu, vg, va], .agg #[.int .i64 N, .int .i64 D], .agg #[.int .i64 x.s, .int .i64 x.o, .int .i64 x.p, .int .i64 x.m], .agg #[.int .i64 y.s, .int .i64 y.o, .int .i64 y.p, .int .i64 y.m, .int .i64 y.u], .agg #[.int .i64 zs, .int .i64 zo], .int .i64 n] w fun e w' => e = .returned (.bool true) ∧ Below w.heap.size w w' := by
  obtain ⟨pu, cu, e0, hlu, hcu, _⟩ := su.form us.length rfl
  subst e0
  obtain ⟨pg, cg, e0, hlg, hcg, _⟩ := sg.form gs.length rfl
  subst e0
  obtain ⟨pa, ca, e0, hla, hca, _⟩ := sa.form ks.length rfl
  subst e0
  have SU := Lib.hid su
  have SG := Lib.hid sg
  have SA := Lib.hid sa
  clear su sg sa
  have HF := Lib.hid hf
  clear hf
  go_enter Try.func3, Try.ntmps3
  go_wp2_with fail
  refine (head_true _).mono ?_
  rintro e w1 ⟨rfl, hb⟩
  replace SU := Lib.hid ((((((SU.out.below (belowNew _ _)).below (belowNew _ _)).below (belowNew _ _)).below (belowNew _ _)).below (belowNew _ _)).below hb)
  replace SG := Lib.hid ((((((SG.out.below (belowNew _ _)).below (belowNew _ _)).below (belowNew _ _)).below (belowNew _ _)).below (belowNew _ _)).below hb)
  replace SA := Lib.hid ((((((SA.out.below (belowNew _ _)).below (belowNew _ _)).below (belowNew _ _)).below (belowNew _ _)).below (belowNew _ _)).below hb)
  have oT : Own w1 w.heap.size [.slice pu us.length cu, .slice pg gs.length cg, .slice pa ks.length ca] 26 := (((((own_at _ _ rfl).alloc _).alloc _).alloc _).alloc _).below hb
  have oL : Own w1 (w.heap.size + 1) [.int .i64 N, .int .i64 D] 28 := ((((own_at _ _ (by simp)).alloc _).alloc _).alloc _).below hb
  have oX : Own w1 (w.heap.size + 1 + 1) [.int .i64 x.s, .int .i64 x.o, .int .i64 x.p, .int .i64 x.m] 32 := (((own_at _ _ (by simp)).alloc _).alloc _).below hb
  have oY : Own w1 (w.heap.size + 1 + 1 + 1) [.int .i64 y.s, .int .i64 y.o, .int .i64 y.p, .int .i64 y.m, .int .i64 y.u] 34 := ((own_at _ _ (by simp)).alloc _).below hb
  have oC : Own w1 (w.heap.size + 1 + 1 + 1 + 1) [.int .i64 zs, .int .i64 zo] 30 := (own_at _ _ (by simp)).below hb
  have bel := belowTo ((((((Below.refl w.heap.size w).alloc (by simp) _).alloc (by simp) _).alloc (by simp; omega) _).alloc (by simp; omega) _).alloc (by simp; omega) _) hb (by simp; omega)
  clear hb
  obtain ⟨cT0, cT1, cT2, fT, zT⟩ := own3 oT
  obtain ⟨cL0, cL1, fL, zL⟩ := own2 oL
  obtain ⟨cX0, cX1, cX2, cX3, fX, zX⟩ := own4 oX
  obtain ⟨cY0, cY1, cY2, cY3, cY4, fY, zY⟩ := own5 oY
  obtain ⟨cC0, cC1, fC, zC⟩ := own2 oC
  go_wp2_with fail
  refine (few_lit _ _ _ us gs ks _ SU.out SG.out SA.out false HF.out).mono ?_
  rintro e w2 ⟨rfl, hb⟩
  replace oT := oT.below hb
  replace oL := oL.below hb
  replace oX := oX.below hb
  replace oY := oY.below hb
  replace oC := oC.below hb
  replace SU := Lib.hid (SU.out.below hb)
  replace SG := Lib.hid (SG.out.below hb)
  replace SA := Lib.hid (SA.out.below hb)
  replace bel := belowTo bel hb (by exact bel.size)
  clear hb
  clear cT0 cT1 cT2 fT zT cL0 cL1 fL zL cX0 cX1 cX2 cX3 fX zX cY0 cY1 cY2 cY3 cY4 fY zY cC0 cC1 fC zC
  obtain ⟨cT0, cT1, cT2, fT, zT⟩ := own3 oT
  obtain ⟨cL0, cL1, fL, zL⟩ := own2 oL
  obtain ⟨cX0, cX1, cX2, cX3, fX, zX⟩ := own4 oX
  obtain ⟨cY0, cY1, cY2, cY3, cY4, fY, zY⟩ := own5 oY
  obtain ⟨cC0, cC1, fC, zC⟩ := own2 oC
  go_wp2_with fail
  go_ret
  exact ⟨rfl, bel⟩

set_option linter.unusedSimpArgs false in
set_option linter.unusedVariables false in
set_option maxRecDepth 100000 in
set_option maxHeartbeats 6000000 in
theorem matches_go (vu vg va : Value) (us : List Us) (gs : List Gr) (ks : List Ak) (N D : Int) (x : Us) (y : Gr) (zs zo n : Int) (w : World) (su : SlU w vu us) (sg : SlG w vg gs) (sa : SlA w va ks) (hf : fewB us gs ks = true) (E G : Int) (V B : Bool) (he : auE N D us gs ks x = E) (hg : agE N D us gs ks y = G) (hv : vldT N D us gs ks = V) (hb : bsyB n us gs = B) : Calls Try.prog 3 #[.agg #[vu, vg, va], .agg #[.int .i64 N, .int .i64 D], .agg #[.int .i64 x.s, .int .i64 x.o, .int .i64 x.p, .int .i64 x.m], .agg #[.int .i64 y.s, .int .i64 y.o, .int .i64 y.p, .int .i64 y.m, .int .i64 y.u], .agg #[.int .i64 zs, .int .i64 zo], .int .i64 n] w fun e w' => e = .returned (.bool true) ∧ Below w.heap.size w w' := by
  have u70 : us.length ≤ 70 := (fewB_iff.1 hf).1
  have g70 : gs.length ≤ 70 := (fewB_iff.1 hf).2.1
  have k70 : ks.length ≤ 70 := (fewB_iff.1 hf).2.2
  have l1 := auU_len us x E
  have l2 := auG_len gs E
  have l3 := adA_len ks x.s E
  have l4 := agU_len us G
  have l5 := agG_len gs y G
  have l6 := adA_len ks y.s G
  have LN := Lib.hid (show (auU us x E).length ≤ 100 ∧ (auG gs E).length ≤ 100 ∧ (adA ks x.s E).length ≤ 100 ∧ (agU us G).length ≤ 100 ∧ (agG gs y G).length ≤ 100 ∧ (adA ks y.s G).length ≤ 100 from ⟨by omega, by omega, by omega, by omega, by omega, by omega⟩)
  clear l1 l2 l3 l4 l5 l6
  obtain ⟨pu, cu, e0, hlu, hcu, _⟩ := su.form us.length rfl
  subst e0
  obtain ⟨pg, cg, e0, hlg, hcg, _⟩ := sg.form gs.length rfl
  subst e0
  obtain ⟨pa, ca, e0, hla, hca, _⟩ := sa.form ks.length rfl
  subst e0
  have SU := Lib.hid su
  have SG := Lib.hid sg
  have SA := Lib.hid sa
  clear su sg sa
  have iu0 : (0 : Int) ≤ (us.length : Int) := Int.natCast_nonneg _
  have ig0 : (0 : Int) ≤ (gs.length : Int) := Int.natCast_nonneg _
  have ia0 : (0 : Int) ≤ (ks.length : Int) := Int.natCast_nonneg _
  have iu : (us.length : Int) ≤ 70 := by omega
  have ig : (gs.length : Int) ≤ 70 := by omega
  have ia : (ks.length : Int) ≤ 70 := by omega
  have HF := Lib.hid hf
  have HE := Lib.hid he
  have HG := Lib.hid hg
  have HV := Lib.hid hv
  have HB := Lib.hid hb
  clear hf he hg hv hb
  go_enter Try.func3, Try.ntmps3
  go_wp2_with fail
  refine (head_true _).mono ?_
  rintro e w1 ⟨rfl, hb⟩
  replace SU := Lib.hid ((((((SU.out.below (belowNew _ _)).below (belowNew _ _)).below (belowNew _ _)).below (belowNew _ _)).below (belowNew _ _)).below hb)
  replace SG := Lib.hid ((((((SG.out.below (belowNew _ _)).below (belowNew _ _)).below (belowNew _ _)).below (belowNew _ _)).below (belowNew _ _)).below hb)
  replace SA := Lib.hid ((((((SA.out.below (belowNew _ _)).below (belowNew _ _)).below (belowNew _ _)).below (belowNew _ _)).below (belowNew _ _)).below hb)
  have oT : Own w1 w.heap.size [.slice pu us.length cu, .slice pg gs.length cg, .slice pa ks.length ca] 26 := (((((own_at _ _ rfl).alloc _).alloc _).alloc _).alloc _).below hb
  have oL : Own w1 (w.heap.size + 1) [.int .i64 N, .int .i64 D] 28 := ((((own_at _ _ (by simp)).alloc _).alloc _).alloc _).below hb
  have oX : Own w1 (w.heap.size + 1 + 1) [.int .i64 x.s, .int .i64 x.o, .int .i64 x.p, .int .i64 x.m] 32 := (((own_at _ _ (by simp)).alloc _).alloc _).below hb
  have oY : Own w1 (w.heap.size + 1 + 1 + 1) [.int .i64 y.s, .int .i64 y.o, .int .i64 y.p, .int .i64 y.m, .int .i64 y.u] 34 := ((own_at _ _ (by simp)).alloc _).below hb
  have oC : Own w1 (w.heap.size + 1 + 1 + 1 + 1) [.int .i64 zs, .int .i64 zo] 30 := (own_at _ _ (by simp)).below hb
  have bel := belowTo ((((((Below.refl w.heap.size w).alloc (by simp) _).alloc (by simp) _).alloc (by simp; omega) _).alloc (by simp; omega) _).alloc (by simp; omega) _) hb (by simp; omega)
  clear hb
  obtain ⟨cT0, cT1, cT2, fT, zT⟩ := own3 oT
  obtain ⟨cL0, cL1, fL, zL⟩ := own2 oL
  obtain ⟨cX0, cX1, cX2, cX3, fX, zX⟩ := own4 oX
  obtain ⟨cY0, cY1, cY2, cY3, cY4, fY, zY⟩ := own5 oY
  obtain ⟨cC0, cC1, fC, zC⟩ := own2 oC
  go_wp2_with fail
  refine (few_lit _ _ _ us gs ks _ SU.out SG.out SA.out true HF.out).mono ?_
  rintro e w2 ⟨rfl, hb⟩
  replace oT := oT.below hb
  replace oL := oL.below hb
  replace oX := oX.below hb
  replace oY := oY.below hb
  replace oC := oC.below hb
  replace SU := Lib.hid (SU.out.below hb)
  replace SG := Lib.hid (SG.out.below hb)
  replace SA := Lib.hid (SA.out.below hb)
  replace bel := belowTo bel hb (by exact bel.size)
  clear hb
  clear cT0 cT1 cT2 fT zT cL0 cL1 fL zL cX0 cX1 cX2 cX3 fX zX cY0 cY1 cY2 cY3 cY4 fY zY cC0 cC1 fC zC
  obtain ⟨cT0, cT1, cT2, fT, zT⟩ := own3 oT
  obtain ⟨cL0, cL1, fL, zL⟩ := own2 oL
  obtain ⟨cX0, cX1, cX2, cX3, fX, zX⟩ := own4 oX
  obtain ⟨cY0, cY1, cY2, cY3, cY4, fY, zY⟩ := own5 oY
  obtain ⟨cC0, cC1, fC, zC⟩ := own2 oC
  go_wp2_with fail
  refine (addu_lit _ _ _ us gs ks N D _ SU.out SG.out SA.out x (by omega) (by omega) (by omega) E HE.out).mono ?_
  rintro e w3 ⟨vA1, vA2, vA3, rfl, z1, z2, z3, hb⟩
  replace oT := oT.below hb
  replace oL := oL.below hb
  replace oX := oX.below hb
  replace oY := oY.below hb
  replace oC := oC.below hb
  replace SU := Lib.hid (SU.out.below hb)
  replace SG := Lib.hid (SG.out.below hb)
  replace SA := Lib.hid (SA.out.below hb)
  replace bel := belowTo bel hb (by exact bel.size)
  clear hb
  clear cT0 cT1 cT2 fT zT cL0 cL1 fL zL cX0 cX1 cX2 cX3 fX zX cY0 cY1 cY2 cY3 cY4 fY zY cC0 cC1 fC zC
  obtain ⟨cT0, cT1, cT2, fT, zT⟩ := own3 oT
  obtain ⟨cL0, cL1, fL, zL⟩ := own2 oL
  obtain ⟨cX0, cX1, cX2, cX3, fX, zX⟩ := own4 oX
  obtain ⟨cY0, cY1, cY2, cY3, cY4, fY, zY⟩ := own5 oY
  obtain ⟨cC0, cC1, fC, zC⟩ := own2 oC
  have AU := Lib.hid (show SlU w3 vA1 (auU us x E) from z1)
  have AG := Lib.hid (show SlG w3 vA2 (auG gs E) from z2)
  have AA := Lib.hid (show SlA w3 vA3 (adA ks x.s E) from z3)
  clear z1 z2 z3
  obtain ⟨pA1, nA1, cA1, f0⟩ := AU.out.slc
  subst f0
  obtain ⟨pA2, nA2, cA2, f0⟩ := AG.out.slc
  subst f0
  obtain ⟨pA3, nA3, cA3, f0⟩ := AA.out.slc
  subst f0
  go_wp2_with fail
  have oA : Own (w3.alloc (Obj.cells #[.slice pA1 nA1 cA1, .slice pA2 nA2 cA2, .slice pA3 nA3 cA3] 26)) w3.heap.size [.slice pA1 nA1 cA1, .slice pA2 nA2 cA2, .slice pA3 nA3 cA3] 26 := own_at _ _ rfl
  have ltAT : w.heap.size < w3.heap.size := zT
  have ltAL : w.heap.size + 1 < w3.heap.size := zL
  have ltAX : w.heap.size + 1 + 1 < w3.heap.size := zX
  have ltAY : w.heap.size + 1 + 1 + 1 < w3.heap.size := zY
  have ltAC : w.heap.size + 1 + 1 + 1 + 1 < w3.heap.size := zC
  replace oT := oT.alloc (Obj.cells #[.slice pA1 nA1 cA1, .slice pA2 nA2 cA2, .slice pA3 nA3 cA3] 26)
  replace oL := oL.alloc (Obj.cells #[.slice pA1 nA1 cA1, .slice pA2 nA2 cA2, .slice pA3 nA3 cA3] 26)
  replace oX := oX.alloc (Obj.cells #[.slice pA1 nA1 cA1, .slice pA2 nA2 cA2, .slice pA3 nA3 cA3] 26)
  replace oY := oY.alloc (Obj.cells #[.slice pA1 nA1 cA1, .slice pA2 nA2 cA2, .slice pA3 nA3 cA3] 26)
  replace oC := oC.alloc (Obj.cells #[.slice pA1 nA1 cA1, .slice pA2 nA2 cA2, .slice pA3 nA3 cA3] 26)
  replace SU := Lib.hid (SU.out.below (belowNew w3 (Obj.cells #[.slice pA1 nA1 cA1, .slice pA2 nA2 cA2, .slice pA3 nA3 cA3] 26)))
  replace SG := Lib.hid (SG.out.below (belowNew w3 (Obj.cells #[.slice pA1 nA1 cA1, .slice pA2 nA2 cA2, .slice pA3 nA3 cA3] 26)))
  replace SA := Lib.hid (SA.out.below (belowNew w3 (Obj.cells #[.slice pA1 nA1 cA1, .slice pA2 nA2 cA2, .slice pA3 nA3 cA3] 26)))
  replace AU := Lib.hid (AU.out.below (belowNew w3 (Obj.cells #[.slice pA1 nA1 cA1, .slice pA2 nA2 cA2, .slice pA3 nA3 cA3] 26)))
  replace AG := Lib.hid (AG.out.below (belowNew w3 (Obj.cells #[.slice pA1 nA1 cA1, .slice pA2 nA2 cA2, .slice pA3 nA3 cA3] 26)))
  replace AA := Lib.hid (AA.out.below (belowNew w3 (Obj.cells #[.slice pA1 nA1 cA1, .slice pA2 nA2 cA2, .slice pA3 nA3 cA3] 26)))
  replace bel := bel.alloc bel.size (Obj.cells #[.slice pA1 nA1 cA1, .slice pA2 nA2 cA2, .slice pA3 nA3 cA3] 26)
  clear cT0 cT1 cT2 fT zT cL0 cL1 fL zL cX0 cX1 cX2 cX3 fX zX cY0 cY1 cY2 cY3 cY4 fY zY cC0 cC1 fC zC
  generalize w3.alloc (Obj.cells #[.slice pA1 nA1 cA1, .slice pA2 nA2 cA2, .slice pA3 nA3 cA3] 26) = w4 at oT oL oX oY oC oA SU SG SA AU AG AA bel ⊢
  obtain ⟨cT0, cT1, cT2, fT, zT⟩ := own3 oT
  obtain ⟨cL0, cL1, fL, zL⟩ := own2 oL
  obtain ⟨cX0, cX1, cX2, cX3, fX, zX⟩ := own4 oX
  obtain ⟨cY0, cY1, cY2, cY3, cY4, fY, zY⟩ := own5 oY
  obtain ⟨cC0, cC1, fC, zC⟩ := own2 oC
  obtain ⟨cA0, cA1, cA2, fA, zA⟩ := own3 oA
  go_wp2_with fail
  refine (raddu_lit _ _ _ us gs ks N D _ SU.out SG.out SA.out x (by omega) (by omega) (by omega) E HE.out).mono ?_
  rintro e w5 ⟨vB1, vB2, vB3, rfl, z1, z2, z3, hb⟩
  replace oT := oT.below hb
  replace oL := oL.below hb
  replace oX := oX.below hb
  replace oY := oY.below hb
  replace oC := oC.below hb
  replace oA := oA.below hb
  replace SU := Lib.hid (SU.out.below hb)
  replace SG := Lib.hid (SG.out.below hb)
  replace SA := Lib.hid (SA.out.below hb)
  replace AU := Lib.hid (AU.out.below hb)
  replace AG := Lib.hid (AG.out.below hb)
  replace AA := Lib.hid (AA.out.below hb)
  replace bel := belowTo bel hb (by exact bel.size)
  clear hb
  clear cT0 cT1 cT2 fT zT cL0 cL1 fL zL cX0 cX1 cX2 cX3 fX zX cY0 cY1 cY2 cY3 cY4 fY zY cC0 cC1 fC zC cA0 cA1 cA2 fA zA
  obtain ⟨cT0, cT1, cT2, fT, zT⟩ := own3 oT
  obtain ⟨cL0, cL1, fL, zL⟩ := own2 oL
  obtain ⟨cX0, cX1, cX2, cX3, fX, zX⟩ := own4 oX
  obtain ⟨cY0, cY1, cY2, cY3, cY4, fY, zY⟩ := own5 oY
  obtain ⟨cC0, cC1, fC, zC⟩ := own2 oC
  obtain ⟨cA0, cA1, cA2, fA, zA⟩ := own3 oA
  have BU := Lib.hid (show SlU w5 vB1 (auU us x E) from z1)
  have BG := Lib.hid (show SlG w5 vB2 (auG gs E) from z2)
  have BA := Lib.hid (show SlA w5 vB3 (adA ks x.s E) from z3)
  clear z1 z2 z3
  obtain ⟨pB1, nB1, cB1, f0⟩ := BU.out.slc
  subst f0
  obtain ⟨pB2, nB2, cB2, f0⟩ := BG.out.slc
  subst f0
  obtain ⟨pB3, nB3, cB3, f0⟩ := BA.out.slc
  subst f0
  go_wp2_with fail
  have oB : Own (w5.alloc (Obj.cells #[.slice pB1 nB1 cB1, .slice pB2 nB2 cB2, .slice pB3 nB3 cB3] 26)) w5.heap.size [.slice pB1 nB1 cB1, .slice pB2 nB2 cB2, .slice pB3 nB3 cB3] 26 := own_at _ _ rfl
  have ltBT : w.heap.size < w5.heap.size := zT
  have ltBL : w.heap.size + 1 < w5.heap.size := zL
  have ltBX : w.heap.size + 1 + 1 < w5.heap.size := zX
  have ltBY : w.heap.size + 1 + 1 + 1 < w5.heap.size := zY
  have ltBC : w.heap.size + 1 + 1 + 1 + 1 < w5.heap.size := zC
  have ltBA : w3.heap.size < w5.heap.size := zA
  replace oT := oT.alloc (Obj.cells #[.slice pB1 nB1 cB1, .slice pB2 nB2 cB2, .slice pB3 nB3 cB3] 26)
  replace oL := oL.alloc (Obj.cells #[.slice pB1 nB1 cB1, .slice pB2 nB2 cB2, .slice pB3 nB3 cB3] 26)
  replace oX := oX.alloc (Obj.cells #[.slice pB1 nB1 cB1, .slice pB2 nB2 cB2, .slice pB3 nB3 cB3] 26)
  replace oY := oY.alloc (Obj.cells #[.slice pB1 nB1 cB1, .slice pB2 nB2 cB2, .slice pB3 nB3 cB3] 26)
  replace oC := oC.alloc (Obj.cells #[.slice pB1 nB1 cB1, .slice pB2 nB2 cB2, .slice pB3 nB3 cB3] 26)
  replace oA := oA.alloc (Obj.cells #[.slice pB1 nB1 cB1, .slice pB2 nB2 cB2, .slice pB3 nB3 cB3] 26)
  replace SU := Lib.hid (SU.out.below (belowNew w5 (Obj.cells #[.slice pB1 nB1 cB1, .slice pB2 nB2 cB2, .slice pB3 nB3 cB3] 26)))
  replace SG := Lib.hid (SG.out.below (belowNew w5 (Obj.cells #[.slice pB1 nB1 cB1, .slice pB2 nB2 cB2, .slice pB3 nB3 cB3] 26)))
  replace SA := Lib.hid (SA.out.below (belowNew w5 (Obj.cells #[.slice pB1 nB1 cB1, .slice pB2 nB2 cB2, .slice pB3 nB3 cB3] 26)))
  replace AU := Lib.hid (AU.out.below (belowNew w5 (Obj.cells #[.slice pB1 nB1 cB1, .slice pB2 nB2 cB2, .slice pB3 nB3 cB3] 26)))
  replace AG := Lib.hid (AG.out.below (belowNew w5 (Obj.cells #[.slice pB1 nB1 cB1, .slice pB2 nB2 cB2, .slice pB3 nB3 cB3] 26)))
  replace AA := Lib.hid (AA.out.below (belowNew w5 (Obj.cells #[.slice pB1 nB1 cB1, .slice pB2 nB2 cB2, .slice pB3 nB3 cB3] 26)))
  replace BU := Lib.hid (BU.out.below (belowNew w5 (Obj.cells #[.slice pB1 nB1 cB1, .slice pB2 nB2 cB2, .slice pB3 nB3 cB3] 26)))
  replace BG := Lib.hid (BG.out.below (belowNew w5 (Obj.cells #[.slice pB1 nB1 cB1, .slice pB2 nB2 cB2, .slice pB3 nB3 cB3] 26)))
  replace BA := Lib.hid (BA.out.below (belowNew w5 (Obj.cells #[.slice pB1 nB1 cB1, .slice pB2 nB2 cB2, .slice pB3 nB3 cB3] 26)))
  replace bel := bel.alloc bel.size (Obj.cells #[.slice pB1 nB1 cB1, .slice pB2 nB2 cB2, .slice pB3 nB3 cB3] 26)
  clear cT0 cT1 cT2 fT zT cL0 cL1 fL zL cX0 cX1 cX2 cX3 fX zX cY0 cY1 cY2 cY3 cY4 fY zY cC0 cC1 fC zC cA0 cA1 cA2 fA zA
  generalize w5.alloc (Obj.cells #[.slice pB1 nB1 cB1, .slice pB2 nB2 cB2, .slice pB3 nB3 cB3] 26) = w6 at oT oL oX oY oC oA oB SU SG SA AU AG AA BU BG BA bel ⊢
  obtain ⟨cT0, cT1, cT2, fT, zT⟩ := own3 oT
  obtain ⟨cL0, cL1, fL, zL⟩ := own2 oL
  obtain ⟨cX0, cX1, cX2, cX3, fX, zX⟩ := own4 oX
  obtain ⟨cY0, cY1, cY2, cY3, cY4, fY, zY⟩ := own5 oY
  obtain ⟨cC0, cC1, fC, zC⟩ := own2 oC
  obtain ⟨cA0, cA1, cA2, fA, zA⟩ := own3 oA
  obtain ⟨cB0, cB1, cB2, fB, zB⟩ := own3 oB
  go_wp2_with fail
  refine (addg_lit _ _ _ us gs ks N D _ SU.out SG.out SA.out y (by omega) (by omega) (by omega) G HG.out).mono ?_
  rintro e w7 ⟨vP1, vP2, vP3, rfl, z1, z2, z3, hb⟩
  replace oT := oT.below hb
  replace oL := oL.below hb
  replace oX := oX.below hb
  replace oY := oY.below hb
  replace oC := oC.below hb
  replace oA := oA.below hb
  replace oB := oB.below hb
  replace SU := Lib.hid (SU.out.below hb)
  replace SG := Lib.hid (SG.out.below hb)
  replace SA := Lib.hid (SA.out.below hb)
  replace AU := Lib.hid (AU.out.below hb)
  replace AG := Lib.hid (AG.out.below hb)
  replace AA := Lib.hid (AA.out.below hb)
  replace BU := Lib.hid (BU.out.below hb)
  replace BG := Lib.hid (BG.out.below hb)
  replace BA := Lib.hid (BA.out.below hb)
  replace bel := belowTo bel hb (by exact bel.size)
  clear hb
  clear cT0 cT1 cT2 fT zT cL0 cL1 fL zL cX0 cX1 cX2 cX3 fX zX cY0 cY1 cY2 cY3 cY4 fY zY cC0 cC1 fC zC cA0 cA1 cA2 fA zA cB0 cB1 cB2 fB zB
  obtain ⟨cT0, cT1, cT2, fT, zT⟩ := own3 oT
  obtain ⟨cL0, cL1, fL, zL⟩ := own2 oL
  obtain ⟨cX0, cX1, cX2, cX3, fX, zX⟩ := own4 oX
  obtain ⟨cY0, cY1, cY2, cY3, cY4, fY, zY⟩ := own5 oY
  obtain ⟨cC0, cC1, fC, zC⟩ := own2 oC
  obtain ⟨cA0, cA1, cA2, fA, zA⟩ := own3 oA
  obtain ⟨cB0, cB1, cB2, fB, zB⟩ := own3 oB
  have PU := Lib.hid (show SlU w7 vP1 (agU us G) from z1)
  have PG := Lib.hid (show SlG w7 vP2 (agG gs y G) from z2)
  have PA := Lib.hid (show SlA w7 vP3 (adA ks y.s G) from z3)
  clear z1 z2 z3
  obtain ⟨pP1, nP1, cP1, f0⟩ := PU.out.slc
  subst f0
  obtain ⟨pP2, nP2, cP2, f0⟩ := PG.out.slc
  subst f0
  obtain ⟨pP3, nP3, cP3, f0⟩ := PA.out.slc
  subst f0
  go_wp2_with fail
  have oP : Own (w7.alloc (Obj.cells #[.slice pP1 nP1 cP1, .slice pP2 nP2 cP2, .slice pP3 nP3 cP3] 26)) w7.heap.size [.slice pP1 nP1 cP1, .slice pP2 nP2 cP2, .slice pP3 nP3 cP3] 26 := own_at _ _ rfl
  have ltPT : w.heap.size < w7.heap.size := zT
  have ltPL : w.heap.size + 1 < w7.heap.size := zL
  have ltPX : w.heap.size + 1 + 1 < w7.heap.size := zX
  have ltPY : w.heap.size + 1 + 1 + 1 < w7.heap.size := zY
  have ltPC : w.heap.size + 1 + 1 + 1 + 1 < w7.heap.size := zC
  have ltPA : w3.heap.size < w7.heap.size := zA
  have ltPB : w5.heap.size < w7.heap.size := zB
  replace oT := oT.alloc (Obj.cells #[.slice pP1 nP1 cP1, .slice pP2 nP2 cP2, .slice pP3 nP3 cP3] 26)
  replace oL := oL.alloc (Obj.cells #[.slice pP1 nP1 cP1, .slice pP2 nP2 cP2, .slice pP3 nP3 cP3] 26)
  replace oX := oX.alloc (Obj.cells #[.slice pP1 nP1 cP1, .slice pP2 nP2 cP2, .slice pP3 nP3 cP3] 26)
  replace oY := oY.alloc (Obj.cells #[.slice pP1 nP1 cP1, .slice pP2 nP2 cP2, .slice pP3 nP3 cP3] 26)
  replace oC := oC.alloc (Obj.cells #[.slice pP1 nP1 cP1, .slice pP2 nP2 cP2, .slice pP3 nP3 cP3] 26)
  replace oA := oA.alloc (Obj.cells #[.slice pP1 nP1 cP1, .slice pP2 nP2 cP2, .slice pP3 nP3 cP3] 26)
  replace oB := oB.alloc (Obj.cells #[.slice pP1 nP1 cP1, .slice pP2 nP2 cP2, .slice pP3 nP3 cP3] 26)
  replace SU := Lib.hid (SU.out.below (belowNew w7 (Obj.cells #[.slice pP1 nP1 cP1, .slice pP2 nP2 cP2, .slice pP3 nP3 cP3] 26)))
  replace SG := Lib.hid (SG.out.below (belowNew w7 (Obj.cells #[.slice pP1 nP1 cP1, .slice pP2 nP2 cP2, .slice pP3 nP3 cP3] 26)))
  replace SA := Lib.hid (SA.out.below (belowNew w7 (Obj.cells #[.slice pP1 nP1 cP1, .slice pP2 nP2 cP2, .slice pP3 nP3 cP3] 26)))
  replace AU := Lib.hid (AU.out.below (belowNew w7 (Obj.cells #[.slice pP1 nP1 cP1, .slice pP2 nP2 cP2, .slice pP3 nP3 cP3] 26)))
  replace AG := Lib.hid (AG.out.below (belowNew w7 (Obj.cells #[.slice pP1 nP1 cP1, .slice pP2 nP2 cP2, .slice pP3 nP3 cP3] 26)))
  replace AA := Lib.hid (AA.out.below (belowNew w7 (Obj.cells #[.slice pP1 nP1 cP1, .slice pP2 nP2 cP2, .slice pP3 nP3 cP3] 26)))
  replace BU := Lib.hid (BU.out.below (belowNew w7 (Obj.cells #[.slice pP1 nP1 cP1, .slice pP2 nP2 cP2, .slice pP3 nP3 cP3] 26)))
  replace BG := Lib.hid (BG.out.below (belowNew w7 (Obj.cells #[.slice pP1 nP1 cP1, .slice pP2 nP2 cP2, .slice pP3 nP3 cP3] 26)))
  replace BA := Lib.hid (BA.out.below (belowNew w7 (Obj.cells #[.slice pP1 nP1 cP1, .slice pP2 nP2 cP2, .slice pP3 nP3 cP3] 26)))
  replace PU := Lib.hid (PU.out.below (belowNew w7 (Obj.cells #[.slice pP1 nP1 cP1, .slice pP2 nP2 cP2, .slice pP3 nP3 cP3] 26)))
  replace PG := Lib.hid (PG.out.below (belowNew w7 (Obj.cells #[.slice pP1 nP1 cP1, .slice pP2 nP2 cP2, .slice pP3 nP3 cP3] 26)))
  replace PA := Lib.hid (PA.out.below (belowNew w7 (Obj.cells #[.slice pP1 nP1 cP1, .slice pP2 nP2 cP2, .slice pP3 nP3 cP3] 26)))
  replace bel := bel.alloc bel.size (Obj.cells #[.slice pP1 nP1 cP1, .slice pP2 nP2 cP2, .slice pP3 nP3 cP3] 26)
  clear cT0 cT1 cT2 fT zT cL0 cL1 fL zL cX0 cX1 cX2 cX3 fX zX cY0 cY1 cY2 cY3 cY4 fY zY cC0 cC1 fC zC cA0 cA1 cA2 fA zA cB0 cB1 cB2 fB zB
  generalize w7.alloc (Obj.cells #[.slice pP1 nP1 cP1, .slice pP2 nP2 cP2, .slice pP3 nP3 cP3] 26) = w8 at oT oL oX oY oC oA oB oP SU SG SA AU AG AA BU BG BA PU PG PA bel ⊢
  obtain ⟨cT0, cT1, cT2, fT, zT⟩ := own3 oT
  obtain ⟨cL0, cL1, fL, zL⟩ := own2 oL
  obtain ⟨cX0, cX1, cX2, cX3, fX, zX⟩ := own4 oX
  obtain ⟨cY0, cY1, cY2, cY3, cY4, fY, zY⟩ := own5 oY
  obtain ⟨cC0, cC1, fC, zC⟩ := own2 oC
  obtain ⟨cA0, cA1, cA2, fA, zA⟩ := own3 oA
  obtain ⟨cB0, cB1, cB2, fB, zB⟩ := own3 oB
  obtain ⟨cP0, cP1, cP2, fP, zP⟩ := own3 oP
  go_wp2_with fail
  refine (raddg_lit _ _ _ us gs ks N D _ SU.out SG.out SA.out y (by omega) (by omega) (by omega) G HG.out).mono ?_
  rintro e w9 ⟨vQ1, vQ2, vQ3, rfl, z1, z2, z3, hb⟩
  replace oT := oT.below hb
  replace oL := oL.below hb
  replace oX := oX.below hb
  replace oY := oY.below hb
  replace oC := oC.below hb
  replace oA := oA.below hb
  replace oB := oB.below hb
  replace oP := oP.below hb
  replace SU := Lib.hid (SU.out.below hb)
  replace SG := Lib.hid (SG.out.below hb)
  replace SA := Lib.hid (SA.out.below hb)
  replace AU := Lib.hid (AU.out.below hb)
  replace AG := Lib.hid (AG.out.below hb)
  replace AA := Lib.hid (AA.out.below hb)
  replace BU := Lib.hid (BU.out.below hb)
  replace BG := Lib.hid (BG.out.below hb)
  replace BA := Lib.hid (BA.out.below hb)
  replace PU := Lib.hid (PU.out.below hb)
  replace PG := Lib.hid (PG.out.below hb)
  replace PA := Lib.hid (PA.out.below hb)
  replace bel := belowTo bel hb (by exact bel.size)
  clear hb
  clear cT0 cT1 cT2 fT zT cL0 cL1 fL zL cX0 cX1 cX2 cX3 fX zX cY0 cY1 cY2 cY3 cY4 fY zY cC0 cC1 fC zC cA0 cA1 cA2 fA zA cB0 cB1 cB2 fB zB cP0 cP1 cP2 fP zP
  obtain ⟨cT0, cT1, cT2, fT, zT⟩ := own3 oT
  obtain ⟨cL0, cL1, fL, zL⟩ := own2 oL
  obtain ⟨cX0, cX1, cX2, cX3, fX, zX⟩ := own4 oX
  obtain ⟨cY0, cY1, cY2, cY3, cY4, fY, zY⟩ := own5 oY
  obtain ⟨cC0, cC1, fC, zC⟩ := own2 oC
  obtain ⟨cA0, cA1, cA2, fA, zA⟩ := own3 oA
  obtain ⟨cB0, cB1, cB2, fB, zB⟩ := own3 oB
  obtain ⟨cP0, cP1, cP2, fP, zP⟩ := own3 oP
  have QU := Lib.hid (show SlU w9 vQ1 (agU us G) from z1)
  have QG := Lib.hid (show SlG w9 vQ2 (agG gs y G) from z2)
  have QA := Lib.hid (show SlA w9 vQ3 (adA ks y.s G) from z3)
  clear z1 z2 z3
  obtain ⟨pQ1, nQ1, cQ1, f0⟩ := QU.out.slc
  subst f0
  obtain ⟨pQ2, nQ2, cQ2, f0⟩ := QG.out.slc
  subst f0
  obtain ⟨pQ3, nQ3, cQ3, f0⟩ := QA.out.slc
  subst f0
  go_wp2_with fail
  have oQ : Own (w9.alloc (Obj.cells #[.slice pQ1 nQ1 cQ1, .slice pQ2 nQ2 cQ2, .slice pQ3 nQ3 cQ3] 26)) w9.heap.size [.slice pQ1 nQ1 cQ1, .slice pQ2 nQ2 cQ2, .slice pQ3 nQ3 cQ3] 26 := own_at _ _ rfl
  have ltQT : w.heap.size < w9.heap.size := zT
  have ltQL : w.heap.size + 1 < w9.heap.size := zL
  have ltQX : w.heap.size + 1 + 1 < w9.heap.size := zX
  have ltQY : w.heap.size + 1 + 1 + 1 < w9.heap.size := zY
  have ltQC : w.heap.size + 1 + 1 + 1 + 1 < w9.heap.size := zC
  have ltQA : w3.heap.size < w9.heap.size := zA
  have ltQB : w5.heap.size < w9.heap.size := zB
  have ltQP : w7.heap.size < w9.heap.size := zP
  replace oT := oT.alloc (Obj.cells #[.slice pQ1 nQ1 cQ1, .slice pQ2 nQ2 cQ2, .slice pQ3 nQ3 cQ3] 26)
  replace oL := oL.alloc (Obj.cells #[.slice pQ1 nQ1 cQ1, .slice pQ2 nQ2 cQ2, .slice pQ3 nQ3 cQ3] 26)
  replace oX := oX.alloc (Obj.cells #[.slice pQ1 nQ1 cQ1, .slice pQ2 nQ2 cQ2, .slice pQ3 nQ3 cQ3] 26)
  replace oY := oY.alloc (Obj.cells #[.slice pQ1 nQ1 cQ1, .slice pQ2 nQ2 cQ2, .slice pQ3 nQ3 cQ3] 26)
  replace oC := oC.alloc (Obj.cells #[.slice pQ1 nQ1 cQ1, .slice pQ2 nQ2 cQ2, .slice pQ3 nQ3 cQ3] 26)
  replace oA := oA.alloc (Obj.cells #[.slice pQ1 nQ1 cQ1, .slice pQ2 nQ2 cQ2, .slice pQ3 nQ3 cQ3] 26)
  replace oB := oB.alloc (Obj.cells #[.slice pQ1 nQ1 cQ1, .slice pQ2 nQ2 cQ2, .slice pQ3 nQ3 cQ3] 26)
  replace oP := oP.alloc (Obj.cells #[.slice pQ1 nQ1 cQ1, .slice pQ2 nQ2 cQ2, .slice pQ3 nQ3 cQ3] 26)
  replace SU := Lib.hid (SU.out.below (belowNew w9 (Obj.cells #[.slice pQ1 nQ1 cQ1, .slice pQ2 nQ2 cQ2, .slice pQ3 nQ3 cQ3] 26)))
  replace SG := Lib.hid (SG.out.below (belowNew w9 (Obj.cells #[.slice pQ1 nQ1 cQ1, .slice pQ2 nQ2 cQ2, .slice pQ3 nQ3 cQ3] 26)))
  replace SA := Lib.hid (SA.out.below (belowNew w9 (Obj.cells #[.slice pQ1 nQ1 cQ1, .slice pQ2 nQ2 cQ2, .slice pQ3 nQ3 cQ3] 26)))
  replace AU := Lib.hid (AU.out.below (belowNew w9 (Obj.cells #[.slice pQ1 nQ1 cQ1, .slice pQ2 nQ2 cQ2, .slice pQ3 nQ3 cQ3] 26)))
  replace AG := Lib.hid (AG.out.below (belowNew w9 (Obj.cells #[.slice pQ1 nQ1 cQ1, .slice pQ2 nQ2 cQ2, .slice pQ3 nQ3 cQ3] 26)))
  replace AA := Lib.hid (AA.out.below (belowNew w9 (Obj.cells #[.slice pQ1 nQ1 cQ1, .slice pQ2 nQ2 cQ2, .slice pQ3 nQ3 cQ3] 26)))
  replace BU := Lib.hid (BU.out.below (belowNew w9 (Obj.cells #[.slice pQ1 nQ1 cQ1, .slice pQ2 nQ2 cQ2, .slice pQ3 nQ3 cQ3] 26)))
  replace BG := Lib.hid (BG.out.below (belowNew w9 (Obj.cells #[.slice pQ1 nQ1 cQ1, .slice pQ2 nQ2 cQ2, .slice pQ3 nQ3 cQ3] 26)))
  replace BA := Lib.hid (BA.out.below (belowNew w9 (Obj.cells #[.slice pQ1 nQ1 cQ1, .slice pQ2 nQ2 cQ2, .slice pQ3 nQ3 cQ3] 26)))
  replace PU := Lib.hid (PU.out.below (belowNew w9 (Obj.cells #[.slice pQ1 nQ1 cQ1, .slice pQ2 nQ2 cQ2, .slice pQ3 nQ3 cQ3] 26)))
  replace PG := Lib.hid (PG.out.below (belowNew w9 (Obj.cells #[.slice pQ1 nQ1 cQ1, .slice pQ2 nQ2 cQ2, .slice pQ3 nQ3 cQ3] 26)))
  replace PA := Lib.hid (PA.out.below (belowNew w9 (Obj.cells #[.slice pQ1 nQ1 cQ1, .slice pQ2 nQ2 cQ2, .slice pQ3 nQ3 cQ3] 26)))
  replace QU := Lib.hid (QU.out.below (belowNew w9 (Obj.cells #[.slice pQ1 nQ1 cQ1, .slice pQ2 nQ2 cQ2, .slice pQ3 nQ3 cQ3] 26)))
  replace QG := Lib.hid (QG.out.below (belowNew w9 (Obj.cells #[.slice pQ1 nQ1 cQ1, .slice pQ2 nQ2 cQ2, .slice pQ3 nQ3 cQ3] 26)))
  replace QA := Lib.hid (QA.out.below (belowNew w9 (Obj.cells #[.slice pQ1 nQ1 cQ1, .slice pQ2 nQ2 cQ2, .slice pQ3 nQ3 cQ3] 26)))
  replace bel := bel.alloc bel.size (Obj.cells #[.slice pQ1 nQ1 cQ1, .slice pQ2 nQ2 cQ2, .slice pQ3 nQ3 cQ3] 26)
  clear cT0 cT1 cT2 fT zT cL0 cL1 fL zL cX0 cX1 cX2 cX3 fX zX cY0 cY1 cY2 cY3 cY4 fY zY cC0 cC1 fC zC cA0 cA1 cA2 fA zA cB0 cB1 cB2 fB zB cP0 cP1 cP2 fP zP
  generalize w9.alloc (Obj.cells #[.slice pQ1 nQ1 cQ1, .slice pQ2 nQ2 cQ2, .slice pQ3 nQ3 cQ3] 26) = w10 at oT oL oX oY oC oA oB oP oQ SU SG SA AU AG AA BU BG BA PU PG PA QU QG QA bel ⊢
  obtain ⟨cT0, cT1, cT2, fT, zT⟩ := own3 oT
  obtain ⟨cL0, cL1, fL, zL⟩ := own2 oL
  obtain ⟨cX0, cX1, cX2, cX3, fX, zX⟩ := own4 oX
  obtain ⟨cY0, cY1, cY2, cY3, cY4, fY, zY⟩ := own5 oY
  obtain ⟨cC0, cC1, fC, zC⟩ := own2 oC
  obtain ⟨cA0, cA1, cA2, fA, zA⟩ := own3 oA
  obtain ⟨cB0, cB1, cB2, fB, zB⟩ := own3 oB
  obtain ⟨cP0, cP1, cP2, fP, zP⟩ := own3 oP
  obtain ⟨cQ0, cQ1, cQ2, fQ, zQ⟩ := own3 oQ
  have eb : ∀ b : Bool, (b == b) = true := fun b => by cases b <;> rfl
  go_wp2_with fail
  have OTk0 := Lib.hid oT.drew
  have OLk0 := Lib.hid oL.drew
  have OXk0 := Lib.hid oX.drew
  have OYk0 := Lib.hid oY.drew
  have OCk0 := Lib.hid oC.drew
  have OAk0 := Lib.hid oA.drew
  have OBk0 := Lib.hid oB.drew
  have OPk0 := Lib.hid oP.drew
  have OQk0 := Lib.hid oQ.drew
  have BBk0 := Lib.hid bel.drew
  have SUk0 := Lib.hid (SU.out.below (Below.refl _ _).drew)
  have SGk0 := Lib.hid (SG.out.below (Below.refl _ _).drew)
  have SAk0 := Lib.hid (SA.out.below (Below.refl _ _).drew)
  have AUk0 := Lib.hid (AU.out.below (Below.refl _ _).drew)
  have AGk0 := Lib.hid (AG.out.below (Below.refl _ _).drew)
  have AAk0 := Lib.hid (AA.out.below (Below.refl _ _).drew)
  have BUk0 := Lib.hid (BU.out.below (Below.refl _ _).drew)
  have BGk0 := Lib.hid (BG.out.below (Below.refl _ _).drew)
  have BAk0 := Lib.hid (BA.out.below (Below.refl _ _).drew)
  have PUk0 := Lib.hid (PU.out.below (Below.refl _ _).drew)
  have PGk0 := Lib.hid (PG.out.below (Below.refl _ _).drew)
  have PAk0 := Lib.hid (PA.out.below (Below.refl _ _).drew)
  have QUk0 := Lib.hid (QU.out.below (Below.refl _ _).drew)
  have QGk0 := Lib.hid (QG.out.below (Below.refl _ _).drew)
  have QAk0 := Lib.hid (QA.out.below (Below.refl _ _).drew)
  clear oT cT0 cT1 cT2 fT zT oL cL0 cL1 fL zL oX cX0 cX1 cX2 cX3 fX zX oY cY0 cY1 cY2 cY3 cY4 fY zY oC cC0 cC1 fC zC oA cA0 cA1 cA2 fA zA oB cB0 cB1 cB2 fB zB oP cP0 cP1 cP2 fP zP oQ cQ0 cQ1 cQ2 fQ zQ
  clear bel SU SG SA AU AG AA BU BG BA PU PG PA QU QG QA
  obtain ⟨hTk00, hTk01, hTk02, _, _⟩ := own3 OTk0.out
  obtain ⟨hLk00, hLk01, _, _⟩ := own2 OLk0.out
  obtain ⟨hXk00, hXk01, hXk02, hXk03, _, _⟩ := own4 OXk0.out
  obtain ⟨hYk00, hYk01, hYk02, hYk03, hYk04, _, _⟩ := own5 OYk0.out
  obtain ⟨hCk00, hCk01, _, _⟩ := own2 OCk0.out
  obtain ⟨hAk00, hAk01, hAk02, _, _⟩ := own3 OAk0.out
  obtain ⟨hBk00, hBk01, hBk02, _, _⟩ := own3 OBk0.out
  obtain ⟨hPk00, hPk01, hPk02, _, _⟩ := own3 OPk0.out
  obtain ⟨hQk00, hQk01, hQk02, _, _⟩ := own3 OQk0.out
  try simp only [List.append_eq, List.cons_append, List.nil_append]
  refine region_H 58 #[false, false, false, false, false, false, false, false, false, false, false, false, false, false, false, false, false, false, false, false, false, false, false, false, false, false, false, false, false, false, false, false, false, false, false, false, false, false, false, false, false, false, false, false, false, false, false, false, false, false, false, false, false, false, false, false, false, false] (by kernel_rfl) (by kernel_rfl) (fun w' => w'.cell? ⟨w.heap.size, 0, none⟩ = some (.slice pu us.length cu) ∧ w'.cell? ⟨w.heap.size, 1, none⟩ = some (.slice pg gs.length cg) ∧ w'.cell? ⟨w.heap.size, 2, none⟩ = some (.slice pa ks.length ca) ∧ w'.cell? ⟨w.heap.size + 1, 0, none⟩ = some (.int .i64 N) ∧ w'.cell? ⟨w.heap.size + 1, 1, none⟩ = some (.int .i64 D) ∧ w'.cell? ⟨w.heap.size + 1 + 1 + 1 + 1, 0, none⟩ = some (.int .i64 zs) ∧ w'.cell? ⟨w.heap.size + 1 + 1 + 1 + 1, 1, none⟩ = some (.int .i64 zo) ∧ w'.cell? ⟨w3.heap.size, 0, none⟩ = some (.slice pA1 nA1 cA1) ∧ w'.cell? ⟨w3.heap.size, 1, none⟩ = some (.slice pA2 nA2 cA2) ∧ w'.cell? ⟨w3.heap.size, 2, none⟩ = some (.slice pA3 nA3 cA3) ∧ w'.cell? ⟨w5.heap.size, 0, none⟩ = some (.slice pB1 nB1 cB1) ∧ w'.cell? ⟨w5.heap.size, 1, none⟩ = some (.slice pB2 nB2 cB2) ∧ w'.cell? ⟨w5.heap.size, 2, none⟩ = some (.slice pB3 nB3 cB3) ∧ w'.cell? ⟨w7.heap.size, 0, none⟩ = some (.slice pP1 nP1 cP1) ∧ w'.cell? ⟨w7.heap.size, 1, none⟩ = some (.slice pP2 nP2 cP2) ∧ w'.cell? ⟨w7.heap.size, 2, none⟩ = some (.slice pP3 nP3 cP3) ∧ w'.cell? ⟨w9.heap.size, 0, none⟩ = some (.slice pQ1 nQ1 cQ1) ∧ w'.cell? ⟨w9.heap.size, 1, none⟩ = some (.slice pQ2 nQ2 cQ2) ∧ w'.cell? ⟨w9.heap.size, 2, none⟩ = some (.slice pQ3 nQ3 cQ3)) (by kernel_rfl) ?x1s (fun hHeld => ?x1r)
  case x1s => exact ⟨hTk00, hTk01, hTk02, hLk00, hLk01, hCk00, hCk01, hAk00, hAk01, hAk02, hBk00, hBk01, hBk02, hPk00, hPk01, hPk02, hQk00, hQk01, hQk02⟩
  refine wpH_take (i := 0) (some 55) (v := ?x2v) rfl (by kernel_rfl) (by kernel_rfl) (by kernel_rfl) rfl (fun _ _ _ h => h) (Or.inl ⟨by rfl, ?x2y⟩) hHeld ?x2r
  case x2y => (intro w hSw; (try dsimp only at hSw); go_simp; try with_reducible rfl)
  try simp only [Act.put, List.setIfInBounds_toArray, List.set_cons_zero, List.set_cons_succ]
  refine wpH_take (i := 1) (some 56) (v := ?x3v) rfl (by kernel_rfl) (by kernel_rfl) (by kernel_rfl) rfl (fun _ _ _ h => h) (Or.inl ⟨by rfl, ?x3y⟩) hHeld ?x3r
  case x3y => (intro w hSw; (try dsimp only at hSw); go_simp; try with_reducible rfl)
  try simp only [Act.put, List.setIfInBounds_toArray, List.set_cons_zero, List.set_cons_succ]
  refine wpH_take (i := 2) (some 57) (v := ?x4v) rfl (by kernel_rfl) (by kernel_rfl) (by kernel_rfl) rfl (fun _ _ _ h => h) (Or.inl ⟨by rfl, ?x4y⟩) hHeld ?x4r
  case x4y => (intro w hSw; (try dsimp only at hSw); go_simp; try with_reducible rfl)
  try simp only [Act.put, List.setIfInBounds_toArray, List.set_cons_zero, List.set_cons_succ]
  refine wpH_take (i := 3) (some 58) (v := ?x5v) rfl (by kernel_rfl) (by kernel_rfl) (by kernel_rfl) rfl (fun _ _ _ h => h) (Or.inl ⟨by rfl, ?x5y⟩) hHeld ?x5r
  case x5y => (intro w hSw; (try dsimp only at hSw); go_simp; try with_reducible rfl)
  try simp only [Act.put, List.setIfInBounds_toArray, List.set_cons_zero, List.set_cons_succ]
  refine wpH_one (i := 4) (by kernel_rfl) rfl (fun K hK => ?_)
  rw [if_pos (by rfl)]
  go_simp
  refine (same_lit _ _ _ _ _ _ (auU us x E) (auU us x E) (auG gs E) (auG gs E) (adA ks x.s E) (adA ks x.s E) _ AUk0.out AGk0.out AAk0.out BUk0.out BGk0.out BAk0.out LN.out.1 LN.out.2.1 LN.out.2.2.1 true samT_rfl).mono ?_
  rintro e wk1 ⟨rfl, hbb⟩
  have OTk1 := Lib.hid (OTk0.out.below hbb)
  have OLk1 := Lib.hid (OLk0.out.below hbb)
  have OXk1 := Lib.hid (OXk0.out.below hbb)
  have OYk1 := Lib.hid (OYk0.out.below hbb)
  have OCk1 := Lib.hid (OCk0.out.below hbb)
  have OAk1 := Lib.hid (OAk0.out.below hbb)
  have OBk1 := Lib.hid (OBk0.out.below hbb)
  have OPk1 := Lib.hid (OPk0.out.below hbb)
  have OQk1 := Lib.hid (OQk0.out.below hbb)
  have SUk1 := Lib.hid (SUk0.out.below hbb)
  have SGk1 := Lib.hid (SGk0.out.below hbb)
  have SAk1 := Lib.hid (SAk0.out.below hbb)
  have PUk1 := Lib.hid (PUk0.out.below hbb)
  have PGk1 := Lib.hid (PGk0.out.below hbb)
  have PAk1 := Lib.hid (PAk0.out.below hbb)
  have QUk1 := Lib.hid (QUk0.out.below hbb)
  have QGk1 := Lib.hid (QGk0.out.below hbb)
  have QAk1 := Lib.hid (QAk0.out.below hbb)
  have BBk1 := Lib.hid (belowTo BBk0.out hbb BBk0.out.size)
  clear hbb OTk0 OLk0 OXk0 OYk0 OCk0 OAk0 OBk0 OPk0 OQk0 SUk0 SGk0 SAk0 AUk0 AGk0 AAk0 BUk0 BGk0 BAk0 PUk0 PGk0 PAk0 QUk0 QGk0 QAk0 BBk0 hTk00 hTk01 hTk02 hLk00 hLk01 hXk00 hXk01 hXk02 hXk03 hYk00 hYk01 hYk02 hYk03 hYk04 hCk00 hCk01 hAk00 hAk01 hAk02 hBk00 hBk01 hBk02 hPk00 hPk01 hPk02 hQk00 hQk01 hQk02
  obtain ⟨hTk10, hTk11, hTk12, _, _⟩ := own3 OTk1.out
  obtain ⟨hLk10, hLk11, _, _⟩ := own2 OLk1.out
  obtain ⟨hXk10, hXk11, hXk12, hXk13, _, _⟩ := own4 OXk1.out
  obtain ⟨hYk10, hYk11, hYk12, hYk13, hYk14, _, _⟩ := own5 OYk1.out
  obtain ⟨hCk10, hCk11, _, _⟩ := own2 OCk1.out
  obtain ⟨hAk10, hAk11, hAk12, _, _⟩ := own3 OAk1.out
  obtain ⟨hBk10, hBk11, hBk12, _, _⟩ := own3 OBk1.out
  obtain ⟨hPk10, hPk11, hPk12, _, _⟩ := own3 OPk1.out
  obtain ⟨hQk10, hQk11, hQk12, _, _⟩ := own3 OQk1.out
  refine hK.out _ _ (⟨hTk10, hTk11, hTk12, hLk10, hLk11, hCk10, hCk11, hAk10, hAk11, hAk12, hBk10, hBk11, hBk12, hPk10, hPk11, hPk12, hQk10, hQk11, hQk12⟩) ?_
  clear hK K hHeld
  intro hHeld
  try simp only [Act.put, List.setIfInBounds_toArray, List.set_cons_zero, List.set_cons_succ]
  refine wpH_take (i := 5) (some 60) (v := ?x7v) rfl (by kernel_rfl) (by kernel_rfl) (by kernel_rfl) rfl (fun _ _ _ h => h) (Or.inl ⟨by rfl, ?x7y⟩) hHeld ?x7r
  case x7y => (intro w hSw; (try dsimp only at hSw); go_simp; try with_reducible rfl)
  try simp only [Act.put, List.setIfInBounds_toArray, List.set_cons_zero, List.set_cons_succ]
  refine wpH_take (i := 6) (some 61) (v := ?x8v) rfl (by kernel_rfl) (by kernel_rfl) (by kernel_rfl) rfl (fun _ _ _ h => h) (Or.inl ⟨by rfl, ?x8y⟩) hHeld ?x8r
  case x8y => (intro w hSw; (try dsimp only at hSw); go_simp; try with_reducible rfl)
  try simp only [Act.put, List.setIfInBounds_toArray, List.set_cons_zero, List.set_cons_succ]
  refine wpH_take (i := 7) (some 62) (v := ?x9v) rfl (by kernel_rfl) (by kernel_rfl) (by kernel_rfl) rfl (fun _ _ _ h => h) (Or.inl ⟨by rfl, ?x9y⟩) hHeld ?x9r
  case x9y => (intro w hSw; (try dsimp only at hSw); go_simp; try with_reducible rfl)
  try simp only [Act.put, List.setIfInBounds_toArray, List.set_cons_zero, List.set_cons_succ]
  refine wpH_take (i := 8) (some 63) (v := ?x10v) rfl (by kernel_rfl) (by kernel_rfl) (by kernel_rfl) rfl (fun _ _ _ h => h) (Or.inl ⟨by rfl, ?x10y⟩) hHeld ?x10r
  case x10y => (intro w hSw; (try dsimp only at hSw); go_simp; try with_reducible rfl)
  try simp only [Act.put, List.setIfInBounds_toArray, List.set_cons_zero, List.set_cons_succ]
  refine wpH_take (i := 9) (some 64) (v := ?x11v) rfl (by kernel_rfl) (by kernel_rfl) (by kernel_rfl) rfl (fun _ _ _ h => h) (Or.inl ⟨by rfl, ?x11y⟩) hHeld ?x11r
  case x11y => (intro w hSw; (try dsimp only at hSw); go_simp; try with_reducible rfl)
  try simp only [Act.put, List.setIfInBounds_toArray, List.set_cons_zero, List.set_cons_succ]
  refine wpH_take (i := 10) (some 65) (v := ?x12v) rfl (by kernel_rfl) (by kernel_rfl) (by kernel_rfl) rfl (fun _ _ _ h => h) (Or.inl ⟨by rfl, ?x12y⟩) hHeld ?x12r
  case x12y => (intro w hSw; (try dsimp only at hSw); go_simp; try with_reducible rfl)
  try simp only [Act.put, List.setIfInBounds_toArray, List.set_cons_zero, List.set_cons_succ]
  refine wpH_take (i := 11) (some 66) (v := ?x13v) rfl (by kernel_rfl) (by kernel_rfl) (by kernel_rfl) rfl (fun _ _ _ h => h) (Or.inl ⟨by rfl, ?x13y⟩) hHeld ?x13r
  case x13y => (intro w hSw; (try dsimp only at hSw); go_simp; try with_reducible rfl)
  try simp only [Act.put, List.setIfInBounds_toArray, List.set_cons_zero, List.set_cons_succ]
  refine wpH_take (i := 12) (some 67) (v := ?x14v) rfl (by kernel_rfl) (by kernel_rfl) (by kernel_rfl) rfl (fun _ _ _ h => h) (Or.inl ⟨by rfl, ?x14y⟩) hHeld ?x14r
  case x14y => (intro w hSw; (try dsimp only at hSw); go_simp; try with_reducible rfl)
  try simp only [Act.put, List.setIfInBounds_toArray, List.set_cons_zero, List.set_cons_succ]
  refine wpH_take (i := 13) (some 68) (v := ?x15v) rfl (by kernel_rfl) (by kernel_rfl) (by kernel_rfl) rfl (fun _ _ _ h => h) (Or.inl ⟨by rfl, ?x15y⟩) hHeld ?x15r
  case x15y => (intro w hSw; (try dsimp only at hSw); go_simp; try with_reducible rfl)
  try simp only [Act.put, List.setIfInBounds_toArray, List.set_cons_zero, List.set_cons_succ]
  refine wpH_one (i := 14) (by kernel_rfl) rfl (fun K hK => ?_)
  rw [if_pos (by rfl)]
  go_simp
  refine (same_lit _ _ _ _ _ _ (agU us G) (agU us G) (agG gs y G) (agG gs y G) (adA ks y.s G) (adA ks y.s G) _ PUk1.out PGk1.out PAk1.out QUk1.out QGk1.out QAk1.out LN.out.2.2.2.1 LN.out.2.2.2.2.1 LN.out.2.2.2.2.2 true samT_rfl).mono ?_
  rintro e wk2 ⟨rfl, hbb⟩
  have OTk2 := Lib.hid (OTk1.out.below hbb)
  have OLk2 := Lib.hid (OLk1.out.below hbb)
  have OXk2 := Lib.hid (OXk1.out.below hbb)
  have OYk2 := Lib.hid (OYk1.out.below hbb)
  have OCk2 := Lib.hid (OCk1.out.below hbb)
  have OAk2 := Lib.hid (OAk1.out.below hbb)
  have OBk2 := Lib.hid (OBk1.out.below hbb)
  have OPk2 := Lib.hid (OPk1.out.below hbb)
  have OQk2 := Lib.hid (OQk1.out.below hbb)
  have SUk2 := Lib.hid (SUk1.out.below hbb)
  have SGk2 := Lib.hid (SGk1.out.below hbb)
  have SAk2 := Lib.hid (SAk1.out.below hbb)
  have BBk2 := Lib.hid (belowTo BBk1.out hbb BBk1.out.size)
  clear hbb OTk1 OLk1 OXk1 OYk1 OCk1 OAk1 OBk1 OPk1 OQk1 SUk1 SGk1 SAk1 PUk1 PGk1 PAk1 QUk1 QGk1 QAk1 BBk1 hTk10 hTk11 hTk12 hLk10 hLk11 hXk10 hXk11 hXk12 hXk13 hYk10 hYk11 hYk12 hYk13 hYk14 hCk10 hCk11 hAk10 hAk11 hAk12 hBk10 hBk11 hBk12 hPk10 hPk11 hPk12 hQk10 hQk11 hQk12
  obtain ⟨hTk20, hTk21, hTk22, _, _⟩ := own3 OTk2.out
  obtain ⟨hLk20, hLk21, _, _⟩ := own2 OLk2.out
  obtain ⟨hXk20, hXk21, hXk22, hXk23, _, _⟩ := own4 OXk2.out
  obtain ⟨hYk20, hYk21, hYk22, hYk23, hYk24, _, _⟩ := own5 OYk2.out
  obtain ⟨hCk20, hCk21, _, _⟩ := own2 OCk2.out
  obtain ⟨hAk20, hAk21, hAk22, _, _⟩ := own3 OAk2.out
  obtain ⟨hBk20, hBk21, hBk22, _, _⟩ := own3 OBk2.out
  obtain ⟨hPk20, hPk21, hPk22, _, _⟩ := own3 OPk2.out
  obtain ⟨hQk20, hQk21, hQk22, _, _⟩ := own3 OQk2.out
  refine hK.out _ _ (⟨hTk20, hTk21, hTk22, hLk20, hLk21, hCk20, hCk21, hAk20, hAk21, hAk22, hBk20, hBk21, hBk22, hPk20, hPk21, hPk22, hQk20, hQk21, hQk22⟩) ?_
  clear hK K hHeld
  intro hHeld
  try simp only [Act.put, List.setIfInBounds_toArray, List.set_cons_zero, List.set_cons_succ]
  refine wpH_take (i := 15) (some 70) (v := ?x17v) rfl (by kernel_rfl) (by kernel_rfl) (by kernel_rfl) rfl (fun _ _ _ h => h) (Or.inl ⟨by rfl, ?x17y⟩) hHeld ?x17r
  case x17y => (intro w hSw; (try dsimp only at hSw); go_simp; try with_reducible rfl)
  try simp only [Act.put, List.setIfInBounds_toArray, List.set_cons_zero, List.set_cons_succ]
  refine wpH_take (i := 16) (some 71) (v := ?x18v) rfl (by kernel_rfl) (by kernel_rfl) (by kernel_rfl) rfl (fun _ _ _ h => h) (Or.inl ⟨by rfl, ?x18y⟩) hHeld ?x18r
  case x18y => (intro w hSw; (try dsimp only at hSw); go_simp; try with_reducible rfl)
  try simp only [Act.put, List.setIfInBounds_toArray, List.set_cons_zero, List.set_cons_succ]
  refine wpH_take (i := 17) (some 72) (v := ?x19v) rfl (by kernel_rfl) (by kernel_rfl) (by kernel_rfl) rfl (fun _ _ _ h => h) (Or.inl ⟨by rfl, ?x19y⟩) hHeld ?x19r
  case x19y => (intro w hSw; (try dsimp only at hSw); go_simp; try with_reducible rfl)
  try simp only [Act.put, List.setIfInBounds_toArray, List.set_cons_zero, List.set_cons_succ]
  refine wpH_take (i := 18) (some 73) (v := ?x20v) rfl (by kernel_rfl) (by kernel_rfl) (by kernel_rfl) rfl (fun _ _ _ h => h) (Or.inl ⟨by rfl, ?x20y⟩) hHeld ?x20r
  case x20y => (intro w hSw; (try dsimp only at hSw); go_simp; try with_reducible rfl)
  try simp only [Act.put, List.setIfInBounds_toArray, List.set_cons_zero, List.set_cons_succ]
  refine wpH_take (i := 19) (some 74) (v := ?x21v) rfl (by kernel_rfl) (by kernel_rfl) (by kernel_rfl) rfl (fun _ _ _ h => h) (Or.inl ⟨by rfl, ?x21y⟩) hHeld ?x21r
  case x21y => (intro w hSw; (try dsimp only at hSw); go_simp; try with_reducible rfl)
  try simp only [Act.put, List.setIfInBounds_toArray, List.set_cons_zero, List.set_cons_succ]
  refine wpH_take (i := 20) (some 75) (v := ?x22v) rfl (by kernel_rfl) (by kernel_rfl) (by kernel_rfl) rfl (fun _ _ _ h => h) (Or.inl ⟨by rfl, ?x22y⟩) hHeld ?x22r
  case x22y => (intro w hSw; (try dsimp only at hSw); go_simp; try with_reducible rfl)
  try simp only [Act.put, List.setIfInBounds_toArray, List.set_cons_zero, List.set_cons_succ]
  refine wpH_take (i := 21) (some 76) (v := ?x23v) rfl (by kernel_rfl) (by kernel_rfl) (by kernel_rfl) rfl (fun _ _ _ h => h) (Or.inl ⟨by rfl, ?x23y⟩) hHeld ?x23r
  case x23y => (intro w hSw; (try dsimp only at hSw); go_simp; try with_reducible rfl)
  try simp only [Act.put, List.setIfInBounds_toArray, List.set_cons_zero, List.set_cons_succ]
  refine wpH_take (i := 22) (some 77) (v := ?x24v) rfl (by kernel_rfl) (by kernel_rfl) (by kernel_rfl) rfl (fun _ _ _ h => h) (Or.inl ⟨by rfl, ?x24y⟩) hHeld ?x24r
  case x24y => (intro w hSw; (try dsimp only at hSw); go_simp; try with_reducible rfl)
  try simp only [Act.put, List.setIfInBounds_toArray, List.set_cons_zero, List.set_cons_succ]
  refine wpH_take (i := 23) (some 78) (v := ?x25v) rfl (by kernel_rfl) (by kernel_rfl) (by kernel_rfl) rfl (fun _ _ _ h => h) (Or.inl ⟨by rfl, ?x25y⟩) hHeld ?x25r
  case x25y => (intro w hSw; (try dsimp only at hSw); go_simp; try with_reducible rfl)
  try simp only [Act.put, List.setIfInBounds_toArray, List.set_cons_zero, List.set_cons_succ]
  refine wpH_take (i := 25) (some 80) (v := ?x26v) rfl (by kernel_rfl) (by kernel_rfl) (by kernel_rfl) rfl (fun _ _ _ h => h) (Or.inl ⟨by rfl, ?x26y⟩) hHeld ?x26r
  case x26y => (intro w hSw; (try dsimp only at hSw); go_simp; try with_reducible rfl)
  try simp only [Act.put, List.setIfInBounds_toArray, List.set_cons_zero, List.set_cons_succ]
  refine wpH_take (i := 26) (some 81) (v := ?x27v) rfl (by kernel_rfl) (by kernel_rfl) (by kernel_rfl) rfl (fun _ _ _ h => h) (Or.inl ⟨by rfl, ?x27y⟩) hHeld ?x27r
  case x27y => (intro w hSw; (try dsimp only at hSw); go_simp; try with_reducible rfl)
  try simp only [Act.put, List.setIfInBounds_toArray, List.set_cons_zero, List.set_cons_succ]
  refine wpH_one (i := 24) (by kernel_rfl) rfl (fun K hK => ?_)
  rw [if_pos (by rfl)]
  go_simp
  refine (valid_lit _ _ _ us gs ks N D _ SUk2.out SGk2.out SAk2.out (by omega) (by omega) (by omega) V HV.out).mono ?_
  rintro e wk3 ⟨rfl, hbb⟩
  have OTk3 := Lib.hid (OTk2.out.below hbb)
  have OLk3 := Lib.hid (OLk2.out.below hbb)
  have OXk3 := Lib.hid (OXk2.out.below hbb)
  have OYk3 := Lib.hid (OYk2.out.below hbb)
  have OCk3 := Lib.hid (OCk2.out.below hbb)
  have OAk3 := Lib.hid (OAk2.out.below hbb)
  have OBk3 := Lib.hid (OBk2.out.below hbb)
  have OPk3 := Lib.hid (OPk2.out.below hbb)
  have OQk3 := Lib.hid (OQk2.out.below hbb)
  have SUk3 := Lib.hid (SUk2.out.below hbb)
  have SGk3 := Lib.hid (SGk2.out.below hbb)
  have SAk3 := Lib.hid (SAk2.out.below hbb)
  have BBk3 := Lib.hid (belowTo BBk2.out hbb BBk2.out.size)
  clear hbb OTk2 OLk2 OXk2 OYk2 OCk2 OAk2 OBk2 OPk2 OQk2 SUk2 SGk2 SAk2 BBk2 hTk20 hTk21 hTk22 hLk20 hLk21 hXk20 hXk21 hXk22 hXk23 hYk20 hYk21 hYk22 hYk23 hYk24 hCk20 hCk21 hAk20 hAk21 hAk22 hBk20 hBk21 hBk22 hPk20 hPk21 hPk22 hQk20 hQk21 hQk22
  obtain ⟨hTk30, hTk31, hTk32, _, _⟩ := own3 OTk3.out
  obtain ⟨hLk30, hLk31, _, _⟩ := own2 OLk3.out
  obtain ⟨hXk30, hXk31, hXk32, hXk33, _, _⟩ := own4 OXk3.out
  obtain ⟨hYk30, hYk31, hYk32, hYk33, hYk34, _, _⟩ := own5 OYk3.out
  obtain ⟨hCk30, hCk31, _, _⟩ := own2 OCk3.out
  obtain ⟨hAk30, hAk31, hAk32, _, _⟩ := own3 OAk3.out
  obtain ⟨hBk30, hBk31, hBk32, _, _⟩ := own3 OBk3.out
  obtain ⟨hPk30, hPk31, hPk32, _, _⟩ := own3 OPk3.out
  obtain ⟨hQk30, hQk31, hQk32, _, _⟩ := own3 OQk3.out
  refine hK.out _ _ (⟨hTk30, hTk31, hTk32, hLk30, hLk31, hCk30, hCk31, hAk30, hAk31, hAk32, hBk30, hBk31, hBk32, hPk30, hPk31, hPk32, hQk30, hQk31, hQk32⟩) ?_
  clear hK K hHeld
  intro hHeld
  try simp only [Act.put, List.setIfInBounds_toArray, List.set_cons_zero, List.set_cons_succ]
  refine wpH_one (i := 27) (by kernel_rfl) rfl (fun K hK => ?_)
  rw [if_pos (by rfl)]
  go_simp
  refine (rvalid_lit _ _ _ us gs ks N D _ SUk3.out SGk3.out SAk3.out (by omega) (by omega) (by omega) V HV.out).mono ?_
  rintro e wk4 ⟨rfl, hbb⟩
  have OTk4 := Lib.hid (OTk3.out.below hbb)
  have OLk4 := Lib.hid (OLk3.out.below hbb)
  have OXk4 := Lib.hid (OXk3.out.below hbb)
  have OYk4 := Lib.hid (OYk3.out.below hbb)
  have OCk4 := Lib.hid (OCk3.out.below hbb)
  have OAk4 := Lib.hid (OAk3.out.below hbb)
  have OBk4 := Lib.hid (OBk3.out.below hbb)
  have OPk4 := Lib.hid (OPk3.out.below hbb)
  have OQk4 := Lib.hid (OQk3.out.below hbb)
  have SUk4 := Lib.hid (SUk3.out.below hbb)
  have SGk4 := Lib.hid (SGk3.out.below hbb)
  have SAk4 := Lib.hid (SAk3.out.below hbb)
  have BBk4 := Lib.hid (belowTo BBk3.out hbb BBk3.out.size)
  clear hbb OTk3 OLk3 OXk3 OYk3 OCk3 OAk3 OBk3 OPk3 OQk3 SUk3 SGk3 SAk3 BBk3 hTk30 hTk31 hTk32 hLk30 hLk31 hXk30 hXk31 hXk32 hXk33 hYk30 hYk31 hYk32 hYk33 hYk34 hCk30 hCk31 hAk30 hAk31 hAk32 hBk30 hBk31 hBk32 hPk30 hPk31 hPk32 hQk30 hQk31 hQk32
  obtain ⟨hTk40, hTk41, hTk42, _, _⟩ := own3 OTk4.out
  obtain ⟨hLk40, hLk41, _, _⟩ := own2 OLk4.out
  obtain ⟨hXk40, hXk41, hXk42, hXk43, _, _⟩ := own4 OXk4.out
  obtain ⟨hYk40, hYk41, hYk42, hYk43, hYk44, _, _⟩ := own5 OYk4.out
  obtain ⟨hCk40, hCk41, _, _⟩ := own2 OCk4.out
  obtain ⟨hAk40, hAk41, hAk42, _, _⟩ := own3 OAk4.out
  obtain ⟨hBk40, hBk41, hBk42, _, _⟩ := own3 OBk4.out
  obtain ⟨hPk40, hPk41, hPk42, _, _⟩ := own3 OPk4.out
  obtain ⟨hQk40, hQk41, hQk42, _, _⟩ := own3 OQk4.out
  refine hK.out _ _ (⟨hTk40, hTk41, hTk42, hLk40, hLk41, hCk40, hCk41, hAk40, hAk41, hAk42, hBk40, hBk41, hBk42, hPk40, hPk41, hPk42, hQk40, hQk41, hQk42⟩) ?_
  clear hK K hHeld
  intro hHeld
  try simp only [Act.put, List.setIfInBounds_toArray, List.set_cons_zero, List.set_cons_succ]
  refine wpH_take (i := 28) (some 83) (v := ?x30v) rfl (by kernel_rfl) (by kernel_rfl) (by kernel_rfl) rfl (fun _ _ _ h => h) (Or.inl ⟨by rfl, ?x30y⟩) hHeld ?x30r
  case x30y => (intro w hSw; (try dsimp only at hSw); go_simp; try with_reducible rfl)
  try simp only [Act.put, List.setIfInBounds_toArray, List.set_cons_zero, List.set_cons_succ]
  refine wpH_take (i := 29) (some 84) (v := ?x31v) rfl (by kernel_rfl) (by kernel_rfl) (by kernel_rfl) rfl (fun _ _ _ h => h) (Or.inl ⟨by rfl, ?x31y⟩) hHeld ?x31r
  case x31y => (intro w hSw; (try dsimp only at hSw); go_simp; try with_reducible rfl)
  try simp only [Act.put, List.setIfInBounds_toArray, List.set_cons_zero, List.set_cons_succ]
  refine wpH_take (i := 30) (some 85) (v := ?x32v) rfl (by kernel_rfl) (by kernel_rfl) (by kernel_rfl) rfl (fun _ _ _ h => h) (Or.inl ⟨by rfl, ?x32y⟩) hHeld ?x32r
  case x32y => (intro w hSw; (try dsimp only at hSw); go_simp; try with_reducible rfl)
  try simp only [Act.put, List.setIfInBounds_toArray, List.set_cons_zero, List.set_cons_succ]
  refine wpH_take (i := 31) (some 86) (v := ?x33v) rfl (by kernel_rfl) (by kernel_rfl) (by kernel_rfl) rfl (fun _ _ _ h => h) (Or.inl ⟨by rfl, ?x33y⟩) hHeld ?x33r
  case x33y => (intro w hSw; (try dsimp only at hSw); go_simp; try with_reducible rfl)
  try simp only [Act.put, List.setIfInBounds_toArray, List.set_cons_zero, List.set_cons_succ]
  refine wpH_take (i := 32) (some 87) (v := ?x34v) rfl (by kernel_rfl) (by kernel_rfl) (by kernel_rfl) rfl (fun _ _ _ h => h) (Or.inl ⟨by rfl, ?x34y⟩) hHeld ?x34r
  case x34y => (intro w hSw; (try dsimp only at hSw); go_simp; try with_reducible rfl)
  try simp only [Act.put, List.setIfInBounds_toArray, List.set_cons_zero, List.set_cons_succ]
  refine wpH_take (i := 34) (some 89) (v := ?x35v) rfl (by kernel_rfl) (by kernel_rfl) (by kernel_rfl) rfl (fun _ _ _ h => h) (Or.inl ⟨by rfl, ?x35y⟩) hHeld ?x35r
  case x35y => (intro w hSw; (try dsimp only at hSw); go_simp; try with_reducible rfl)
  try simp only [Act.put, List.setIfInBounds_toArray, List.set_cons_zero, List.set_cons_succ]
  refine wpH_take (i := 35) (some 90) (v := ?x36v) rfl (by kernel_rfl) (by kernel_rfl) (by kernel_rfl) rfl (fun _ _ _ h => h) (Or.inl ⟨by rfl, ?x36y⟩) hHeld ?x36r
  case x36y => (intro w hSw; (try dsimp only at hSw); go_simp; try with_reducible rfl)
  try simp only [Act.put, List.setIfInBounds_toArray, List.set_cons_zero, List.set_cons_succ]
  refine wpH_one (i := 33) (by kernel_rfl) rfl (fun K hK => ?_)
  rw [if_pos (by rfl)]
  go_simp
  refine (busy_lit _ _ _ us gs n _ SUk4.out SGk4.out B HB.out).mono ?_
  rintro e wk5 ⟨rfl, hbb⟩
  have OTk5 := Lib.hid (OTk4.out.below hbb)
  have OLk5 := Lib.hid (OLk4.out.below hbb)
  have OXk5 := Lib.hid (OXk4.out.below hbb)
  have OYk5 := Lib.hid (OYk4.out.below hbb)
  have OCk5 := Lib.hid (OCk4.out.below hbb)
  have OAk5 := Lib.hid (OAk4.out.below hbb)
  have OBk5 := Lib.hid (OBk4.out.below hbb)
  have OPk5 := Lib.hid (OPk4.out.below hbb)
  have OQk5 := Lib.hid (OQk4.out.below hbb)
  have SUk5 := Lib.hid (SUk4.out.below hbb)
  have SGk5 := Lib.hid (SGk4.out.below hbb)
  have SAk5 := Lib.hid (SAk4.out.below hbb)
  have BBk5 := Lib.hid (belowTo BBk4.out hbb BBk4.out.size)
  clear hbb OTk4 OLk4 OXk4 OYk4 OCk4 OAk4 OBk4 OPk4 OQk4 SUk4 SGk4 SAk4 BBk4 hTk40 hTk41 hTk42 hLk40 hLk41 hXk40 hXk41 hXk42 hXk43 hYk40 hYk41 hYk42 hYk43 hYk44 hCk40 hCk41 hAk40 hAk41 hAk42 hBk40 hBk41 hBk42 hPk40 hPk41 hPk42 hQk40 hQk41 hQk42
  obtain ⟨hTk50, hTk51, hTk52, _, _⟩ := own3 OTk5.out
  obtain ⟨hLk50, hLk51, _, _⟩ := own2 OLk5.out
  obtain ⟨hXk50, hXk51, hXk52, hXk53, _, _⟩ := own4 OXk5.out
  obtain ⟨hYk50, hYk51, hYk52, hYk53, hYk54, _, _⟩ := own5 OYk5.out
  obtain ⟨hCk50, hCk51, _, _⟩ := own2 OCk5.out
  obtain ⟨hAk50, hAk51, hAk52, _, _⟩ := own3 OAk5.out
  obtain ⟨hBk50, hBk51, hBk52, _, _⟩ := own3 OBk5.out
  obtain ⟨hPk50, hPk51, hPk52, _, _⟩ := own3 OPk5.out
  obtain ⟨hQk50, hQk51, hQk52, _, _⟩ := own3 OQk5.out
  refine hK.out _ _ (⟨hTk50, hTk51, hTk52, hLk50, hLk51, hCk50, hCk51, hAk50, hAk51, hAk52, hBk50, hBk51, hBk52, hPk50, hPk51, hPk52, hQk50, hQk51, hQk52⟩) ?_
  clear hK K hHeld
  intro hHeld
  try simp only [Act.put, List.setIfInBounds_toArray, List.set_cons_zero, List.set_cons_succ]
  refine wpH_one (i := 36) (by kernel_rfl) rfl (fun K hK => ?_)
  rw [if_pos (by rfl)]
  go_simp
  refine (rbusy_lit _ _ _ us gs n _ SUk5.out SGk5.out (by omega) (by omega) B HB.out).mono ?_
  rintro e wk6 ⟨rfl, hbb⟩
  have OTk6 := Lib.hid (OTk5.out.below hbb)
  have OLk6 := Lib.hid (OLk5.out.below hbb)
  have OXk6 := Lib.hid (OXk5.out.below hbb)
  have OYk6 := Lib.hid (OYk5.out.below hbb)
  have OCk6 := Lib.hid (OCk5.out.below hbb)
  have OAk6 := Lib.hid (OAk5.out.below hbb)
  have OBk6 := Lib.hid (OBk5.out.below hbb)
  have OPk6 := Lib.hid (OPk5.out.below hbb)
  have OQk6 := Lib.hid (OQk5.out.below hbb)
  have SUk6 := Lib.hid (SUk5.out.below hbb)
  have SGk6 := Lib.hid (SGk5.out.below hbb)
  have SAk6 := Lib.hid (SAk5.out.below hbb)
  have BBk6 := Lib.hid (belowTo BBk5.out hbb BBk5.out.size)
  clear hbb OTk5 OLk5 OXk5 OYk5 OCk5 OAk5 OBk5 OPk5 OQk5 SUk5 SGk5 SAk5 BBk5 hTk50 hTk51 hTk52 hLk50 hLk51 hXk50 hXk51 hXk52 hXk53 hYk50 hYk51 hYk52 hYk53 hYk54 hCk50 hCk51 hAk50 hAk51 hAk52 hBk50 hBk51 hBk52 hPk50 hPk51 hPk52 hQk50 hQk51 hQk52
  obtain ⟨hTk60, hTk61, hTk62, _, _⟩ := own3 OTk6.out
  obtain ⟨hLk60, hLk61, _, _⟩ := own2 OLk6.out
  obtain ⟨hXk60, hXk61, hXk62, hXk63, _, _⟩ := own4 OXk6.out
  obtain ⟨hYk60, hYk61, hYk62, hYk63, hYk64, _, _⟩ := own5 OYk6.out
  obtain ⟨hCk60, hCk61, _, _⟩ := own2 OCk6.out
  obtain ⟨hAk60, hAk61, hAk62, _, _⟩ := own3 OAk6.out
  obtain ⟨hBk60, hBk61, hBk62, _, _⟩ := own3 OBk6.out
  obtain ⟨hPk60, hPk61, hPk62, _, _⟩ := own3 OPk6.out
  obtain ⟨hQk60, hQk61, hQk62, _, _⟩ := own3 OQk6.out
  refine hK.out _ _ (⟨hTk60, hTk61, hTk62, hLk60, hLk61, hCk60, hCk61, hAk60, hAk61, hAk62, hBk60, hBk61, hBk62, hPk60, hPk61, hPk62, hQk60, hQk61, hQk62⟩) ?_
  clear hK K hHeld
  intro hHeld
  try simp only [Act.put, List.setIfInBounds_toArray, List.set_cons_zero, List.set_cons_succ]
  refine wpH_take (i := 37) (some 92) (v := ?x39v) rfl (by kernel_rfl) (by kernel_rfl) (by kernel_rfl) rfl (fun _ _ _ h => h) (Or.inl ⟨by rfl, ?x39y⟩) hHeld ?x39r
  case x39y => (intro w hSw; (try dsimp only at hSw); go_simp; try with_reducible rfl)
  try simp only [Act.put, List.setIfInBounds_toArray, List.set_cons_zero, List.set_cons_succ]
  refine wpH_take (i := 38) (some 93) (v := ?x40v) rfl (by kernel_rfl) (by kernel_rfl) (by kernel_rfl) rfl (fun _ _ _ h => h) (Or.inl ⟨by rfl, ?x40y⟩) hHeld ?x40r
  case x40y => (intro w hSw; (try dsimp only at hSw); go_simp; try with_reducible rfl)
  try simp only [Act.put, List.setIfInBounds_toArray, List.set_cons_zero, List.set_cons_succ]
  refine wpH_take (i := 39) (some 94) (v := ?x41v) rfl (by kernel_rfl) (by kernel_rfl) (by kernel_rfl) rfl (fun _ _ _ h => h) (Or.inl ⟨by rfl, ?x41y⟩) hHeld ?x41r
  case x41y => (intro w hSw; (try dsimp only at hSw); go_simp; try with_reducible rfl)
  try simp only [Act.put, List.setIfInBounds_toArray, List.set_cons_zero, List.set_cons_succ]
  refine wpH_take (i := 40) (some 95) (v := ?x42v) rfl (by kernel_rfl) (by kernel_rfl) (by kernel_rfl) rfl (fun _ _ _ h => h) (Or.inl ⟨by rfl, ?x42y⟩) hHeld ?x42r
  case x42y => (intro w hSw; (try dsimp only at hSw); go_simp; try with_reducible rfl)
  try simp only [Act.put, List.setIfInBounds_toArray, List.set_cons_zero, List.set_cons_succ]
  refine wpH_take (i := 41) (some 96) (v := ?x43v) rfl (by kernel_rfl) (by kernel_rfl) (by kernel_rfl) rfl (fun _ _ _ h => h) (Or.inl ⟨by rfl, ?x43y⟩) hHeld ?x43r
  case x43y => (intro w hSw; (try dsimp only at hSw); go_simp; try with_reducible rfl)
  try simp only [Act.put, List.setIfInBounds_toArray, List.set_cons_zero, List.set_cons_succ]
  refine wpH_take (i := 43) (some 98) (v := ?x44v) rfl (by kernel_rfl) (by kernel_rfl) (by kernel_rfl) rfl (fun _ _ _ h => h) (Or.inl ⟨by rfl, ?x44y⟩) hHeld ?x44r
  case x44y => (intro w hSw; (try dsimp only at hSw); go_simp; try with_reducible rfl)
  try simp only [Act.put, List.setIfInBounds_toArray, List.set_cons_zero, List.set_cons_succ]
  refine wpH_take (i := 44) (some 99) (v := ?x45v) rfl (by kernel_rfl) (by kernel_rfl) (by kernel_rfl) rfl (fun _ _ _ h => h) (Or.inl ⟨by rfl, ?x45y⟩) hHeld ?x45r
  case x45y => (intro w hSw; (try dsimp only at hSw); go_simp; try with_reducible rfl)
  try simp only [Act.put, List.setIfInBounds_toArray, List.set_cons_zero, List.set_cons_succ]
  refine wpH_one (i := 42) (by kernel_rfl) rfl (fun K hK => ?_)
  rw [if_pos (by rfl)]
  go_simp
  refine (drop_any _ _ _ us gs ks zs zo _ SUk6.out SGk6.out SAk6.out (by omega) (by omega) (by omega)).mono ?_
  rintro e wk7 ⟨vD1, vD2, vD3, rfl, z1, z2, z3, hbb⟩
  have DUk7 := Lib.hid (show SlU wk7 vD1 (us.filter (fun d => !(d.s == zs && d.o == zo))) from z1)
  obtain ⟨pvD1, nvD1, cvD1, f0⟩ := DUk7.out.slc
  subst f0
  have DGk7 := Lib.hid (show SlG wk7 vD2 (gs.filter (fun d => !(d.s == zs && d.o == zo))) from z2)
  obtain ⟨pvD2, nvD2, cvD2, f0⟩ := DGk7.out.slc
  subst f0
  have DAk7 := Lib.hid (show SlA wk7 vD3 (ks.filter (fun d => !(d.s == zs && d.o == zo))) from z3)
  obtain ⟨pvD3, nvD3, cvD3, f0⟩ := DAk7.out.slc
  subst f0
  have OTk7 := Lib.hid (OTk6.out.below hbb)
  have OLk7 := Lib.hid (OLk6.out.below hbb)
  have OXk7 := Lib.hid (OXk6.out.below hbb)
  have OYk7 := Lib.hid (OYk6.out.below hbb)
  have OCk7 := Lib.hid (OCk6.out.below hbb)
  have OAk7 := Lib.hid (OAk6.out.below hbb)
  have OBk7 := Lib.hid (OBk6.out.below hbb)
  have OPk7 := Lib.hid (OPk6.out.below hbb)
  have OQk7 := Lib.hid (OQk6.out.below hbb)
  have SUk7 := Lib.hid (SUk6.out.below hbb)
  have SGk7 := Lib.hid (SGk6.out.below hbb)
  have SAk7 := Lib.hid (SAk6.out.below hbb)
  have BBk7 := Lib.hid (belowTo BBk6.out hbb BBk6.out.size)
  clear hbb OTk6 OLk6 OXk6 OYk6 OCk6 OAk6 OBk6 OPk6 OQk6 SUk6 SGk6 SAk6 BBk6 hTk60 hTk61 hTk62 hLk60 hLk61 hXk60 hXk61 hXk62 hXk63 hYk60 hYk61 hYk62 hYk63 hYk64 hCk60 hCk61 hAk60 hAk61 hAk62 hBk60 hBk61 hBk62 hPk60 hPk61 hPk62 hQk60 hQk61 hQk62
  obtain ⟨hTk70, hTk71, hTk72, _, _⟩ := own3 OTk7.out
  obtain ⟨hLk70, hLk71, _, _⟩ := own2 OLk7.out
  obtain ⟨hXk70, hXk71, hXk72, hXk73, _, _⟩ := own4 OXk7.out
  obtain ⟨hYk70, hYk71, hYk72, hYk73, hYk74, _, _⟩ := own5 OYk7.out
  obtain ⟨hCk70, hCk71, _, _⟩ := own2 OCk7.out
  obtain ⟨hAk70, hAk71, hAk72, _, _⟩ := own3 OAk7.out
  obtain ⟨hBk70, hBk71, hBk72, _, _⟩ := own3 OBk7.out
  obtain ⟨hPk70, hPk71, hPk72, _, _⟩ := own3 OPk7.out
  obtain ⟨hQk70, hQk71, hQk72, _, _⟩ := own3 OQk7.out
  refine hK.out _ _ (⟨hTk70, hTk71, hTk72, hLk70, hLk71, hCk70, hCk71, hAk70, hAk71, hAk72, hBk70, hBk71, hBk72, hPk70, hPk71, hPk72, hQk70, hQk71, hQk72⟩) ?_
  clear hK K hHeld
  intro hHeld
  try simp only [Act.put, List.setIfInBounds_toArray, List.set_cons_zero, List.set_cons_succ]
  refine wpH_one (i := 45) (by kernel_rfl) rfl (fun K hK => ?_)
  rw [if_pos (by rfl)]
  go_simp
  refine (rdrop_any _ _ _ us gs ks zs zo _ SUk7.out SGk7.out SAk7.out (by omega) (by omega) (by omega)).mono ?_
  rintro e wk8 ⟨vK1, vK2, vK3, rfl, z1, z2, z3, hbb⟩
  have KUk8 := Lib.hid (show SlU wk8 vK1 (us.filter (fun d => !(d.s == zs && d.o == zo))) from z1)
  obtain ⟨pvK1, nvK1, cvK1, f0⟩ := KUk8.out.slc
  subst f0
  have KGk8 := Lib.hid (show SlG wk8 vK2 (gs.filter (fun d => !(d.s == zs && d.o == zo))) from z2)
  obtain ⟨pvK2, nvK2, cvK2, f0⟩ := KGk8.out.slc
  subst f0
  have KAk8 := Lib.hid (show SlA wk8 vK3 (ks.filter (fun d => !(d.s == zs && d.o == zo))) from z3)
  obtain ⟨pvK3, nvK3, cvK3, f0⟩ := KAk8.out.slc
  subst f0
  have OTk8 := Lib.hid (OTk7.out.below hbb)
  have OLk8 := Lib.hid (OLk7.out.below hbb)
  have OXk8 := Lib.hid (OXk7.out.below hbb)
  have OYk8 := Lib.hid (OYk7.out.below hbb)
  have OCk8 := Lib.hid (OCk7.out.below hbb)
  have OAk8 := Lib.hid (OAk7.out.below hbb)
  have OBk8 := Lib.hid (OBk7.out.below hbb)
  have OPk8 := Lib.hid (OPk7.out.below hbb)
  have OQk8 := Lib.hid (OQk7.out.below hbb)
  have SUk8 := Lib.hid (SUk7.out.below hbb)
  have SGk8 := Lib.hid (SGk7.out.below hbb)
  have SAk8 := Lib.hid (SAk7.out.below hbb)
  have DUk8 := Lib.hid (DUk7.out.below hbb)
  have DGk8 := Lib.hid (DGk7.out.below hbb)
  have DAk8 := Lib.hid (DAk7.out.below hbb)
  have BBk8 := Lib.hid (belowTo BBk7.out hbb BBk7.out.size)
  clear hbb OTk7 OLk7 OXk7 OYk7 OCk7 OAk7 OBk7 OPk7 OQk7 SUk7 SGk7 SAk7 DUk7 DGk7 DAk7 BBk7 hTk70 hTk71 hTk72 hLk70 hLk71 hXk70 hXk71 hXk72 hXk73 hYk70 hYk71 hYk72 hYk73 hYk74 hCk70 hCk71 hAk70 hAk71 hAk72 hBk70 hBk71 hBk72 hPk70 hPk71 hPk72 hQk70 hQk71 hQk72
  obtain ⟨hTk80, hTk81, hTk82, _, _⟩ := own3 OTk8.out
  obtain ⟨hLk80, hLk81, _, _⟩ := own2 OLk8.out
  obtain ⟨hXk80, hXk81, hXk82, hXk83, _, _⟩ := own4 OXk8.out
  obtain ⟨hYk80, hYk81, hYk82, hYk83, hYk84, _, _⟩ := own5 OYk8.out
  obtain ⟨hCk80, hCk81, _, _⟩ := own2 OCk8.out
  obtain ⟨hAk80, hAk81, hAk82, _, _⟩ := own3 OAk8.out
  obtain ⟨hBk80, hBk81, hBk82, _, _⟩ := own3 OBk8.out
  obtain ⟨hPk80, hPk81, hPk82, _, _⟩ := own3 OPk8.out
  obtain ⟨hQk80, hQk81, hQk82, _, _⟩ := own3 OQk8.out
  refine hK.out _ _ (⟨hTk80, hTk81, hTk82, hLk80, hLk81, hCk80, hCk81, hAk80, hAk81, hAk82, hBk80, hBk81, hBk82, hPk80, hPk81, hPk82, hQk80, hQk81, hQk82⟩) ?_
  clear hK K hHeld
  intro hHeld
  try simp only [Act.put, List.setIfInBounds_toArray, List.set_cons_zero, List.set_cons_succ]
  refine wpH_one (i := 46) (by kernel_rfl) rfl (fun K hK => ?_)
  rw [if_pos (by rfl)]
  go_simp
  refine (same_lit _ _ _ _ _ _ (us.filter (fun d => !(d.s == zs && d.o == zo))) (us.filter (fun d => !(d.s == zs && d.o == zo))) (gs.filter (fun d => !(d.s == zs && d.o == zo))) (gs.filter (fun d => !(d.s == zs && d.o == zo))) (ks.filter (fun d => !(d.s == zs && d.o == zo))) (ks.filter (fun d => !(d.s == zs && d.o == zo))) _ DUk8.out DGk8.out DAk8.out KUk8.out KGk8.out KAk8.out (by have := List.length_filter_le (fun d : Us => !(d.s == zs && d.o == zo)) us; omega) (by have := List.length_filter_le (fun d : Gr => !(d.s == zs && d.o == zo)) gs; omega) (by have := List.length_filter_le (fun d : Ak => !(d.s == zs && d.o == zo)) ks; omega) true samT_rfl).mono ?_
  rintro e wk9 ⟨rfl, hbb⟩
  have OTk9 := Lib.hid (OTk8.out.below hbb)
  have OLk9 := Lib.hid (OLk8.out.below hbb)
  have OXk9 := Lib.hid (OXk8.out.below hbb)
  have OYk9 := Lib.hid (OYk8.out.below hbb)
  have OCk9 := Lib.hid (OCk8.out.below hbb)
  have OAk9 := Lib.hid (OAk8.out.below hbb)
  have OBk9 := Lib.hid (OBk8.out.below hbb)
  have OPk9 := Lib.hid (OPk8.out.below hbb)
  have OQk9 := Lib.hid (OQk8.out.below hbb)
  have SUk9 := Lib.hid (SUk8.out.below hbb)
  have SGk9 := Lib.hid (SGk8.out.below hbb)
  have SAk9 := Lib.hid (SAk8.out.below hbb)
  have BBk9 := Lib.hid (belowTo BBk8.out hbb BBk8.out.size)
  clear hbb OTk8 OLk8 OXk8 OYk8 OCk8 OAk8 OBk8 OPk8 OQk8 SUk8 SGk8 SAk8 DUk8 DGk8 DAk8 KUk8 KGk8 KAk8 BBk8 hTk80 hTk81 hTk82 hLk80 hLk81 hXk80 hXk81 hXk82 hXk83 hYk80 hYk81 hYk82 hYk83 hYk84 hCk80 hCk81 hAk80 hAk81 hAk82 hBk80 hBk81 hBk82 hPk80 hPk81 hPk82 hQk80 hQk81 hQk82
  obtain ⟨hTk90, hTk91, hTk92, _, _⟩ := own3 OTk9.out
  obtain ⟨hLk90, hLk91, _, _⟩ := own2 OLk9.out
  obtain ⟨hXk90, hXk91, hXk92, hXk93, _, _⟩ := own4 OXk9.out
  obtain ⟨hYk90, hYk91, hYk92, hYk93, hYk94, _, _⟩ := own5 OYk9.out
  obtain ⟨hCk90, hCk91, _, _⟩ := own2 OCk9.out
  obtain ⟨hAk90, hAk91, hAk92, _, _⟩ := own3 OAk9.out
  obtain ⟨hBk90, hBk91, hBk92, _, _⟩ := own3 OBk9.out
  obtain ⟨hPk90, hPk91, hPk92, _, _⟩ := own3 OPk9.out
  obtain ⟨hQk90, hQk91, hQk92, _, _⟩ := own3 OQk9.out
  refine hK.out _ _ (⟨hTk90, hTk91, hTk92, hLk90, hLk91, hCk90, hCk91, hAk90, hAk91, hAk92, hBk90, hBk91, hBk92, hPk90, hPk91, hPk92, hQk90, hQk91, hQk92⟩) ?_
  clear hK K hHeld
  intro hHeld
  try simp only [Act.put, List.setIfInBounds_toArray, List.set_cons_zero, List.set_cons_succ]
  refine wpH_take (i := 47) (some 102) (v := ?x49v) rfl (by kernel_rfl) (by kernel_rfl) (by kernel_rfl) rfl (fun _ _ _ h => h) (Or.inl ⟨by rfl, ?x49y⟩) hHeld ?x49r
  case x49y => (intro w hSw; (try dsimp only at hSw); go_simp; try with_reducible rfl)
  try simp only [Act.put, List.setIfInBounds_toArray, List.set_cons_zero, List.set_cons_succ]
  refine wpH_take (i := 48) (some 103) (v := ?x50v) rfl (by kernel_rfl) (by kernel_rfl) (by kernel_rfl) rfl (fun _ _ _ h => h) (Or.inl ⟨by rfl, ?x50y⟩) hHeld ?x50r
  case x50y => (intro w hSw; (try dsimp only at hSw); go_simp; try with_reducible rfl)
  try simp only [Act.put, List.setIfInBounds_toArray, List.set_cons_zero, List.set_cons_succ]
  refine wpH_take (i := 49) (some 104) (v := ?x51v) rfl (by kernel_rfl) (by kernel_rfl) (by kernel_rfl) rfl (fun _ _ _ h => h) (Or.inl ⟨by rfl, ?x51y⟩) hHeld ?x51r
  case x51y => (intro w hSw; (try dsimp only at hSw); go_simp; try with_reducible rfl)
  try simp only [Act.put, List.setIfInBounds_toArray, List.set_cons_zero, List.set_cons_succ]
  refine wpH_take (i := 50) (some 105) (v := ?x52v) rfl (by kernel_rfl) (by kernel_rfl) (by kernel_rfl) rfl (fun _ _ _ h => h) (Or.inl ⟨by rfl, ?x52y⟩) hHeld ?x52r
  case x52y => (intro w hSw; (try dsimp only at hSw); go_simp; try with_reducible rfl)
  try simp only [Act.put, List.setIfInBounds_toArray, List.set_cons_zero, List.set_cons_succ]
  refine wpH_take (i := 52) (some 107) (v := ?x53v) rfl (by kernel_rfl) (by kernel_rfl) (by kernel_rfl) rfl (fun _ _ _ h => h) (Or.inl ⟨by rfl, ?x53y⟩) hHeld ?x53r
  case x53y => (intro w hSw; (try dsimp only at hSw); go_simp; try with_reducible rfl)
  try simp only [Act.put, List.setIfInBounds_toArray, List.set_cons_zero, List.set_cons_succ]
  refine wpH_take (i := 53) (some 108) (v := ?x54v) rfl (by kernel_rfl) (by kernel_rfl) (by kernel_rfl) rfl (fun _ _ _ h => h) (Or.inl ⟨by rfl, ?x54y⟩) hHeld ?x54r
  case x54y => (intro w hSw; (try dsimp only at hSw); go_simp; try with_reducible rfl)
  try simp only [Act.put, List.setIfInBounds_toArray, List.set_cons_zero, List.set_cons_succ]
  refine wpH_one (i := 51) (by kernel_rfl) rfl (fun K hK => ?_)
  rw [if_pos (by rfl)]
  go_simp
  refine (exp_any _ _ _ us gs ks n _ SUk9.out SGk9.out SAk9.out (by omega) (by omega) (by omega)).mono ?_
  rintro e wk10 ⟨vM1, vM2, vM3, rfl, z1, z2, z3, hbb⟩
  have MUk10 := Lib.hid (show SlU wk10 vM1 us from z1)
  obtain ⟨pvM1, nvM1, cvM1, f0⟩ := MUk10.out.slc
  subst f0
  have MGk10 := Lib.hid (show SlG wk10 vM2 (gs.filter (fun d => !decide (d.u < n))) from z2)
  obtain ⟨pvM2, nvM2, cvM2, f0⟩ := MGk10.out.slc
  subst f0
  have MAk10 := Lib.hid (show SlA wk10 vM3 ks from z3)
  obtain ⟨pvM3, nvM3, cvM3, f0⟩ := MAk10.out.slc
  subst f0
  have OTk10 := Lib.hid (OTk9.out.below hbb)
  have OLk10 := Lib.hid (OLk9.out.below hbb)
  have OXk10 := Lib.hid (OXk9.out.below hbb)
  have OYk10 := Lib.hid (OYk9.out.below hbb)
  have OCk10 := Lib.hid (OCk9.out.below hbb)
  have OAk10 := Lib.hid (OAk9.out.below hbb)
  have OBk10 := Lib.hid (OBk9.out.below hbb)
  have OPk10 := Lib.hid (OPk9.out.below hbb)
  have OQk10 := Lib.hid (OQk9.out.below hbb)
  have SUk10 := Lib.hid (SUk9.out.below hbb)
  have SGk10 := Lib.hid (SGk9.out.below hbb)
  have SAk10 := Lib.hid (SAk9.out.below hbb)
  have BBk10 := Lib.hid (belowTo BBk9.out hbb BBk9.out.size)
  clear hbb OTk9 OLk9 OXk9 OYk9 OCk9 OAk9 OBk9 OPk9 OQk9 SUk9 SGk9 SAk9 BBk9 hTk90 hTk91 hTk92 hLk90 hLk91 hXk90 hXk91 hXk92 hXk93 hYk90 hYk91 hYk92 hYk93 hYk94 hCk90 hCk91 hAk90 hAk91 hAk92 hBk90 hBk91 hBk92 hPk90 hPk91 hPk92 hQk90 hQk91 hQk92
  obtain ⟨hTk100, hTk101, hTk102, _, _⟩ := own3 OTk10.out
  obtain ⟨hLk100, hLk101, _, _⟩ := own2 OLk10.out
  obtain ⟨hXk100, hXk101, hXk102, hXk103, _, _⟩ := own4 OXk10.out
  obtain ⟨hYk100, hYk101, hYk102, hYk103, hYk104, _, _⟩ := own5 OYk10.out
  obtain ⟨hCk100, hCk101, _, _⟩ := own2 OCk10.out
  obtain ⟨hAk100, hAk101, hAk102, _, _⟩ := own3 OAk10.out
  obtain ⟨hBk100, hBk101, hBk102, _, _⟩ := own3 OBk10.out
  obtain ⟨hPk100, hPk101, hPk102, _, _⟩ := own3 OPk10.out
  obtain ⟨hQk100, hQk101, hQk102, _, _⟩ := own3 OQk10.out
  refine hK.out _ _ (⟨hTk100, hTk101, hTk102, hLk100, hLk101, hCk100, hCk101, hAk100, hAk101, hAk102, hBk100, hBk101, hBk102, hPk100, hPk101, hPk102, hQk100, hQk101, hQk102⟩) ?_
  clear hK K hHeld
  intro hHeld
  try simp only [Act.put, List.setIfInBounds_toArray, List.set_cons_zero, List.set_cons_succ]
  refine wpH_one (i := 54) (by kernel_rfl) rfl (fun K hK => ?_)
  rw [if_pos (by rfl)]
  go_simp
  refine (rexp_any _ _ _ us gs ks n _ SUk10.out SGk10.out SAk10.out (by omega) (by omega) (by omega)).mono ?_
  rintro e wk11 ⟨vH1, vH2, vH3, rfl, z1, z2, z3, hbb⟩
  have HUk11 := Lib.hid (show SlU wk11 vH1 us from z1)
  obtain ⟨pvH1, nvH1, cvH1, f0⟩ := HUk11.out.slc
  subst f0
  have HGk11 := Lib.hid (show SlG wk11 vH2 (gs.filter (fun d => !decide (d.u < n))) from z2)
  obtain ⟨pvH2, nvH2, cvH2, f0⟩ := HGk11.out.slc
  subst f0
  have HAk11 := Lib.hid (show SlA wk11 vH3 ks from z3)
  obtain ⟨pvH3, nvH3, cvH3, f0⟩ := HAk11.out.slc
  subst f0
  have OTk11 := Lib.hid (OTk10.out.below hbb)
  have OLk11 := Lib.hid (OLk10.out.below hbb)
  have OXk11 := Lib.hid (OXk10.out.below hbb)
  have OYk11 := Lib.hid (OYk10.out.below hbb)
  have OCk11 := Lib.hid (OCk10.out.below hbb)
  have OAk11 := Lib.hid (OAk10.out.below hbb)
  have OBk11 := Lib.hid (OBk10.out.below hbb)
  have OPk11 := Lib.hid (OPk10.out.below hbb)
  have OQk11 := Lib.hid (OQk10.out.below hbb)
  have SUk11 := Lib.hid (SUk10.out.below hbb)
  have SGk11 := Lib.hid (SGk10.out.below hbb)
  have SAk11 := Lib.hid (SAk10.out.below hbb)
  have MUk11 := Lib.hid (MUk10.out.below hbb)
  have MGk11 := Lib.hid (MGk10.out.below hbb)
  have MAk11 := Lib.hid (MAk10.out.below hbb)
  have BBk11 := Lib.hid (belowTo BBk10.out hbb BBk10.out.size)
  clear hbb OTk10 OLk10 OXk10 OYk10 OCk10 OAk10 OBk10 OPk10 OQk10 SUk10 SGk10 SAk10 MUk10 MGk10 MAk10 BBk10 hTk100 hTk101 hTk102 hLk100 hLk101 hXk100 hXk101 hXk102 hXk103 hYk100 hYk101 hYk102 hYk103 hYk104 hCk100 hCk101 hAk100 hAk101 hAk102 hBk100 hBk101 hBk102 hPk100 hPk101 hPk102 hQk100 hQk101 hQk102
  obtain ⟨hTk110, hTk111, hTk112, _, _⟩ := own3 OTk11.out
  obtain ⟨hLk110, hLk111, _, _⟩ := own2 OLk11.out
  obtain ⟨hXk110, hXk111, hXk112, hXk113, _, _⟩ := own4 OXk11.out
  obtain ⟨hYk110, hYk111, hYk112, hYk113, hYk114, _, _⟩ := own5 OYk11.out
  obtain ⟨hCk110, hCk111, _, _⟩ := own2 OCk11.out
  obtain ⟨hAk110, hAk111, hAk112, _, _⟩ := own3 OAk11.out
  obtain ⟨hBk110, hBk111, hBk112, _, _⟩ := own3 OBk11.out
  obtain ⟨hPk110, hPk111, hPk112, _, _⟩ := own3 OPk11.out
  obtain ⟨hQk110, hQk111, hQk112, _, _⟩ := own3 OQk11.out
  refine hK.out _ _ (⟨hTk110, hTk111, hTk112, hLk110, hLk111, hCk110, hCk111, hAk110, hAk111, hAk112, hBk110, hBk111, hBk112, hPk110, hPk111, hPk112, hQk110, hQk111, hQk112⟩) ?_
  clear hK K hHeld
  intro hHeld
  try simp only [Act.put, List.setIfInBounds_toArray, List.set_cons_zero, List.set_cons_succ]
  refine wpH_one (i := 55) (by kernel_rfl) rfl (fun K hK => ?_)
  rw [if_pos (by rfl)]
  go_simp
  refine (same_lit _ _ _ _ _ _ us us (gs.filter (fun d => !decide (d.u < n))) (gs.filter (fun d => !decide (d.u < n))) ks ks _ MUk11.out MGk11.out MAk11.out HUk11.out HGk11.out HAk11.out (by omega) (by have := List.length_filter_le (fun d : Gr => !decide (d.u < n)) gs; omega) (by omega) true samT_rfl).mono ?_
  rintro e wk12 ⟨rfl, hbb⟩
  have OTk12 := Lib.hid (OTk11.out.below hbb)
  have OLk12 := Lib.hid (OLk11.out.below hbb)
  have OXk12 := Lib.hid (OXk11.out.below hbb)
  have OYk12 := Lib.hid (OYk11.out.below hbb)
  have OCk12 := Lib.hid (OCk11.out.below hbb)
  have OAk12 := Lib.hid (OAk11.out.below hbb)
  have OBk12 := Lib.hid (OBk11.out.below hbb)
  have OPk12 := Lib.hid (OPk11.out.below hbb)
  have OQk12 := Lib.hid (OQk11.out.below hbb)
  have SUk12 := Lib.hid (SUk11.out.below hbb)
  have SGk12 := Lib.hid (SGk11.out.below hbb)
  have SAk12 := Lib.hid (SAk11.out.below hbb)
  have BBk12 := Lib.hid (belowTo BBk11.out hbb BBk11.out.size)
  clear hbb OTk11 OLk11 OXk11 OYk11 OCk11 OAk11 OBk11 OPk11 OQk11 SUk11 SGk11 SAk11 MUk11 MGk11 MAk11 HUk11 HGk11 HAk11 BBk11 hTk110 hTk111 hTk112 hLk110 hLk111 hXk110 hXk111 hXk112 hXk113 hYk110 hYk111 hYk112 hYk113 hYk114 hCk110 hCk111 hAk110 hAk111 hAk112 hBk110 hBk111 hBk112 hPk110 hPk111 hPk112 hQk110 hQk111 hQk112
  obtain ⟨hTk120, hTk121, hTk122, _, _⟩ := own3 OTk12.out
  obtain ⟨hLk120, hLk121, _, _⟩ := own2 OLk12.out
  obtain ⟨hXk120, hXk121, hXk122, hXk123, _, _⟩ := own4 OXk12.out
  obtain ⟨hYk120, hYk121, hYk122, hYk123, hYk124, _, _⟩ := own5 OYk12.out
  obtain ⟨hCk120, hCk121, _, _⟩ := own2 OCk12.out
  obtain ⟨hAk120, hAk121, hAk122, _, _⟩ := own3 OAk12.out
  obtain ⟨hBk120, hBk121, hBk122, _, _⟩ := own3 OBk12.out
  obtain ⟨hPk120, hPk121, hPk122, _, _⟩ := own3 OPk12.out
  obtain ⟨hQk120, hQk121, hQk122, _, _⟩ := own3 OQk12.out
  refine hK.out _ _ (⟨hTk120, hTk121, hTk122, hLk120, hLk121, hCk120, hCk121, hAk120, hAk121, hAk122, hBk120, hBk121, hBk122, hPk120, hPk121, hPk122, hQk120, hQk121, hQk122⟩) ?_
  clear hK K hHeld
  intro hHeld
  try simp only [Act.put, List.setIfInBounds_toArray, List.set_cons_zero, List.set_cons_succ]
  refine wpH_take (i := 56) (some 111) (v := ?x58v) rfl (by kernel_rfl) (by kernel_rfl) (by kernel_rfl) rfl (fun _ _ _ h => h) (Or.inl ⟨by rfl, ?x58y⟩) hHeld ?x58r
  case x58y => (intro w hSw; (try dsimp only at hSw); go_simp; try with_reducible rfl)
  try simp only [Act.put, List.setIfInBounds_toArray, List.set_cons_zero, List.set_cons_succ]
  refine wpH_take (i := 57) (some 12) (v := ?x59v) rfl (by kernel_rfl) (by kernel_rfl) (by kernel_rfl) rfl (fun _ _ _ h => h) (Or.inl ⟨by rfl, ?x59y⟩) hHeld ?x59r
  case x59y => (intro w hSw; (try dsimp only at hSw); go_simp; try with_reducible rfl)
  try simp only [Act.put, List.setIfInBounds_toArray, List.set_cons_zero, List.set_cons_succ]
  refine wpAnyH_done (by kernel_rfl) ?_ _
  have oT := OTk12.out
  have oL := OLk12.out
  have oX := OXk12.out
  have oY := OYk12.out
  have oC := OCk12.out
  have oA := OAk12.out
  have oB := OBk12.out
  have oP := OPk12.out
  have oQ := OQk12.out
  have bel := BBk12.out
  have SU := SUk12
  have SG := SGk12
  have SA := SAk12
  clear OTk12 OLk12 OXk12 OYk12 OCk12 OAk12 OBk12 OPk12 OQk12 BBk12 SUk12 SGk12 SAk12 hTk120 hTk121 hTk122 hLk120 hLk121 hXk120 hXk121 hXk122 hXk123 hYk120 hYk121 hYk122 hYk123 hYk124 hCk120 hCk121 hAk120 hAk121 hAk122 hBk120 hBk121 hBk122 hPk120 hPk121 hPk122 hQk120 hQk121 hQk122
  obtain ⟨cT0, cT1, cT2, fT, zT⟩ := own3 oT
  obtain ⟨cL0, cL1, fL, zL⟩ := own2 oL
  obtain ⟨cX0, cX1, cX2, cX3, fX, zX⟩ := own4 oX
  obtain ⟨cY0, cY1, cY2, cY3, cY4, fY, zY⟩ := own5 oY
  obtain ⟨cC0, cC1, fC, zC⟩ := own2 oC
  obtain ⟨cA0, cA1, cA2, fA, zA⟩ := own3 oA
  obtain ⟨cB0, cB1, cB2, fB, zB⟩ := own3 oB
  obtain ⟨cP0, cP1, cP2, fP, zP⟩ := own3 oP
  obtain ⟨cQ0, cQ1, cQ2, fQ, zQ⟩ := own3 oQ
  go_wp2_with fail
  go_ret
  exact ⟨rfl, bel⟩

theorem cellsMatchesReference_walk (vu vg va : Value) (us : List Us) (gs : List Gr) (ks : List Ak) (N D : Int) (s o p m : Int) (s2 o2 p2 m2 u2 : Int) (zs zo n : Int) (w : World) (su : SlU w vu us) (sg : SlG w vg gs) (sa : SlA w va ks) {q1 q2 q3 q4 q5 q6 q7 q8 q9 q10 q11 q12 q13 q14 : Prop} (_ : q1) (_ : q2) (_ : q3) (_ : q4) (_ : q5) (_ : q6) (_ : q7) (_ : q8) (_ : q9) (_ : q10) (_ : q11) (_ : q12) (_ : q13) (_ : q14) : Calls Try.prog 3 #[.agg #[vu, vg, va], .agg #[.int .i64 N, .int .i64 D], .agg #[.int .i64 s, .int .i64 o, .int .i64 p, .int .i64 m], .agg #[.int .i64 s2, .int .i64 o2, .int .i64 p2, .int .i64 m2, .int .i64 u2], .agg #[.int .i64 zs, .int .i64 zo], .int .i64 n] w fun e w' => e = .returned (.bool true) ∧ Below w.heap.size w w' := by
  cases hf : fewB us gs ks with
  | false => exact matches_few vu vg va us gs ks N D ⟨s, o, p, m⟩ ⟨s2, o2, p2, m2, u2⟩ zs zo n w su sg sa hf
  | true => exact matches_go vu vg va us gs ks N D ⟨s, o, p, m⟩ ⟨s2, o2, p2, m2, u2⟩ zs zo n w su sg sa hf _ _ _ _ rfl rfl rfl rfl

end Go.Proofs.Ytdmadnoijhmbcaa

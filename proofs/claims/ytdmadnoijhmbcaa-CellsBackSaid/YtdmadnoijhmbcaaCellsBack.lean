/- The walk of CellsBack. -/
import Derived.Test.YtdmadnoijhmbcaaHead12
import Derived.Test.YtdmadnoijhmbcaaRVld12
import Derived.Test.YtdmadnoijhmbcaaLaw12p
import Derived.Test.YtdmadnoijhmbcaaOpen12
namespace Go.Proofs.Ytdmadnoijhmbcaa
open Go.RowKit

set_option linter.unusedSimpArgs false in
set_option linter.unusedVariables false in
set_option maxRecDepth 100000 in
set_option maxHeartbeats 2000000 in
theorem back_few (vu vg va : Value) (us : List Us) (gs : List Gr) (ks : List Ak) (N D : Int) (x : Gr) (w : World) (su : SlU w vu us) (sg : SlG w vg gs) (sa : SlA w va ks) (hf : fewB us gs ks = false) : Calls Try.prog 7 #[.agg #[vu, vg, va], .agg #[.int .i64 N, .int .i64 D], .agg #[.int .i64 x.s, .int .i64 x.o, .int .i64 x.p, .int .i64 x.m, .int .i64 x.u]] w fun e w' => e = .returned (.bool true) ∧ Below w.heap.size w w' := by
  obtain ⟨pu, cu, e0, hlu, hcu, _⟩ := su.form us.length rfl
  subst e0
  obtain ⟨pg, cg, e0, hlg, hcg, _⟩ := sg.form gs.length rfl
  subst e0
  obtain ⟨pa, ca, e0, hla, hca, _⟩ := sa.form ks.length rfl
  subst e0
  have SU := Lib.hid su
  have SG := Lib.hid sg
  have SA := Lib.hid sa
  clear su sg sa
  have HF := Lib.hid hf
  clear hf
  go_enter Try.func7, Try.ntmps7
  go_wp2_with fail
  refine (head_true _).mono ?_
  rintro e w1 ⟨rfl, hb⟩
  replace SU := Lib.hid ((((SU.out.below (belowNew _ _)).below (belowNew _ _)).below (belowNew _ _)).below hb)
  replace SG := Lib.hid ((((SG.out.below (belowNew _ _)).below (belowNew _ _)).below (belowNew _ _)).below hb)
  replace SA := Lib.hid ((((SA.out.below (belowNew _ _)).below (belowNew _ _)).below (belowNew _ _)).below hb)
  have oT : Own w1 w.heap.size [.slice pu us.length cu, .slice pg gs.length cg, .slice pa ks.length ca] 26 := (((own_at _ _ rfl).alloc _).alloc _).below hb
  have oL : Own w1 (w.heap.size + 1) [.int .i64 N, .int .i64 D] 28 := ((own_at _ _ (by simp)).alloc _).below hb
  have oX : Own w1 (w.heap.size + 1 + 1) [.int .i64 x.s, .int .i64 x.o, .int .i64 x.p, .int .i64 x.m, .int .i64 x.u] 34 := (own_at _ _ (by simp)).below hb
  have bel := belowTo ((((Below.refl w.heap.size w).alloc (by simp) _).alloc (by simp) _).alloc (by simp; omega) _) hb (by simp; omega)
  clear hb
  obtain ⟨cT0, cT1, cT2, fT, zT⟩ := own3 oT
  obtain ⟨cL0, cL1, fL, zL⟩ := own2 oL
  obtain ⟨cX0, cX1, cX2, cX3, cX4, fX, zX⟩ := own5 oX
  go_wp2_with fail
  refine (few_lit _ _ _ us gs ks _ SU.out SG.out SA.out false HF.out).mono ?_
  rintro e w2 ⟨rfl, hb⟩
  replace oT := oT.below hb
  replace oL := oL.below hb
  replace oX := oX.below hb
  replace SU := Lib.hid (SU.out.below hb)
  replace SG := Lib.hid (SG.out.below hb)
  replace SA := Lib.hid (SA.out.below hb)
  replace bel := belowTo bel hb (by exact bel.size)
  clear hb
  clear cT0 cT1 cT2 fT zT cL0 cL1 fL zL cX0 cX1 cX2 cX3 cX4 fX zX
  obtain ⟨cT0, cT1, cT2, fT, zT⟩ := own3 oT
  obtain ⟨cL0, cL1, fL, zL⟩ := own2 oL
  obtain ⟨cX0, cX1, cX2, cX3, cX4, fX, zX⟩ := own5 oX
  go_wp2_with fail
  go_ret
  exact ⟨rfl, bel⟩

set_option linter.unusedSimpArgs false in
set_option linter.unusedVariables false in
set_option maxRecDepth 100000 in
set_option maxHeartbeats 2000000 in
theorem back_bad (vu vg va : Value) (us : List Us) (gs : List Gr) (ks : List Ak) (N D : Int) (x : Gr) (w : World) (su : SlU w vu us) (sg : SlG w vg gs) (sa : SlA w va ks) (hf : fewB us gs ks = true) (hv : vldT N D us gs ks = false) : Calls Try.prog 7 #[.agg #[vu, vg, va], .agg #[.int .i64 N, .int .i64 D], .agg #[.int .i64 x.s, .int .i64 x.o, .int .i64 x.p, .int .i64 x.m, .int .i64 x.u]] w fun e w' => e = .returned (.bool true) ∧ Below w.heap.size w w' := by
  have u70 : us.length ≤ 70 := (fewB_iff.1 hf).1
  have g70 : gs.length ≤ 70 := (fewB_iff.1 hf).2.1
  have k70 : ks.length ≤ 70 := (fewB_iff.1 hf).2.2
  obtain ⟨pu, cu, e0, hlu, hcu, _⟩ := su.form us.length rfl
  subst e0
  obtain ⟨pg, cg, e0, hlg, hcg, _⟩ := sg.form gs.length rfl
  subst e0
  obtain ⟨pa, ca, e0, hla, hca, _⟩ := sa.form ks.length rfl
  subst e0
  have SU := Lib.hid su
  have SG := Lib.hid sg
  have SA := Lib.hid sa
  clear su sg sa
  have HF := Lib.hid hf
  have HV := Lib.hid hv
  clear hf hv
  go_enter Try.func7, Try.ntmps7
  go_wp2_with fail
  refine (head_true _).mono ?_
  rintro e w1 ⟨rfl, hb⟩
  replace SU := Lib.hid ((((SU.out.below (belowNew _ _)).below (belowNew _ _)).below (belowNew _ _)).below hb)
  replace SG := Lib.hid ((((SG.out.below (belowNew _ _)).below (belowNew _ _)).below (belowNew _ _)).below hb)
  replace SA := Lib.hid ((((SA.out.below (belowNew _ _)).below (belowNew _ _)).below (belowNew _ _)).below hb)
  have oT : Own w1 w.heap.size [.slice pu us.length cu, .slice pg gs.length cg, .slice pa ks.length ca] 26 := (((own_at _ _ rfl).alloc _).alloc _).below hb
  have oL : Own w1 (w.heap.size + 1) [.int .i64 N, .int .i64 D] 28 := ((own_at _ _ (by simp)).alloc _).below hb
  have oX : Own w1 (w.heap.size + 1 + 1) [.int .i64 x.s, .int .i64 x.o, .int .i64 x.p, .int .i64 x.m, .int .i64 x.u] 34 := (own_at _ _ (by simp)).below hb
  have bel := belowTo ((((Below.refl w.heap.size w).alloc (by simp) _).alloc (by simp) _).alloc (by simp; omega) _) hb (by simp; omega)
  clear hb
  obtain ⟨cT0, cT1, cT2, fT, zT⟩ := own3 oT
  obtain ⟨cL0, cL1, fL, zL⟩ := own2 oL
  obtain ⟨cX0, cX1, cX2, cX3, cX4, fX, zX⟩ := own5 oX
  go_wp2_with fail
  refine (few_lit _ _ _ us gs ks _ SU.out SG.out SA.out true HF.out).mono ?_
  rintro e w2 ⟨rfl, hb⟩
  replace oT := oT.below hb
  replace oL := oL.below hb
  replace oX := oX.below hb
  replace SU := Lib.hid (SU.out.below hb)
  replace SG := Lib.hid (SG.out.below hb)
  replace SA := Lib.hid (SA.out.below hb)
  replace bel := belowTo bel hb (by exact bel.size)
  clear hb
  clear cT0 cT1 cT2 fT zT cL0 cL1 fL zL cX0 cX1 cX2 cX3 cX4 fX zX
  obtain ⟨cT0, cT1, cT2, fT, zT⟩ := own3 oT
  obtain ⟨cL0, cL1, fL, zL⟩ := own2 oL
  obtain ⟨cX0, cX1, cX2, cX3, cX4, fX, zX⟩ := own5 oX
  go_wp2_with fail
  refine (rvalid_lit _ _ _ us gs ks N D _ SU.out SG.out SA.out (by omega) (by omega) (by omega) false HV.out).mono ?_
  rintro e w3 ⟨rfl, hb⟩
  replace oT := oT.below hb
  replace oL := oL.below hb
  replace oX := oX.below hb
  replace SU := Lib.hid (SU.out.below hb)
  replace SG := Lib.hid (SG.out.below hb)
  replace SA := Lib.hid (SA.out.below hb)
  replace bel := belowTo bel hb (by exact bel.size)
  clear hb
  clear cT0 cT1 cT2 fT zT cL0 cL1 fL zL cX0 cX1 cX2 cX3 cX4 fX zX
  obtain ⟨cT0, cT1, cT2, fT, zT⟩ := own3 oT
  obtain ⟨cL0, cL1, fL, zL⟩ := own2 oL
  obtain ⟨cX0, cX1, cX2, cX3, cX4, fX, zX⟩ := own5 oX
  go_wp2_with fail
  go_ret
  exact ⟨rfl, bel⟩

set_option linter.unusedSimpArgs false in
set_option linter.unusedVariables false in
set_option maxRecDepth 100000 in
set_option maxHeartbeats 2000000 in
theorem back_ask (vu vg va : Value) (us : List Us) (gs : List Gr) (ks : List Ak) (N D : Int) (x : Gr) (w : World) (su : SlU w vu us) (sg : SlG w vg gs) (sa : SlA w va ks) (hf : fewB us gs ks = true) (hv : vldT N D us gs ks = true) (ha : ks.any (fun d => d.s == x.s) = true) : Calls Try.prog 7 #[.agg #[vu, vg, va], .agg #[.int .i64 N, .int .i64 D], .agg #[.int .i64 x.s, .int .i64 x.o, .int .i64 x.p, .int .i64 x.m, .int .i64 x.u]] w fun e w' => e = .returned (.bool true) ∧ Below w.heap.size w w' := by
  have u70 : us.length ≤ 70 := (fewB_iff.1 hf).1
  have g70 : gs.length ≤ 70 := (fewB_iff.1 hf).2.1
  have k70 : ks.length ≤ 70 := (fewB_iff.1 hf).2.2
  obtain ⟨pu, cu, e0, hlu, hcu, _⟩ := su.form us.length rfl
  subst e0
  obtain ⟨pg, cg, e0, hlg, hcg, _⟩ := sg.form gs.length rfl
  subst e0
  obtain ⟨pa, ca, e0, hla, hca, _⟩ := sa.form ks.length rfl
  subst e0
  have SU := Lib.hid su
  have SG := Lib.hid sg
  have SA := Lib.hid sa
  clear su sg sa
  have iu0 : (0 : Int) ≤ (us.length : Int) := Int.natCast_nonneg _
  have ig0 : (0 : Int) ≤ (gs.length : Int) := Int.natCast_nonneg _
  have ia0 : (0 : Int) ≤ (ks.length : Int) := Int.natCast_nonneg _
  have iu : (us.length : Int) ≤ 70 := by omega
  have ig : (gs.length : Int) ≤ 70 := by omega
  have ia : (ks.length : Int) ≤ 70 := by omega
  have HF := Lib.hid hf
  have HV := Lib.hid hv
  have HA := Lib.hid ha
  clear hf hv ha
  go_enter Try.func7, Try.ntmps7
  go_wp2_with fail
  refine (head_true _).mono ?_
  rintro e w1 ⟨rfl, hb⟩
  replace SU := Lib.hid ((((SU.out.below (belowNew _ _)).below (belowNew _ _)).below (belowNew _ _)).below hb)
  replace SG := Lib.hid ((((SG.out.below (belowNew _ _)).below (belowNew _ _)).below (belowNew _ _)).below hb)
  replace SA := Lib.hid ((((SA.out.below (belowNew _ _)).below (belowNew _ _)).below (belowNew _ _)).below hb)
  have oT : Own w1 w.heap.size [.slice pu us.length cu, .slice pg gs.length cg, .slice pa ks.length ca] 26 := (((own_at _ _ rfl).alloc _).alloc _).below hb
  have oL : Own w1 (w.heap.size + 1) [.int .i64 N, .int .i64 D] 28 := ((own_at _ _ (by simp)).alloc _).below hb
  have oX : Own w1 (w.heap.size + 1 + 1) [.int .i64 x.s, .int .i64 x.o, .int .i64 x.p, .int .i64 x.m, .int .i64 x.u] 34 := (own_at _ _ (by simp)).below hb
  have bel := belowTo ((((Below.refl w.heap.size w).alloc (by simp) _).alloc (by simp) _).alloc (by simp; omega) _) hb (by simp; omega)
  clear hb
  obtain ⟨cT0, cT1, cT2, fT, zT⟩ := own3 oT
  obtain ⟨cL0, cL1, fL, zL⟩ := own2 oL
  obtain ⟨cX0, cX1, cX2, cX3, cX4, fX, zX⟩ := own5 oX
  go_wp2_with fail
  refine (few_lit _ _ _ us gs ks _ SU.out SG.out SA.out true HF.out).mono ?_
  rintro e w2 ⟨rfl, hb⟩
  replace oT := oT.below hb
  replace oL := oL.below hb
  replace oX := oX.below hb
  replace SU := Lib.hid (SU.out.below hb)
  replace SG := Lib.hid (SG.out.below hb)
  replace SA := Lib.hid (SA.out.below hb)
  replace bel := belowTo bel hb (by exact bel.size)
  clear hb
  clear cT0 cT1 cT2 fT zT cL0 cL1 fL zL cX0 cX1 cX2 cX3 cX4 fX zX
  obtain ⟨cT0, cT1, cT2, fT, zT⟩ := own3 oT
  obtain ⟨cL0, cL1, fL, zL⟩ := own2 oL
  obtain ⟨cX0, cX1, cX2, cX3, cX4, fX, zX⟩ := own5 oX
  go_wp2_with fail
  refine (rvalid_lit _ _ _ us gs ks N D _ SU.out SG.out SA.out (by omega) (by omega) (by omega) true HV.out).mono ?_
  rintro e w3 ⟨rfl, hb⟩
  replace oT := oT.below hb
  replace oL := oL.below hb
  replace oX := oX.below hb
  replace SU := Lib.hid (SU.out.below hb)
  replace SG := Lib.hid (SG.out.below hb)
  replace SA := Lib.hid (SA.out.below hb)
  replace bel := belowTo bel hb (by exact bel.size)
  clear hb
  clear cT0 cT1 cT2 fT zT cL0 cL1 fL zL cX0 cX1 cX2 cX3 cX4 fX zX
  obtain ⟨cT0, cT1, cT2, fT, zT⟩ := own3 oT
  obtain ⟨cL0, cL1, fL, zL⟩ := own2 oL
  obtain ⟨cX0, cX1, cX2, cX3, cX4, fX, zX⟩ := own5 oX
  go_wp2_with fail
  have OTh := Lib.hid oT
  have OLh := Lib.hid oL
  have OXh := Lib.hid oX
  have BLh := Lib.hid bel
  clear oT oL oX bel
  go_loopw [26] (fun ii wr => ∃ (i : Nat), i ≤ ks.length ∧ ii = .int .i64 i ∧ ks.any (fun d => d.s == x.s) = (ks.drop i).any (fun d => d.s == x.s) ∧ Below w3.heap.size w3 wr) (fun i _ => ks.length - (intOf i).toNat)
  case atStart => exact ⟨0, by omega, rfl, rfl, Below.refl _ _⟩
  case round =>
    clear cT0 cT1 cT2 fT zT cL0 cL1 fL zL cX0 cX1 cX2 cX3 cX4 fX zX
    obtain ⟨i, hi, rfl, hT, bel3⟩ := hrel
    have HT := Lib.hid hT
    have BE := Lib.hid bel3
    clear hT bel3
    have j0 : (0 : Int) ≤ (i : Int) := Int.natCast_nonneg _
    have oT := OTh.out.below BE.out
    have oL := OLh.out.below BE.out
    have oX := OXh.out.below BE.out
    obtain ⟨cT0, cT1, cT2, fT, zT⟩ := own3 oT
    obtain ⟨cL0, cL1, fL, zL⟩ := own2 oL
    obtain ⟨cX0, cX1, cX2, cX3, cX4, fX, zX⟩ := own5 oX
    by_cases hlt : i < ks.length
    · obtain ⟨d, b, off, hd, rfl, hbl, _, d0, d1, d2⟩ := SA.out.atA BE.out hlt
      have j1 : (i : Int) < (ks.length : Int) := by omega
      have HS := Lib.hid (show (ks.drop i).any (fun d => d.s == x.s) = ((d.s == x.s) || (ks.drop (i + 1)).any (fun d => d.s == x.s)) by rw [List.drop_eq_getElem_cons hlt, show ks[i] = d from (List.getElem?_eq_some_iff.1 hd).2]; rfl)
      clear hd
      have oE := Lib.hid (own_at (w := wr) [.int .i64 d.s, .int .i64 d.o, .int .i64 d.p] 51 rfl)
      have oX2 := Lib.hid (oX.alloc (.cells #[.int .i64 d.s, .int .i64 d.o, .int .i64 d.p] 51))
      have B2 := Lib.hid (BE.out.alloc BE.out.size (.cells #[.int .i64 d.s, .int .i64 d.o, .int .i64 d.p] 51))
      cases hn : (d.s == x.s) with
      | true =>
        have HN := Lib.hid hn
        go_wp2_with fail
        go_ret
        exact ⟨rfl, BLh.out.trans (B2.out.mono BLh.out.size)⟩
      | false =>
        have HN := Lib.hid hn
        go_wp2_with fail
        go_roundw
        case rel => exact ⟨i + 1, by omega, by go_num, by rw [HT.out, HS.out, HN.out]; rfl, B2.out⟩
        case measure => simp [intOf]; omega
    · have h9 := HT.out
      rw [HA.out, List.drop_of_length_le (by omega)] at h9
      exact absurd h9 (by simp)

set_option linter.unusedSimpArgs false in
set_option linter.unusedVariables false in
set_option maxRecDepth 100000 in
set_option maxHeartbeats 2000000 in
theorem back_no (vu vg va : Value) (us : List Us) (gs : List Gr) (ks : List Ak) (N D : Int) (x : Gr) (w : World) (su : SlU w vu us) (sg : SlG w vg gs) (sa : SlA w va ks) (hf : fewB us gs ks = true) (hv : vldT N D us gs ks = true) (ha : ks.any (fun d => d.s == x.s) = false) (E : Int) (he : agE N D us gs ks x = E) (hn : ¬ E = 0) : Calls Try.prog 7 #[.agg #[vu, vg, va], .agg #[.int .i64 N, .int .i64 D], .agg #[.int .i64 x.s, .int .i64 x.o, .int .i64 x.p, .int .i64 x.m, .int .i64 x.u]] w fun e w' => e = .returned (.bool true) ∧ Below w.heap.size w w' := by
  have u70 : us.length ≤ 70 := (fewB_iff.1 hf).1
  have g70 : gs.length ≤ 70 := (fewB_iff.1 hf).2.1
  have k70 : ks.length ≤ 70 := (fewB_iff.1 hf).2.2
  obtain ⟨pu, cu, e0, hlu, hcu, _⟩ := su.form us.length rfl
  subst e0
  obtain ⟨pg, cg, e0, hlg, hcg, _⟩ := sg.form gs.length rfl
  subst e0
  obtain ⟨pa, ca, e0, hla, hca, _⟩ := sa.form ks.length rfl
  subst e0
  have SU := Lib.hid su
  have SG := Lib.hid sg
  have SA := Lib.hid sa
  clear su sg sa
  have iu0 : (0 : Int) ≤ (us.length : Int) := Int.natCast_nonneg _
  have ig0 : (0 : Int) ≤ (gs.length : Int) := Int.natCast_nonneg _
  have ia0 : (0 : Int) ≤ (ks.length : Int) := Int.natCast_nonneg _
  have iu : (us.length : Int) ≤ 70 := by omega
  have ig : (gs.length : Int) ≤ 70 := by omega
  have ia : (ks.length : Int) ≤ 70 := by omega
  have HF := Lib.hid hf
  have HV := Lib.hid hv
  have HA := Lib.hid ha
  have HE := Lib.hid he
  clear hf hv ha he
  have hn1 : (E != 0) = true := by simpa using hn
  have hn2 : (E == 0) = false := by simpa using hn
  go_enter Try.func7, Try.ntmps7
  go_wp2_with fail
  refine (head_true _).mono ?_
  rintro e w1 ⟨rfl, hb⟩
  replace SU := Lib.hid ((((SU.out.below (belowNew _ _)).below (belowNew _ _)).below (belowNew _ _)).below hb)
  replace SG := Lib.hid ((((SG.out.below (belowNew _ _)).below (belowNew _ _)).below (belowNew _ _)).below hb)
  replace SA := Lib.hid ((((SA.out.below (belowNew _ _)).below (belowNew _ _)).below (belowNew _ _)).below hb)
  have oT : Own w1 w.heap.size [.slice pu us.length cu, .slice pg gs.length cg, .slice pa ks.length ca] 26 := (((own_at _ _ rfl).alloc _).alloc _).below hb
  have oL : Own w1 (w.heap.size + 1) [.int .i64 N, .int .i64 D] 28 := ((own_at _ _ (by simp)).alloc _).below hb
  have oX : Own w1 (w.heap.size + 1 + 1) [.int .i64 x.s, .int .i64 x.o, .int .i64 x.p, .int .i64 x.m, .int .i64 x.u] 34 := (own_at _ _ (by simp)).below hb
  have bel := belowTo ((((Below.refl w.heap.size w).alloc (by simp) _).alloc (by simp) _).alloc (by simp; omega) _) hb (by simp; omega)
  clear hb
  obtain ⟨cT0, cT1, cT2, fT, zT⟩ := own3 oT
  obtain ⟨cL0, cL1, fL, zL⟩ := own2 oL
  obtain ⟨cX0, cX1, cX2, cX3, cX4, fX, zX⟩ := own5 oX
  go_wp2_with fail
  refine (few_lit _ _ _ us gs ks _ SU.out SG.out SA.out true HF.out).mono ?_
  rintro e w2 ⟨rfl, hb⟩
  replace oT := oT.below hb
  replace oL := oL.below hb
  replace oX := oX.below hb
  replace SU := Lib.hid (SU.out.below hb)
  replace SG := Lib.hid (SG.out.below hb)
  replace SA := Lib.hid (SA.out.below hb)
  replace bel := belowTo bel hb (by exact bel.size)
  clear hb
  clear cT0 cT1 cT2 fT zT cL0 cL1 fL zL cX0 cX1 cX2 cX3 cX4 fX zX
  obtain ⟨cT0, cT1, cT2, fT, zT⟩ := own3 oT
  obtain ⟨cL0, cL1, fL, zL⟩ := own2 oL
  obtain ⟨cX0, cX1, cX2, cX3, cX4, fX, zX⟩ := own5 oX
  go_wp2_with fail
  refine (rvalid_lit _ _ _ us gs ks N D _ SU.out SG.out SA.out (by omega) (by omega) (by omega) true HV.out).mono ?_
  rintro e w3 ⟨rfl, hb⟩
  replace oT := oT.below hb
  replace oL := oL.below hb
  replace oX := oX.below hb
  replace SU := Lib.hid (SU.out.below hb)
  replace SG := Lib.hid (SG.out.below hb)
  replace SA := Lib.hid (SA.out.below hb)
  replace bel := belowTo bel hb (by exact bel.size)
  clear hb
  clear cT0 cT1 cT2 fT zT cL0 cL1 fL zL cX0 cX1 cX2 cX3 cX4 fX zX
  obtain ⟨cT0, cT1, cT2, fT, zT⟩ := own3 oT
  obtain ⟨cL0, cL1, fL, zL⟩ := own2 oL
  obtain ⟨cX0, cX1, cX2, cX3, cX4, fX, zX⟩ := own5 oX
  go_wp2_with fail
  have OTh := Lib.hid oT
  have OLh := Lib.hid oL
  have OXh := Lib.hid oX
  have BLh := Lib.hid bel
  clear oT oL oX bel
  go_loopw [26] (fun ii wr => ∃ (i : Nat), i ≤ ks.length ∧ ii = .int .i64 i ∧ ks.any (fun d => d.s == x.s) = (ks.drop i).any (fun d => d.s == x.s) ∧ Below w3.heap.size w3 wr) (fun i _ => ks.length - (intOf i).toNat)
  case atStart => exact ⟨0, by omega, rfl, rfl, Below.refl _ _⟩
  case round =>
    clear cT0 cT1 cT2 fT zT cL0 cL1 fL zL cX0 cX1 cX2 cX3 cX4 fX zX
    obtain ⟨i, hi, rfl, hT, bel3⟩ := hrel
    have HT := Lib.hid hT
    have BE := Lib.hid bel3
    clear hT bel3
    have j0 : (0 : Int) ≤ (i : Int) := Int.natCast_nonneg _
    have oT := OTh.out.below BE.out
    have oL := OLh.out.below BE.out
    have oX := OXh.out.below BE.out
    obtain ⟨cT0, cT1, cT2, fT, zT⟩ := own3 oT
    obtain ⟨cL0, cL1, fL, zL⟩ := own2 oL
    obtain ⟨cX0, cX1, cX2, cX3, cX4, fX, zX⟩ := own5 oX
    by_cases hlt : i < ks.length
    · obtain ⟨d, b, off, hd, rfl, hbl, _, d0, d1, d2⟩ := SA.out.atA BE.out hlt
      have j1 : (i : Int) < (ks.length : Int) := by omega
      have HS := Lib.hid (show (ks.drop i).any (fun d => d.s == x.s) = ((d.s == x.s) || (ks.drop (i + 1)).any (fun d => d.s == x.s)) by rw [List.drop_eq_getElem_cons hlt, show ks[i] = d from (List.getElem?_eq_some_iff.1 hd).2]; rfl)
      clear hd
      have oE := Lib.hid (own_at (w := wr) [.int .i64 d.s, .int .i64 d.o, .int .i64 d.p] 51 rfl)
      have oX2 := Lib.hid (oX.alloc (.cells #[.int .i64 d.s, .int .i64 d.o, .int .i64 d.p] 51))
      have B2 := Lib.hid (BE.out.alloc BE.out.size (.cells #[.int .i64 d.s, .int .i64 d.o, .int .i64 d.p] 51))
      cases hn : (d.s == x.s) with
      | true =>
        have h9 := HT.out
        rw [HA.out, HS.out, hn] at h9
        exact absurd h9 (by simp)
      | false =>
        have HN := Lib.hid hn
        go_wp2_with fail
        go_roundw
        case rel => exact ⟨i + 1, by omega, by go_num, by rw [HT.out, HS.out, HN.out]; rfl, B2.out⟩
        case measure => simp [intOf]; omega
    · have bel := belowTo BLh.out BE.out BLh.out.size
      replace SU := Lib.hid (SU.out.below BE.out)
      replace SG := Lib.hid (SG.out.below BE.out)
      replace SA := Lib.hid (SA.out.below BE.out)
      clear HT
      go_wp2_with fail
      refine (addg_lit _ _ _ us gs ks N D _ SU.out SG.out SA.out x (by omega) (by omega) (by omega) E HE.out).mono ?_
      rintro e w4 ⟨vR1, vR2, vR3, rfl, z1, z2, z3, hb⟩
      replace oT := oT.below hb
      replace oL := oL.below hb
      replace oX := oX.below hb
      replace SU := Lib.hid (SU.out.below hb)
      replace SG := Lib.hid (SG.out.below hb)
      replace SA := Lib.hid (SA.out.below hb)
      replace bel := belowTo bel hb (by exact bel.size)
      clear hb
      clear cT0 cT1 cT2 fT zT cL0 cL1 fL zL cX0 cX1 cX2 cX3 cX4 fX zX
      obtain ⟨cT0, cT1, cT2, fT, zT⟩ := own3 oT
      obtain ⟨cL0, cL1, fL, zL⟩ := own2 oL
      obtain ⟨cX0, cX1, cX2, cX3, cX4, fX, zX⟩ := own5 oX
      have RU := Lib.hid (show SlU w4 vR1 (agU us E) from z1)
      have RG := Lib.hid (show SlG w4 vR2 (agG gs x E) from z2)
      have RA := Lib.hid (show SlA w4 vR3 (adA ks x.s E) from z3)
      clear z1 z2 z3
      obtain ⟨pR1, nR1, cR1, f0⟩ := RU.out.slc
      subst f0
      obtain ⟨pR2, nR2, cR2, f0⟩ := RG.out.slc
      subst f0
      obtain ⟨pR3, nR3, cR3, f0⟩ := RA.out.slc
      subst f0
      go_wp2_with fail
      have oR : Own (w4.alloc (Obj.cells #[.slice pR1 nR1 cR1, .slice pR2 nR2 cR2, .slice pR3 nR3 cR3] 26)) w4.heap.size [.slice pR1 nR1 cR1, .slice pR2 nR2 cR2, .slice pR3 nR3 cR3] 26 := own_at _ _ rfl
      have ltRT : w.heap.size < w4.heap.size := zT
      have ltRL : w.heap.size + 1 < w4.heap.size := zL
      have ltRX : w.heap.size + 1 + 1 < w4.heap.size := zX
      replace oT := oT.alloc (Obj.cells #[.slice pR1 nR1 cR1, .slice pR2 nR2 cR2, .slice pR3 nR3 cR3] 26)
      replace oL := oL.alloc (Obj.cells #[.slice pR1 nR1 cR1, .slice pR2 nR2 cR2, .slice pR3 nR3 cR3] 26)
      replace oX := oX.alloc (Obj.cells #[.slice pR1 nR1 cR1, .slice pR2 nR2 cR2, .slice pR3 nR3 cR3] 26)
      replace SU := Lib.hid (SU.out.below (belowNew w4 (Obj.cells #[.slice pR1 nR1 cR1, .slice pR2 nR2 cR2, .slice pR3 nR3 cR3] 26)))
      replace SG := Lib.hid (SG.out.below (belowNew w4 (Obj.cells #[.slice pR1 nR1 cR1, .slice pR2 nR2 cR2, .slice pR3 nR3 cR3] 26)))
      replace SA := Lib.hid (SA.out.below (belowNew w4 (Obj.cells #[.slice pR1 nR1 cR1, .slice pR2 nR2 cR2, .slice pR3 nR3 cR3] 26)))
      replace RU := Lib.hid (RU.out.below (belowNew w4 (Obj.cells #[.slice pR1 nR1 cR1, .slice pR2 nR2 cR2, .slice pR3 nR3 cR3] 26)))
      replace RG := Lib.hid (RG.out.below (belowNew w4 (Obj.cells #[.slice pR1 nR1 cR1, .slice pR2 nR2 cR2, .slice pR3 nR3 cR3] 26)))
      replace RA := Lib.hid (RA.out.below (belowNew w4 (Obj.cells #[.slice pR1 nR1 cR1, .slice pR2 nR2 cR2, .slice pR3 nR3 cR3] 26)))
      replace bel := bel.alloc bel.size (Obj.cells #[.slice pR1 nR1 cR1, .slice pR2 nR2 cR2, .slice pR3 nR3 cR3] 26)
      clear cT0 cT1 cT2 fT zT cL0 cL1 fL zL cX0 cX1 cX2 cX3 cX4 fX zX
      generalize w4.alloc (Obj.cells #[.slice pR1 nR1 cR1, .slice pR2 nR2 cR2, .slice pR3 nR3 cR3] 26) = w5 at oT oL oX oR SU SG SA RU RG RA bel ⊢
      obtain ⟨cT0, cT1, cT2, fT, zT⟩ := own3 oT
      obtain ⟨cL0, cL1, fL, zL⟩ := own2 oL
      obtain ⟨cX0, cX1, cX2, cX3, cX4, fX, zX⟩ := own5 oX
      obtain ⟨cR0, cR1, cR2, fR, zR⟩ := own3 oR
      clear HE
      go_wp2_with fail
      have OTk0 := Lib.hid oT.drew
      have OLk0 := Lib.hid oL.drew
      have OXk0 := Lib.hid oX.drew
      have ORk0 := Lib.hid oR.drew
      have BBk0 := Lib.hid bel.drew
      have SUk0 := Lib.hid (SU.out.below (Below.refl _ _).drew)
      have SGk0 := Lib.hid (SG.out.below (Below.refl _ _).drew)
      have SAk0 := Lib.hid (SA.out.below (Below.refl _ _).drew)
      have RUk0 := Lib.hid (RU.out.below (Below.refl _ _).drew)
      have RGk0 := Lib.hid (RG.out.below (Below.refl _ _).drew)
      have RAk0 := Lib.hid (RA.out.below (Below.refl _ _).drew)
      clear oT cT0 cT1 cT2 fT zT oL cL0 cL1 fL zL oX cX0 cX1 cX2 cX3 cX4 fX zX oR cR0 cR1 cR2 fR zR
      clear bel SU SG SA RU RG RA
      obtain ⟨hTk00, hTk01, hTk02, _, _⟩ := own3 OTk0.out
      obtain ⟨hLk00, hLk01, _, _⟩ := own2 OLk0.out
      obtain ⟨hXk00, hXk01, hXk02, hXk03, hXk04, _, _⟩ := own5 OXk0.out
      obtain ⟨hRk00, hRk01, hRk02, _, _⟩ := own3 ORk0.out
      refine region_H 14 #[false, false, false, false, false, false, false, false, false, false, false, false, false, false] (by kernel_rfl) (by kernel_rfl) (fun w' => w'.cell? ⟨w4.heap.size, 0, none⟩ = some (.slice pR1 nR1 cR1) ∧ w'.cell? ⟨w4.heap.size, 1, none⟩ = some (.slice pR2 nR2 cR2) ∧ w'.cell? ⟨w4.heap.size, 2, none⟩ = some (.slice pR3 nR3 cR3) ∧ w'.cell? ⟨w.heap.size + 1 + 1, 0, none⟩ = some (.int .i64 x.s) ∧ w'.cell? ⟨w.heap.size + 1 + 1, 1, none⟩ = some (.int .i64 x.o) ∧ w'.cell? ⟨w.heap.size, 0, none⟩ = some (.slice pu us.length cu) ∧ w'.cell? ⟨w.heap.size, 1, none⟩ = some (.slice pg gs.length cg) ∧ w'.cell? ⟨w.heap.size, 2, none⟩ = some (.slice pa ks.length ca)) (by kernel_rfl) ?x1s (fun hHeld => ?x1r)
      case x1s => exact ⟨hRk00, hRk01, hRk02, hXk00, hXk01, hTk00, hTk01, hTk02⟩
      refine wpH_take (i := 0) (some 46) (v := ?x2v) rfl (by kernel_rfl) (by kernel_rfl) (by kernel_rfl) rfl (fun _ _ _ h => h) (Or.inl ⟨by rfl, ?x2y⟩) hHeld ?x2r
      case x2y => (intro w hSw; (try dsimp only at hSw); go_simp; try with_reducible rfl)
      try simp only [Act.put, List.setIfInBounds_toArray, List.set_cons_zero, List.set_cons_succ]
      refine wpH_take (i := 1) (some 47) (v := ?x3v) rfl (by kernel_rfl) (by kernel_rfl) (by kernel_rfl) rfl (fun _ _ _ h => h) (Or.inl ⟨by rfl, ?x3y⟩) hHeld ?x3r
      case x3y => (intro w hSw; (try dsimp only at hSw); go_simp; try with_reducible rfl)
      try simp only [Act.put, List.setIfInBounds_toArray, List.set_cons_zero, List.set_cons_succ]
      refine wpH_take (i := 2) (some 48) (v := ?x4v) rfl (by kernel_rfl) (by kernel_rfl) (by kernel_rfl) rfl (fun _ _ _ h => h) (Or.inl ⟨by rfl, ?x4y⟩) hHeld ?x4r
      case x4y => (intro w hSw; (try dsimp only at hSw); go_simp; try with_reducible rfl)
      try simp only [Act.put, List.setIfInBounds_toArray, List.set_cons_zero, List.set_cons_succ]
      refine wpH_take (i := 3) (some 49) (v := ?x5v) rfl (by kernel_rfl) (by kernel_rfl) (by kernel_rfl) rfl (fun _ _ _ h => h) (Or.inl ⟨by rfl, ?x5y⟩) hHeld ?x5r
      case x5y => (intro w hSw; (try dsimp only at hSw); go_simp; try with_reducible rfl)
      try simp only [Act.put, List.setIfInBounds_toArray, List.set_cons_zero, List.set_cons_succ]
      refine wpH_take (i := 4) (some 50) (v := ?x6v) rfl (by kernel_rfl) (by kernel_rfl) (by kernel_rfl) rfl (fun _ _ _ h => h) (Or.inl ⟨by rfl, ?x6y⟩) hHeld ?x6r
      case x6y => (intro w hSw; (try dsimp only at hSw); go_simp; try with_reducible rfl)
      try simp only [Act.put, List.setIfInBounds_toArray, List.set_cons_zero, List.set_cons_succ]
      refine wpH_take (i := 5) (some 51) (v := undef) rfl (by kernel_rfl) (by kernel_rfl) (by kernel_rfl) rfl (fun _ _ _ h => h) (Or.inr ⟨by rfl, rfl⟩) hHeld ?x7r
      try simp only [Act.put, List.setIfInBounds_toArray, List.set_cons_zero, List.set_cons_succ]
      refine wpH_take (i := 6) (some 52) (v := undef) rfl (by kernel_rfl) (by kernel_rfl) (by kernel_rfl) rfl (fun _ _ _ h => h) (Or.inr ⟨by rfl, rfl⟩) hHeld ?x8r
      try simp only [Act.put, List.setIfInBounds_toArray, List.set_cons_zero, List.set_cons_succ]
      refine wpH_take (i := 7) (some 53) (v := undef) rfl (by kernel_rfl) (by kernel_rfl) (by kernel_rfl) rfl (fun _ _ _ h => h) (Or.inr ⟨by rfl, rfl⟩) hHeld ?x9r
      try simp only [Act.put, List.setIfInBounds_toArray, List.set_cons_zero, List.set_cons_succ]
      refine wpH_take (i := 8) (some 54) (v := undef) rfl (by kernel_rfl) (by kernel_rfl) (by kernel_rfl) rfl (fun _ _ _ h => h) (Or.inr ⟨by rfl, rfl⟩) hHeld ?x10r
      try simp only [Act.put, List.setIfInBounds_toArray, List.set_cons_zero, List.set_cons_succ]
      refine wpH_take (i := 9) (some 55) (v := undef) rfl (by kernel_rfl) (by kernel_rfl) (by kernel_rfl) rfl (fun _ _ _ h => h) (Or.inr ⟨by rfl, rfl⟩) hHeld ?x11r
      try simp only [Act.put, List.setIfInBounds_toArray, List.set_cons_zero, List.set_cons_succ]
      refine wpH_take (i := 10) (some 56) (v := undef) rfl (by kernel_rfl) (by kernel_rfl) (by kernel_rfl) rfl (fun _ _ _ h => h) (Or.inr ⟨by rfl, rfl⟩) hHeld ?x12r
      try simp only [Act.put, List.setIfInBounds_toArray, List.set_cons_zero, List.set_cons_succ]
      refine wpH_take (i := 11) (some 57) (v := ?x13v) rfl (by kernel_rfl) (by kernel_rfl) (by kernel_rfl) rfl (fun _ _ _ h => h) (Or.inl ⟨by rfl, ?x13y⟩) hHeld ?x13r
      case x13y => (intro w hSw; (try dsimp only at hSw); go_simp; try with_reducible rfl)
      try simp only [Act.put, List.setIfInBounds_toArray, List.set_cons_zero, List.set_cons_succ]
      refine wpH_take (i := 12) (some 58) (v := ?x14v) rfl (by kernel_rfl) (by kernel_rfl) (by kernel_rfl) rfl (fun _ _ _ h => h) (Or.inl ⟨by rfl, ?x14y⟩) hHeld ?x14r
      case x14y => (intro w hSw; (try dsimp only at hSw); go_simp; try with_reducible rfl)
      try simp only [Act.put, List.setIfInBounds_toArray, List.set_cons_zero, List.set_cons_succ]
      refine wpH_take (i := 13) (some 6) (v := ?x15v) rfl (by kernel_rfl) (by kernel_rfl) (by kernel_rfl) rfl (fun _ _ _ h => h) (Or.inl ⟨by rfl, ?x15y⟩) hHeld ?x15r
      case x15y => (intro w hSw; (try dsimp only at hSw); go_simp; try with_reducible rfl)
      try simp only [Act.put, List.setIfInBounds_toArray, List.set_cons_zero, List.set_cons_succ]
      refine wpAnyH_done (by kernel_rfl) ?_ _
      have oT := OTk0.out
      have oL := OLk0.out
      have oX := OXk0.out
      have oR := ORk0.out
      have bel := BBk0.out
      have SU := SUk0
      have SG := SGk0
      have SA := SAk0
      have RU := RUk0
      have RG := RGk0
      have RA := RAk0
      clear OTk0 OLk0 OXk0 ORk0 BBk0 SUk0 SGk0 SAk0 RUk0 RGk0 RAk0 hTk00 hTk01 hTk02 hLk00 hLk01 hXk00 hXk01 hXk02 hXk03 hXk04 hRk00 hRk01 hRk02
      obtain ⟨cT0, cT1, cT2, fT, zT⟩ := own3 oT
      obtain ⟨cL0, cL1, fL, zL⟩ := own2 oL
      obtain ⟨cX0, cX1, cX2, cX3, cX4, fX, zX⟩ := own5 oX
      obtain ⟨cR0, cR1, cR2, fR, zR⟩ := own3 oR
      go_wp2_with fail
      go_ret
      exact ⟨rfl, bel⟩

set_option linter.unusedSimpArgs false in
set_option linter.unusedVariables false in
set_option maxRecDepth 100000 in
set_option maxHeartbeats 2000000 in
theorem back_go (vu vg va : Value) (us : List Us) (gs : List Gr) (ks : List Ak) (N D : Int) (x : Gr) (w : World) (su : SlU w vu us) (sg : SlG w vg gs) (sa : SlA w va ks) (hf : fewB us gs ks = true) (hv : vldT N D us gs ks = true) (ha : ks.any (fun d => d.s == x.s) = false) (he : agE N D us gs ks x = 0) : Calls Try.prog 7 #[.agg #[vu, vg, va], .agg #[.int .i64 N, .int .i64 D], .agg #[.int .i64 x.s, .int .i64 x.o, .int .i64 x.p, .int .i64 x.m, .int .i64 x.u]] w fun e w' => e = .returned (.bool true) ∧ Below w.heap.size w w' := by
  have u70 : us.length ≤ 70 := (fewB_iff.1 hf).1
  have g70 : gs.length ≤ 70 := (fewB_iff.1 hf).2.1
  have k70 : ks.length ≤ 70 := (fewB_iff.1 hf).2.2
  obtain ⟨pu, cu, e0, hlu, hcu, _⟩ := su.form us.length rfl
  subst e0
  obtain ⟨pg, cg, e0, hlg, hcg, _⟩ := sg.form gs.length rfl
  subst e0
  obtain ⟨pa, ca, e0, hla, hca, _⟩ := sa.form ks.length rfl
  subst e0
  have SU := Lib.hid su
  have SG := Lib.hid sg
  have SA := Lib.hid sa
  clear su sg sa
  have iu0 : (0 : Int) ≤ (us.length : Int) := Int.natCast_nonneg _
  have ig0 : (0 : Int) ≤ (gs.length : Int) := Int.natCast_nonneg _
  have ia0 : (0 : Int) ≤ (ks.length : Int) := Int.natCast_nonneg _
  have iu : (us.length : Int) ≤ 70 := by omega
  have ig : (gs.length : Int) ≤ 70 := by omega
  have ia : (ks.length : Int) ≤ 70 := by omega
  have BP := Lib.hid (back_plain he ha)
  have AL := Lib.hid (agE_ok he)
  have HF := Lib.hid hf
  have HV := Lib.hid hv
  have HA := Lib.hid ha
  have HE := Lib.hid he
  clear hf hv ha he
  go_enter Try.func7, Try.ntmps7
  go_wp2_with fail
  refine (head_true _).mono ?_
  rintro e w1 ⟨rfl, hb⟩
  replace SU := Lib.hid ((((SU.out.below (belowNew _ _)).below (belowNew _ _)).below (belowNew _ _)).below hb)
  replace SG := Lib.hid ((((SG.out.below (belowNew _ _)).below (belowNew _ _)).below (belowNew _ _)).below hb)
  replace SA := Lib.hid ((((SA.out.below (belowNew _ _)).below (belowNew _ _)).below (belowNew _ _)).below hb)
  have oT : Own w1 w.heap.size [.slice pu us.length cu, .slice pg gs.length cg, .slice pa ks.length ca] 26 := (((own_at _ _ rfl).alloc _).alloc _).below hb
  have oL : Own w1 (w.heap.size + 1) [.int .i64 N, .int .i64 D] 28 := ((own_at _ _ (by simp)).alloc _).below hb
  have oX : Own w1 (w.heap.size + 1 + 1) [.int .i64 x.s, .int .i64 x.o, .int .i64 x.p, .int .i64 x.m, .int .i64 x.u] 34 := (own_at _ _ (by simp)).below hb
  have bel := belowTo ((((Below.refl w.heap.size w).alloc (by simp) _).alloc (by simp) _).alloc (by simp; omega) _) hb (by simp; omega)
  clear hb
  obtain ⟨cT0, cT1, cT2, fT, zT⟩ := own3 oT
  obtain ⟨cL0, cL1, fL, zL⟩ := own2 oL
  obtain ⟨cX0, cX1, cX2, cX3, cX4, fX, zX⟩ := own5 oX
  go_wp2_with fail
  refine (few_lit _ _ _ us gs ks _ SU.out SG.out SA.out true HF.out).mono ?_
  rintro e w2 ⟨rfl, hb⟩
  replace oT := oT.below hb
  replace oL := oL.below hb
  replace oX := oX.below hb
  replace SU := Lib.hid (SU.out.below hb)
  replace SG := Lib.hid (SG.out.below hb)
  replace SA := Lib.hid (SA.out.below hb)
  replace bel := belowTo bel hb (by exact bel.size)
  clear hb
  clear cT0 cT1 cT2 fT zT cL0 cL1 fL zL cX0 cX1 cX2 cX3 cX4 fX zX
  obtain ⟨cT0, cT1, cT2, fT, zT⟩ := own3 oT
  obtain ⟨cL0, cL1, fL, zL⟩ := own2 oL
  obtain ⟨cX0, cX1, cX2, cX3, cX4, fX, zX⟩ := own5 oX
  go_wp2_with fail
  refine (rvalid_lit _ _ _ us gs ks N D _ SU.out SG.out SA.out (by omega) (by omega) (by omega) true HV.out).mono ?_
  rintro e w3 ⟨rfl, hb⟩
  replace oT := oT.below hb
  replace oL := oL.below hb
  replace oX := oX.below hb
  replace SU := Lib.hid (SU.out.below hb)
  replace SG := Lib.hid (SG.out.below hb)
  replace SA := Lib.hid (SA.out.below hb)
  replace bel := belowTo bel hb (by exact bel.size)
  clear hb
  clear cT0 cT1 cT2 fT zT cL0 cL1 fL zL cX0 cX1 cX2 cX3 cX4 fX zX
  obtain ⟨cT0, cT1, cT2, fT, zT⟩ := own3 oT
  obtain ⟨cL0, cL1, fL, zL⟩ := own2 oL
  obtain ⟨cX0, cX1, cX2, cX3, cX4, fX, zX⟩ := own5 oX
  go_wp2_with fail
  have OTh := Lib.hid oT
  have OLh := Lib.hid oL
  have OXh := Lib.hid oX
  have BLh := Lib.hid bel
  clear oT oL oX bel
  go_loopw [26] (fun ii wr => ∃ (i : Nat), i ≤ ks.length ∧ ii = .int .i64 i ∧ ks.any (fun d => d.s == x.s) = (ks.drop i).any (fun d => d.s == x.s) ∧ Below w3.heap.size w3 wr) (fun i _ => ks.length - (intOf i).toNat)
  case atStart => exact ⟨0, by omega, rfl, rfl, Below.refl _ _⟩
  case round =>
    clear cT0 cT1 cT2 fT zT cL0 cL1 fL zL cX0 cX1 cX2 cX3 cX4 fX zX
    obtain ⟨i, hi, rfl, hT, bel3⟩ := hrel
    have HT := Lib.hid hT
    have BE := Lib.hid bel3
    clear hT bel3
    have j0 : (0 : Int) ≤ (i : Int) := Int.natCast_nonneg _
    have oT := OTh.out.below BE.out
    have oL := OLh.out.below BE.out
    have oX := OXh.out.below BE.out
    obtain ⟨cT0, cT1, cT2, fT, zT⟩ := own3 oT
    obtain ⟨cL0, cL1, fL, zL⟩ := own2 oL
    obtain ⟨cX0, cX1, cX2, cX3, cX4, fX, zX⟩ := own5 oX
    by_cases hlt : i < ks.length
    · obtain ⟨d, b, off, hd, rfl, hbl, _, d0, d1, d2⟩ := SA.out.atA BE.out hlt
      have j1 : (i : Int) < (ks.length : Int) := by omega
      have HS := Lib.hid (show (ks.drop i).any (fun d => d.s == x.s) = ((d.s == x.s) || (ks.drop (i + 1)).any (fun d => d.s == x.s)) by rw [List.drop_eq_getElem_cons hlt, show ks[i] = d from (List.getElem?_eq_some_iff.1 hd).2]; rfl)
      clear hd
      have oE := Lib.hid (own_at (w := wr) [.int .i64 d.s, .int .i64 d.o, .int .i64 d.p] 51 rfl)
      have oX2 := Lib.hid (oX.alloc (.cells #[.int .i64 d.s, .int .i64 d.o, .int .i64 d.p] 51))
      have B2 := Lib.hid (BE.out.alloc BE.out.size (.cells #[.int .i64 d.s, .int .i64 d.o, .int .i64 d.p] 51))
      cases hn : (d.s == x.s) with
      | true =>
        have h9 := HT.out
        rw [HA.out, HS.out, hn] at h9
        exact absurd h9 (by simp)
      | false =>
        have HN := Lib.hid hn
        go_wp2_with fail
        go_roundw
        case rel => exact ⟨i + 1, by omega, by go_num, by rw [HT.out, HS.out, HN.out]; rfl, B2.out⟩
        case measure => simp [intOf]; omega
    · have bel := belowTo BLh.out BE.out BLh.out.size
      replace SU := Lib.hid (SU.out.below BE.out)
      replace SG := Lib.hid (SG.out.below BE.out)
      replace SA := Lib.hid (SA.out.below BE.out)
      clear HT
      go_wp2_with fail
      refine (addg_lit _ _ _ us gs ks N D _ SU.out SG.out SA.out x (by omega) (by omega) (by omega) 0 HE.out).mono ?_
      rintro e w4 ⟨vR1, vR2, vR3, rfl, z1, z2, z3, hb⟩
      replace oT := oT.below hb
      replace oL := oL.below hb
      replace oX := oX.below hb
      replace SU := Lib.hid (SU.out.below hb)
      replace SG := Lib.hid (SG.out.below hb)
      replace SA := Lib.hid (SA.out.below hb)
      replace bel := belowTo bel hb (by exact bel.size)
      clear hb
      clear cT0 cT1 cT2 fT zT cL0 cL1 fL zL cX0 cX1 cX2 cX3 cX4 fX zX
      obtain ⟨cT0, cT1, cT2, fT, zT⟩ := own3 oT
      obtain ⟨cL0, cL1, fL, zL⟩ := own2 oL
      obtain ⟨cX0, cX1, cX2, cX3, cX4, fX, zX⟩ := own5 oX
      have RU := Lib.hid (show SlU w4 vR1 us from z1)
      have RG := Lib.hid (show SlG w4 vR2 (adG x gs) from z2)
      have RA := Lib.hid (show SlA w4 vR3 (una x.s ks) from z3)
      clear z1 z2 z3
      obtain ⟨pR1, nR1, cR1, f0⟩ := RU.out.slc
      subst f0
      obtain ⟨pR2, nR2, cR2, f0⟩ := RG.out.slc
      subst f0
      obtain ⟨pR3, nR3, cR3, f0⟩ := RA.out.slc
      subst f0
      go_wp2_with fail
      have oR : Own (w4.alloc (Obj.cells #[.slice pR1 nR1 cR1, .slice pR2 nR2 cR2, .slice pR3 nR3 cR3] 26)) w4.heap.size [.slice pR1 nR1 cR1, .slice pR2 nR2 cR2, .slice pR3 nR3 cR3] 26 := own_at _ _ rfl
      have ltRT : w.heap.size < w4.heap.size := zT
      have ltRL : w.heap.size + 1 < w4.heap.size := zL
      have ltRX : w.heap.size + 1 + 1 < w4.heap.size := zX
      replace oT := oT.alloc (Obj.cells #[.slice pR1 nR1 cR1, .slice pR2 nR2 cR2, .slice pR3 nR3 cR3] 26)
      replace oL := oL.alloc (Obj.cells #[.slice pR1 nR1 cR1, .slice pR2 nR2 cR2, .slice pR3 nR3 cR3] 26)
      replace oX := oX.alloc (Obj.cells #[.slice pR1 nR1 cR1, .slice pR2 nR2 cR2, .slice pR3 nR3 cR3] 26)
      replace SU := Lib.hid (SU.out.below (belowNew w4 (Obj.cells #[.slice pR1 nR1 cR1, .slice pR2 nR2 cR2, .slice pR3 nR3 cR3] 26)))
      replace SG := Lib.hid (SG.out.below (belowNew w4 (Obj.cells #[.slice pR1 nR1 cR1, .slice pR2 nR2 cR2, .slice pR3 nR3 cR3] 26)))
      replace SA := Lib.hid (SA.out.below (belowNew w4 (Obj.cells #[.slice pR1 nR1 cR1, .slice pR2 nR2 cR2, .slice pR3 nR3 cR3] 26)))
      replace RU := Lib.hid (RU.out.below (belowNew w4 (Obj.cells #[.slice pR1 nR1 cR1, .slice pR2 nR2 cR2, .slice pR3 nR3 cR3] 26)))
      replace RG := Lib.hid (RG.out.below (belowNew w4 (Obj.cells #[.slice pR1 nR1 cR1, .slice pR2 nR2 cR2, .slice pR3 nR3 cR3] 26)))
      replace RA := Lib.hid (RA.out.below (belowNew w4 (Obj.cells #[.slice pR1 nR1 cR1, .slice pR2 nR2 cR2, .slice pR3 nR3 cR3] 26)))
      replace bel := bel.alloc bel.size (Obj.cells #[.slice pR1 nR1 cR1, .slice pR2 nR2 cR2, .slice pR3 nR3 cR3] 26)
      clear cT0 cT1 cT2 fT zT cL0 cL1 fL zL cX0 cX1 cX2 cX3 cX4 fX zX
      generalize w4.alloc (Obj.cells #[.slice pR1 nR1 cR1, .slice pR2 nR2 cR2, .slice pR3 nR3 cR3] 26) = w5 at oT oL oX oR SU SG SA RU RG RA bel ⊢
      obtain ⟨cT0, cT1, cT2, fT, zT⟩ := own3 oT
      obtain ⟨cL0, cL1, fL, zL⟩ := own2 oL
      obtain ⟨cX0, cX1, cX2, cX3, cX4, fX, zX⟩ := own5 oX
      obtain ⟨cR0, cR1, cR2, fR, zR⟩ := own3 oR
      go_wp2_with fail
      have OTk0 := Lib.hid oT.drew
      have OLk0 := Lib.hid oL.drew
      have OXk0 := Lib.hid oX.drew
      have ORk0 := Lib.hid oR.drew
      have BBk0 := Lib.hid bel.drew
      have SUk0 := Lib.hid (SU.out.below (Below.refl _ _).drew)
      have SGk0 := Lib.hid (SG.out.below (Below.refl _ _).drew)
      have SAk0 := Lib.hid (SA.out.below (Below.refl _ _).drew)
      have RUk0 := Lib.hid (RU.out.below (Below.refl _ _).drew)
      have RGk0 := Lib.hid (RG.out.below (Below.refl _ _).drew)
      have RAk0 := Lib.hid (RA.out.below (Below.refl _ _).drew)
      clear oT cT0 cT1 cT2 fT zT oL cL0 cL1 fL zL oX cX0 cX1 cX2 cX3 cX4 fX zX oR cR0 cR1 cR2 fR zR
      clear bel SU SG SA RU RG RA
      obtain ⟨hTk00, hTk01, hTk02, _, _⟩ := own3 OTk0.out
      obtain ⟨hLk00, hLk01, _, _⟩ := own2 OLk0.out
      obtain ⟨hXk00, hXk01, hXk02, hXk03, hXk04, _, _⟩ := own5 OXk0.out
      obtain ⟨hRk00, hRk01, hRk02, _, _⟩ := own3 ORk0.out
      refine region_H 14 #[false, false, false, false, false, false, false, false, false, false, false, false, false, false] (by kernel_rfl) (by kernel_rfl) (fun w' => w'.cell? ⟨w4.heap.size, 0, none⟩ = some (.slice pR1 nR1 cR1) ∧ w'.cell? ⟨w4.heap.size, 1, none⟩ = some (.slice pR2 nR2 cR2) ∧ w'.cell? ⟨w4.heap.size, 2, none⟩ = some (.slice pR3 nR3 cR3) ∧ w'.cell? ⟨w.heap.size + 1 + 1, 0, none⟩ = some (.int .i64 x.s) ∧ w'.cell? ⟨w.heap.size + 1 + 1, 1, none⟩ = some (.int .i64 x.o) ∧ w'.cell? ⟨w.heap.size, 0, none⟩ = some (.slice pu us.length cu) ∧ w'.cell? ⟨w.heap.size, 1, none⟩ = some (.slice pg gs.length cg) ∧ w'.cell? ⟨w.heap.size, 2, none⟩ = some (.slice pa ks.length ca)) (by kernel_rfl) ?x16s (fun hHeld => ?x16r)
      case x16s => exact ⟨hRk00, hRk01, hRk02, hXk00, hXk01, hTk00, hTk01, hTk02⟩
      refine wpH_take (i := 0) (some 46) (v := ?x17v) rfl (by kernel_rfl) (by kernel_rfl) (by kernel_rfl) rfl (fun _ _ _ h => h) (Or.inl ⟨by rfl, ?x17y⟩) hHeld ?x17r
      case x17y => (intro w hSw; (try dsimp only at hSw); go_simp; try with_reducible rfl)
      try simp only [Act.put, List.setIfInBounds_toArray, List.set_cons_zero, List.set_cons_succ]
      refine wpH_take (i := 1) (some 47) (v := ?x18v) rfl (by kernel_rfl) (by kernel_rfl) (by kernel_rfl) rfl (fun _ _ _ h => h) (Or.inl ⟨by rfl, ?x18y⟩) hHeld ?x18r
      case x18y => (intro w hSw; (try dsimp only at hSw); go_simp; try with_reducible rfl)
      try simp only [Act.put, List.setIfInBounds_toArray, List.set_cons_zero, List.set_cons_succ]
      refine wpH_take (i := 2) (some 48) (v := ?x19v) rfl (by kernel_rfl) (by kernel_rfl) (by kernel_rfl) rfl (fun _ _ _ h => h) (Or.inl ⟨by rfl, ?x19y⟩) hHeld ?x19r
      case x19y => (intro w hSw; (try dsimp only at hSw); go_simp; try with_reducible rfl)
      try simp only [Act.put, List.setIfInBounds_toArray, List.set_cons_zero, List.set_cons_succ]
      refine wpH_take (i := 3) (some 49) (v := ?x20v) rfl (by kernel_rfl) (by kernel_rfl) (by kernel_rfl) rfl (fun _ _ _ h => h) (Or.inl ⟨by rfl, ?x20y⟩) hHeld ?x20r
      case x20y => (intro w hSw; (try dsimp only at hSw); go_simp; try with_reducible rfl)
      try simp only [Act.put, List.setIfInBounds_toArray, List.set_cons_zero, List.set_cons_succ]
      refine wpH_take (i := 4) (some 50) (v := ?x21v) rfl (by kernel_rfl) (by kernel_rfl) (by kernel_rfl) rfl (fun _ _ _ h => h) (Or.inl ⟨by rfl, ?x21y⟩) hHeld ?x21r
      case x21y => (intro w hSw; (try dsimp only at hSw); go_simp; try with_reducible rfl)
      try simp only [Act.put, List.setIfInBounds_toArray, List.set_cons_zero, List.set_cons_succ]
      refine wpH_take (i := 5) (some 51) (v := ?x22v) rfl (by kernel_rfl) (by kernel_rfl) (by kernel_rfl) rfl (fun _ _ _ h => h) (Or.inl ⟨by rfl, ?x22y⟩) hHeld ?x22r
      case x22y => (intro w hSw; (try dsimp only at hSw); go_simp; try with_reducible rfl)
      try simp only [Act.put, List.setIfInBounds_toArray, List.set_cons_zero, List.set_cons_succ]
      refine wpH_take (i := 6) (some 52) (v := ?x23v) rfl (by kernel_rfl) (by kernel_rfl) (by kernel_rfl) rfl (fun _ _ _ h => h) (Or.inl ⟨by rfl, ?x23y⟩) hHeld ?x23r
      case x23y => (intro w hSw; (try dsimp only at hSw); go_simp; try with_reducible rfl)
      try simp only [Act.put, List.setIfInBounds_toArray, List.set_cons_zero, List.set_cons_succ]
      refine wpH_take (i := 7) (some 53) (v := ?x24v) rfl (by kernel_rfl) (by kernel_rfl) (by kernel_rfl) rfl (fun _ _ _ h => h) (Or.inl ⟨by rfl, ?x24y⟩) hHeld ?x24r
      case x24y => (intro w hSw; (try dsimp only at hSw); go_simp; try with_reducible rfl)
      try simp only [Act.put, List.setIfInBounds_toArray, List.set_cons_zero, List.set_cons_succ]
      refine wpH_take (i := 9) (some 55) (v := ?x25v) rfl (by kernel_rfl) (by kernel_rfl) (by kernel_rfl) rfl (fun _ _ _ h => h) (Or.inl ⟨by rfl, ?x25y⟩) hHeld ?x25r
      case x25y => (intro w hSw; (try dsimp only at hSw); go_simp; try with_reducible rfl)
      try simp only [Act.put, List.setIfInBounds_toArray, List.set_cons_zero, List.set_cons_succ]
      refine wpH_one (i := 8) (by kernel_rfl) rfl (fun K hK => ?_)
      rw [if_pos (by rfl)]
      go_simp
      refine (drop_any _ _ _ us (adG x gs) (una x.s ks) x.s x.o _ RUk0.out RGk0.out RAk0.out (by omega) (by rw [adG, length_insL]; have := AL.out.2.2.2; omega) (by have := una_len x.s ks; omega)).mono ?_
      rintro e wk1 ⟨vy1, vy2, vy3, rfl, z1, z2, z3, hbb⟩
      have YUk1 := Lib.hid (show SlU wk1 vy1 us from by rw [BP.out.1] at z1; exact z1)
      obtain ⟨pvy1, nvy1, cvy1, f0⟩ := YUk1.out.slc
      subst f0
      have YGk1 := Lib.hid (show SlG wk1 vy2 gs from by rw [BP.out.2.1] at z2; exact z2)
      obtain ⟨pvy2, nvy2, cvy2, f0⟩ := YGk1.out.slc
      subst f0
      have YAk1 := Lib.hid (show SlA wk1 vy3 ks from by rw [BP.out.2.2] at z3; exact z3)
      obtain ⟨pvy3, nvy3, cvy3, f0⟩ := YAk1.out.slc
      subst f0
      have OTk1 := Lib.hid (OTk0.out.below hbb)
      have OLk1 := Lib.hid (OLk0.out.below hbb)
      have OXk1 := Lib.hid (OXk0.out.below hbb)
      have ORk1 := Lib.hid (ORk0.out.below hbb)
      have SUk1 := Lib.hid (SUk0.out.below hbb)
      have SGk1 := Lib.hid (SGk0.out.below hbb)
      have SAk1 := Lib.hid (SAk0.out.below hbb)
      have BBk1 := Lib.hid (belowTo BBk0.out hbb BBk0.out.size)
      clear hbb OTk0 OLk0 OXk0 ORk0 SUk0 SGk0 SAk0 RUk0 RGk0 RAk0 BBk0 hTk00 hTk01 hTk02 hLk00 hLk01 hXk00 hXk01 hXk02 hXk03 hXk04 hRk00 hRk01 hRk02
      obtain ⟨hTk10, hTk11, hTk12, _, _⟩ := own3 OTk1.out
      obtain ⟨hLk10, hLk11, _, _⟩ := own2 OLk1.out
      obtain ⟨hXk10, hXk11, hXk12, hXk13, hXk14, _, _⟩ := own5 OXk1.out
      obtain ⟨hRk10, hRk11, hRk12, _, _⟩ := own3 ORk1.out
      refine hK.out _ _ (⟨hRk10, hRk11, hRk12, hXk10, hXk11, hTk10, hTk11, hTk12⟩) ?_
      clear hK K hHeld
      intro hHeld
      try simp only [Act.put, List.setIfInBounds_toArray, List.set_cons_zero, List.set_cons_succ]
      refine wpH_one (i := 10) (by kernel_rfl) rfl (fun K hK => ?_)
      rw [if_pos (by rfl)]
      go_simp
      refine (same_lit _ _ _ _ _ _ us us gs gs ks ks _ YUk1.out YGk1.out YAk1.out SUk1.out SGk1.out SAk1.out (by omega) (by omega) (by omega) true samT_rfl).mono ?_
      rintro e wk2 ⟨rfl, hbb⟩
      have OTk2 := Lib.hid (OTk1.out.below hbb)
      have OLk2 := Lib.hid (OLk1.out.below hbb)
      have OXk2 := Lib.hid (OXk1.out.below hbb)
      have ORk2 := Lib.hid (ORk1.out.below hbb)
      have SUk2 := Lib.hid (SUk1.out.below hbb)
      have SGk2 := Lib.hid (SGk1.out.below hbb)
      have SAk2 := Lib.hid (SAk1.out.below hbb)
      have BBk2 := Lib.hid (belowTo BBk1.out hbb BBk1.out.size)
      clear hbb OTk1 OLk1 OXk1 ORk1 SUk1 SGk1 SAk1 YUk1 YGk1 YAk1 BBk1 hTk10 hTk11 hTk12 hLk10 hLk11 hXk10 hXk11 hXk12 hXk13 hXk14 hRk10 hRk11 hRk12
      obtain ⟨hTk20, hTk21, hTk22, _, _⟩ := own3 OTk2.out
      obtain ⟨hLk20, hLk21, _, _⟩ := own2 OLk2.out
      obtain ⟨hXk20, hXk21, hXk22, hXk23, hXk24, _, _⟩ := own5 OXk2.out
      obtain ⟨hRk20, hRk21, hRk22, _, _⟩ := own3 ORk2.out
      refine hK.out _ _ (⟨hRk20, hRk21, hRk22, hXk20, hXk21, hTk20, hTk21, hTk22⟩) ?_
      clear hK K hHeld
      intro hHeld
      try simp only [Act.put, List.setIfInBounds_toArray, List.set_cons_zero, List.set_cons_succ]
      refine wpH_take (i := 11) (some 57) (v := ?x28v) rfl (by kernel_rfl) (by kernel_rfl) (by kernel_rfl) rfl (fun _ _ _ h => h) (Or.inl ⟨by rfl, ?x28y⟩) hHeld ?x28r
      case x28y => (intro w hSw; (try dsimp only at hSw); go_simp; try with_reducible rfl)
      try simp only [Act.put, List.setIfInBounds_toArray, List.set_cons_zero, List.set_cons_succ]
      refine wpH_take (i := 12) (some 58) (v := ?x29v) rfl (by kernel_rfl) (by kernel_rfl) (by kernel_rfl) rfl (fun _ _ _ h => h) (Or.inl ⟨by rfl, ?x29y⟩) hHeld ?x29r
      case x29y => (intro w hSw; (try dsimp only at hSw); go_simp; try with_reducible rfl)
      try simp only [Act.put, List.setIfInBounds_toArray, List.set_cons_zero, List.set_cons_succ]
      refine wpH_take (i := 13) (some 6) (v := ?x30v) rfl (by kernel_rfl) (by kernel_rfl) (by kernel_rfl) rfl (fun _ _ _ h => h) (Or.inl ⟨by rfl, ?x30y⟩) hHeld ?x30r
      case x30y => (intro w hSw; (try dsimp only at hSw); go_simp; try with_reducible rfl)
      try simp only [Act.put, List.setIfInBounds_toArray, List.set_cons_zero, List.set_cons_succ]
      refine wpAnyH_done (by kernel_rfl) ?_ _
      have oT := OTk2.out
      have oL := OLk2.out
      have oX := OXk2.out
      have oR := ORk2.out
      have bel := BBk2.out
      have SU := SUk2
      have SG := SGk2
      have SA := SAk2
      clear OTk2 OLk2 OXk2 ORk2 BBk2 SUk2 SGk2 SAk2 hTk20 hTk21 hTk22 hLk20 hLk21 hXk20 hXk21 hXk22 hXk23 hXk24 hRk20 hRk21 hRk22
      obtain ⟨cT0, cT1, cT2, fT, zT⟩ := own3 oT
      obtain ⟨cL0, cL1, fL, zL⟩ := own2 oL
      obtain ⟨cX0, cX1, cX2, cX3, cX4, fX, zX⟩ := own5 oX
      obtain ⟨cR0, cR1, cR2, fR, zR⟩ := own3 oR
      go_wp2_with fail
      go_ret
      exact ⟨rfl, bel⟩

theorem cellsBack_walk (vu vg va : Value) (us : List Us) (gs : List Gr) (ks : List Ak) (N D : Int) (s o p m u : Int) (w : World) (su : SlU w vu us) (sg : SlG w vg gs) (sa : SlA w va ks) {q1 q2 q3 q4 q5 q6 q7 : Prop} (_ : q1) (_ : q2) (_ : q3) (_ : q4) (_ : q5) (_ : q6) (_ : q7) : Calls Try.prog 7 #[.agg #[vu, vg, va], .agg #[.int .i64 N, .int .i64 D], .agg #[.int .i64 s, .int .i64 o, .int .i64 p, .int .i64 m, .int .i64 u]] w fun e w' => e = .returned (.bool true) ∧ Below w.heap.size w w' := by
  cases hf : fewB us gs ks with
  | false => exact back_few vu vg va us gs ks N D ⟨s, o, p, m, u⟩ w su sg sa hf
  | true =>
    cases hv : vldT N D us gs ks with
    | false => exact back_bad vu vg va us gs ks N D ⟨s, o, p, m, u⟩ w su sg sa hf hv
    | true =>
      cases ha : ks.any (fun d => d.s == s) with
      | true => exact back_ask vu vg va us gs ks N D ⟨s, o, p, m, u⟩ w su sg sa hf hv ha
      | false =>
        by_cases he : agE N D us gs ks ⟨s, o, p, m, u⟩ = 0
        · exact back_go vu vg va us gs ks N D ⟨s, o, p, m, u⟩ w su sg sa hf hv ha he
        · exact back_no vu vg va us gs ks N D ⟨s, o, p, m, u⟩ w su sg sa hf hv ha _ rfl he

end Go.Proofs.Ytdmadnoijhmbcaa

/- refused: the error of an addition. -/
import Derived.Test.YtdmadnoijhmbcaaVld12
import Derived.Test.YtdmadnoijhmbcaaIx12
import Derived.Test.YtdmadnoijhmbcaaPlain12b
namespace Go.Proofs.Ytdmadnoijhmbcaa
open Go.RowKit

set_option linter.unusedSimpArgs false in
set_option linter.unusedVariables false in
set_option maxRecDepth 100000 in
set_option maxHeartbeats 2000000 in
theorem rfs_u_v0 (vu vg va : Value) (us : List Us) (gs : List Gr) (ks : List Ak) (N D : Int) (w : World) (su : SlU w vu us) (sg : SlG w vg gs) (sa : SlA w va ks) (x : Us) (u70 : us.length ≤ 70) (g70 : gs.length ≤ 70) (k70 : ks.length ≤ 70) (hv : vldT N D us gs ks = false) : Calls Try.prog 29 #[.agg #[vu, vg, va], .agg #[.int .i64 N, .int .i64 D], (.iface 66 (.agg #[.int .i64 x.s, .int .i64 x.o, .int .i64 x.p, .int .i64 x.m]))] w fun e w' => e = .returned (.int .i64 1) ∧ Below w.heap.size w w' := by
  have hfc := field_cell
  obtain ⟨pu, cu, e0, hlu, hcu, _⟩ := su.form us.length rfl
  subst e0
  obtain ⟨pg, cg, e0, hlg, hcg, _⟩ := sg.form gs.length rfl
  subst e0
  obtain ⟨pa, ca, e0, hla, hca, _⟩ := sa.form ks.length rfl
  subst e0
  have SU := Lib.hid su
  have SG := Lib.hid sg
  have SA := Lib.hid sa
  clear su sg sa
  have iu0 : (0 : Int) ≤ (us.length : Int) := Int.natCast_nonneg _
  have ig0 : (0 : Int) ≤ (gs.length : Int) := Int.natCast_nonneg _
  have ia0 : (0 : Int) ≤ (ks.length : Int) := Int.natCast_nonneg _
  have iu : (us.length : Int) ≤ 70 := by omega
  have ig : (gs.length : Int) ≤ 70 := by omega
  have ia : (ks.length : Int) ≤ 70 := by omega
  have HV := Lib.hid hv
  clear hv
  go_enter Try.func29, Try.ntmps29
  have BW := Lib.hid (show Below w.heap.size w ((w.alloc (.cells #[.slice pu us.length cu, .slice pg gs.length cg, .slice pa ks.length ca] 26)).alloc (.cells #[.int .i64 N, .int .i64 D] 28)) from (((Below.refl _ _).alloc (Nat.le_refl _) _).alloc (by simp) _))
  go_wp2_with fail
  refine (valid_lit _ _ _ us gs ks N D _ (SU.out.below BW.out) (SG.out.below BW.out) (SA.out.below BW.out) (by omega) (by omega) (by omega) false HV.out).mono ?_
  rintro e w1 ⟨rfl, hb⟩
  have oT : Own w1 w.heap.size [.slice pu us.length cu, .slice pg gs.length cg, .slice pa ks.length ca] 26 := ((own_at _ _ rfl).alloc _).below hb
  have oL : Own w1 (w.heap.size + 1) [.int .i64 N, .int .i64 D] 28 := (own_at _ _ (by simp)).below hb
  have bel := belowTo (((Below.refl w.heap.size w).alloc (by simp) _).alloc (by simp) _) hb (by simp; omega)
  clear hb
  obtain ⟨cT0, cT1, cT2, fT, zT⟩ := own3 oT
  obtain ⟨cL0, cL1, fL, zL⟩ := own2 oL
  go_wp2_with fail
  go_ret
  exact ⟨rfl, bel⟩

set_option linter.unusedSimpArgs false in
set_option linter.unusedVariables false in
set_option maxRecDepth 100000 in
set_option maxHeartbeats 2000000 in
theorem rfs_u_v1 (vu vg va : Value) (us : List Us) (gs : List Gr) (ks : List Ak) (N D : Int) (w : World) (su : SlU w vu us) (sg : SlG w vg gs) (sa : SlA w va ks) (x : Us) (u70 : us.length ≤ 70) (g70 : gs.length ≤ 70) (k70 : ks.length ≤ 70) (hv : vldT N D us gs ks = true) (ho : usB N D x = false) : Calls Try.prog 29 #[.agg #[vu, vg, va], .agg #[.int .i64 N, .int .i64 D], (.iface 66 (.agg #[.int .i64 x.s, .int .i64 x.o, .int .i64 x.p, .int .i64 x.m]))] w fun e w' => e = .returned (.int .i64 1) ∧ Below w.heap.size w w' := by
  have hfc := field_cell
  obtain ⟨pu, cu, e0, hlu, hcu, _⟩ := su.form us.length rfl
  subst e0
  obtain ⟨pg, cg, e0, hlg, hcg, _⟩ := sg.form gs.length rfl
  subst e0
  obtain ⟨pa, ca, e0, hla, hca, _⟩ := sa.form ks.length rfl
  subst e0
  have SU := Lib.hid su
  have SG := Lib.hid sg
  have SA := Lib.hid sa
  clear su sg sa
  have iu0 : (0 : Int) ≤ (us.length : Int) := Int.natCast_nonneg _
  have ig0 : (0 : Int) ≤ (gs.length : Int) := Int.natCast_nonneg _
  have ia0 : (0 : Int) ≤ (ks.length : Int) := Int.natCast_nonneg _
  have iu : (us.length : Int) ≤ 70 := by omega
  have ig : (gs.length : Int) ≤ 70 := by omega
  have ia : (ks.length : Int) ≤ 70 := by omega
  have HV := Lib.hid hv
  have HO := Lib.hid ho
  clear hv ho
  go_enter Try.func29, Try.ntmps29
  have BW := Lib.hid (show Below w.heap.size w ((w.alloc (.cells #[.slice pu us.length cu, .slice pg gs.length cg, .slice pa ks.length ca] 26)).alloc (.cells #[.int .i64 N, .int .i64 D] 28)) from (((Below.refl _ _).alloc (Nat.le_refl _) _).alloc (by simp) _))
  go_wp2_with fail
  refine (valid_lit _ _ _ us gs ks N D _ (SU.out.below BW.out) (SG.out.below BW.out) (SA.out.below BW.out) (by omega) (by omega) (by omega) true HV.out).mono ?_
  rintro e w1 ⟨rfl, hb⟩
  have oT : Own w1 w.heap.size [.slice pu us.length cu, .slice pg gs.length cg, .slice pa ks.length ca] 26 := ((own_at _ _ rfl).alloc _).below hb
  have oL : Own w1 (w.heap.size + 1) [.int .i64 N, .int .i64 D] 28 := (own_at _ _ (by simp)).below hb
  have bel := belowTo (((Below.refl w.heap.size w).alloc (by simp) _).alloc (by simp) _) hb (by simp; omega)
  clear hb
  obtain ⟨cT0, cT1, cT2, fT, zT⟩ := own3 oT
  obtain ⟨cL0, cL1, fL, zL⟩ := own2 oL
  go_wp2_with fail
  refine (uval_lit x N D false _ HO.out).mono ?_
  rintro e w2 ⟨rfl, hb⟩
  replace oT := oT.below hb
  replace oL := oL.below hb
  replace bel := belowTo bel hb (by exact bel.size)
  clear hb
  clear cT0 cT1 cT2 fT zT cL0 cL1 fL zL
  obtain ⟨cT0, cT1, cT2, fT, zT⟩ := own3 oT
  obtain ⟨cL0, cL1, fL, zL⟩ := own2 oL
  go_wp2_with fail
  go_ret
  exact ⟨rfl, bel⟩

set_option linter.unusedSimpArgs false in
set_option linter.unusedVariables false in
set_option maxRecDepth 100000 in
set_option maxHeartbeats 2000000 in
theorem rfs_u_b (vu vg va : Value) (us : List Us) (gs : List Gr) (ks : List Ak) (N D : Int) (w : World) (su : SlU w vu us) (sg : SlG w vg gs) (sa : SlA w va ks) (x : Us) (u70 : us.length ≤ 70) (g70 : gs.length ≤ 70) (k70 : ks.length ≤ 70) (hv : vldT N D us gs ks = true) (ho : usB N D x = true) (hb : bsyB x.s us gs = true) : Calls Try.prog 29 #[.agg #[vu, vg, va], .agg #[.int .i64 N, .int .i64 D], (.iface 66 (.agg #[.int .i64 x.s, .int .i64 x.o, .int .i64 x.p, .int .i64 x.m]))] w fun e w' => e = .returned (.int .i64 5) ∧ Below w.heap.size w w' := by
  have hfc := field_cell
  obtain ⟨pu, cu, e0, hlu, hcu, _⟩ := su.form us.length rfl
  subst e0
  obtain ⟨pg, cg, e0, hlg, hcg, _⟩ := sg.form gs.length rfl
  subst e0
  obtain ⟨pa, ca, e0, hla, hca, _⟩ := sa.form ks.length rfl
  subst e0
  have SU := Lib.hid su
  have SG := Lib.hid sg
  have SA := Lib.hid sa
  clear su sg sa
  have iu0 : (0 : Int) ≤ (us.length : Int) := Int.natCast_nonneg _
  have ig0 : (0 : Int) ≤ (gs.length : Int) := Int.natCast_nonneg _
  have ia0 : (0 : Int) ≤ (ks.length : Int) := Int.natCast_nonneg _
  have iu : (us.length : Int) ≤ 70 := by omega
  have ig : (gs.length : Int) ≤ 70 := by omega
  have ia : (ks.length : Int) ≤ 70 := by omega
  have HV := Lib.hid hv
  have HO := Lib.hid ho
  have HB := Lib.hid hb
  clear hv ho hb
  go_enter Try.func29, Try.ntmps29
  have BW := Lib.hid (show Below w.heap.size w ((w.alloc (.cells #[.slice pu us.length cu, .slice pg gs.length cg, .slice pa ks.length ca] 26)).alloc (.cells #[.int .i64 N, .int .i64 D] 28)) from (((Below.refl _ _).alloc (Nat.le_refl _) _).alloc (by simp) _))
  go_wp2_with fail
  refine (valid_lit _ _ _ us gs ks N D _ (SU.out.below BW.out) (SG.out.below BW.out) (SA.out.below BW.out) (by omega) (by omega) (by omega) true HV.out).mono ?_
  rintro e w1 ⟨rfl, hb⟩
  have oT : Own w1 w.heap.size [.slice pu us.length cu, .slice pg gs.length cg, .slice pa ks.length ca] 26 := ((own_at _ _ rfl).alloc _).below hb
  have oL : Own w1 (w.heap.size + 1) [.int .i64 N, .int .i64 D] 28 := (own_at _ _ (by simp)).below hb
  have bel := belowTo (((Below.refl w.heap.size w).alloc (by simp) _).alloc (by simp) _) hb (by simp; omega)
  clear hb
  obtain ⟨cT0, cT1, cT2, fT, zT⟩ := own3 oT
  obtain ⟨cL0, cL1, fL, zL⟩ := own2 oL
  go_wp2_with fail
  refine (uval_lit x N D true _ HO.out).mono ?_
  rintro e w2 ⟨rfl, hb⟩
  replace oT := oT.below hb
  replace oL := oL.below hb
  replace bel := belowTo bel hb (by exact bel.size)
  clear hb
  clear cT0 cT1 cT2 fT zT cL0 cL1 fL zL
  obtain ⟨cT0, cT1, cT2, fT, zT⟩ := own3 oT
  obtain ⟨cL0, cL1, fL, zL⟩ := own2 oL
  go_wp2_with fail
  have OTd := Lib.hid oT.drew
  have BDd := Lib.hid (Below.refl w2.heap.size w2).drew
  obtain ⟨e0, e1, e2, _, _⟩ := own3 OTd.out
  refine region_H 6 #[false, false, false, false, false, false] (by kernel_rfl) (by kernel_rfl) (fun w' => w'.cell? ⟨w.heap.size, 0, none⟩ = some (.slice pu us.length cu) ∧ w'.cell? ⟨w.heap.size, 1, none⟩ = some (.slice pg gs.length cg) ∧ w'.cell? ⟨w.heap.size, 2, none⟩ = some (.slice pa ks.length ca)) (by kernel_rfl) ?x1s (fun hHeld => ?x1r)
  case x1s => exact ⟨e0, e1, e2⟩
  refine wpH_take (i := 0) (some 19) (v := ?x2v) rfl (by kernel_rfl) (by kernel_rfl) (by kernel_rfl) rfl (fun _ _ _ h => h) (Or.inl ⟨by rfl, ?x2y⟩) hHeld ?x2r
  case x2y => (intro w hSw; (try dsimp only at hSw); go_simp; try with_reducible rfl)
  try simp only [Act.put, List.setIfInBounds_toArray, List.set_cons_zero, List.set_cons_succ]
  refine wpH_take (i := 1) (some 20) (v := ?x3v) rfl (by kernel_rfl) (by kernel_rfl) (by kernel_rfl) rfl (fun _ _ _ h => h) (Or.inl ⟨by rfl, ?x3y⟩) hHeld ?x3r
  case x3y => (intro w hSw; (try dsimp only at hSw); go_simp; try with_reducible rfl)
  try simp only [Act.put, List.setIfInBounds_toArray, List.set_cons_zero, List.set_cons_succ]
  refine wpH_one (i := 2) (by kernel_rfl) rfl (fun K hK => ?_)
  rw [if_pos (by rfl)]
  go_simp
  refine (ucell_any x.s x.o x.p x.m _).mono ?_
  rintro e w3 ⟨rfl, hbb⟩
  have OT3 := Lib.hid (OTd.out.below hbb)
  have B3 := Lib.hid (belowTo BDd.out hbb BDd.out.size)
  clear hbb
  obtain ⟨g0, g1, g2, _, _⟩ := own3 OT3.out
  have BT3 := Lib.hid (belowTo bel B3.out bel.size)
  refine hK.out _ _ (⟨g0, g1, g2⟩) ?_
  clear hK K hHeld
  intro hHeld
  try simp only [Act.put, List.setIfInBounds_toArray, List.set_cons_zero, List.set_cons_succ]
  refine wpH_take (i := 3) (some 22) (v := ?x5v) rfl (by kernel_rfl) (by kernel_rfl) (by kernel_rfl) rfl (fun _ _ _ h => h) (Or.inl ⟨by rfl, ?x5y⟩) hHeld ?x5r
  case x5y => (intro w hSw; (try dsimp only at hSw); go_simp; try with_reducible rfl)
  try simp only [Act.put, List.setIfInBounds_toArray, List.set_cons_zero, List.set_cons_succ]
  refine wpH_one (i := 4) (by kernel_rfl) rfl (fun K hK => ?_)
  rw [if_pos (by rfl)]
  go_simp
  refine (busy_lit _ _ _ us gs x.s _ (SU.out.below BT3.out) (SG.out.below BT3.out) true HB.out).mono ?_
  rintro e w4 ⟨rfl, hbb⟩
  have OT4 := Lib.hid (OT3.out.below hbb)
  have BT4 := Lib.hid (belowTo BT3.out hbb BT3.out.size)
  clear hbb
  obtain ⟨h0, h1, h2, _, _⟩ := own3 OT4.out
  refine hK.out _ _ (⟨h0, h1, h2⟩) ?_
  clear hK K hHeld
  intro hHeld
  try simp only [Act.put, List.setIfInBounds_toArray, List.set_cons_zero, List.set_cons_succ]
  refine wpH_take (i := 5) (some 18) (v := ?x7v) rfl (by kernel_rfl) (by kernel_rfl) (by kernel_rfl) rfl (fun _ _ _ h => h) (Or.inl ⟨by rfl, ?x7y⟩) hHeld ?x7r
  case x7y => (intro w hSw; (try dsimp only at hSw); go_simp; try with_reducible rfl)
  try simp only [Act.put, List.setIfInBounds_toArray, List.set_cons_zero, List.set_cons_succ]
  refine wpAnyH_done (by kernel_rfl) ?_ _
  clear cT0 cT1 cT2 fT zT e0 e1 e2 g0 g1 g2
  go_wp2_with fail
  go_ret
  exact ⟨rfl, BT4.out⟩

set_option linter.unusedSimpArgs false in
set_option linter.unusedVariables false in
set_option maxRecDepth 100000 in
set_option maxHeartbeats 2000000 in
theorem rfs_u_f (vu vg va : Value) (us : List Us) (gs : List Gr) (ks : List Ak) (N D : Int) (w : World) (su : SlU w vu us) (sg : SlG w vg gs) (sa : SlA w va ks) (x : Us) (u70 : us.length ≤ 70) (g70 : gs.length ≤ 70) (k70 : ks.length ≤ 70) (hv : vldT N D us gs ks = true) (ho : usB N D x = true) (hb : bsyB x.s us gs = false) (hf : 24 ≤ (us.length : Int) + (gs.length : Int)) : Calls Try.prog 29 #[.agg #[vu, vg, va], .agg #[.int .i64 N, .int .i64 D], (.iface 66 (.agg #[.int .i64 x.s, .int .i64 x.o, .int .i64 x.p, .int .i64 x.m]))] w fun e w' => e = .returned (.int .i64 10) ∧ Below w.heap.size w w' := by
  have hfc := field_cell
  obtain ⟨pu, cu, e0, hlu, hcu, _⟩ := su.form us.length rfl
  subst e0
  obtain ⟨pg, cg, e0, hlg, hcg, _⟩ := sg.form gs.length rfl
  subst e0
  obtain ⟨pa, ca, e0, hla, hca, _⟩ := sa.form ks.length rfl
  subst e0
  have SU := Lib.hid su
  have SG := Lib.hid sg
  have SA := Lib.hid sa
  clear su sg sa
  have iu0 : (0 : Int) ≤ (us.length : Int) := Int.natCast_nonneg _
  have ig0 : (0 : Int) ≤ (gs.length : Int) := Int.natCast_nonneg _
  have ia0 : (0 : Int) ≤ (ks.length : Int) := Int.natCast_nonneg _
  have iu : (us.length : Int) ≤ 70 := by omega
  have ig : (gs.length : Int) ≤ 70 := by omega
  have ia : (ks.length : Int) ≤ 70 := by omega
  have HV := Lib.hid hv
  have HO := Lib.hid ho
  have HB := Lib.hid hb
  clear hv ho hb
  have hfb : (24 : Int) ≤ (us.length : Int) + (gs.length : Int) := hf
  go_enter Try.func29, Try.ntmps29
  have BW := Lib.hid (show Below w.heap.size w ((w.alloc (.cells #[.slice pu us.length cu, .slice pg gs.length cg, .slice pa ks.length ca] 26)).alloc (.cells #[.int .i64 N, .int .i64 D] 28)) from (((Below.refl _ _).alloc (Nat.le_refl _) _).alloc (by simp) _))
  go_wp2_with fail
  refine (valid_lit _ _ _ us gs ks N D _ (SU.out.below BW.out) (SG.out.below BW.out) (SA.out.below BW.out) (by omega) (by omega) (by omega) true HV.out).mono ?_
  rintro e w1 ⟨rfl, hb⟩
  have oT : Own w1 w.heap.size [.slice pu us.length cu, .slice pg gs.length cg, .slice pa ks.length ca] 26 := ((own_at _ _ rfl).alloc _).below hb
  have oL : Own w1 (w.heap.size + 1) [.int .i64 N, .int .i64 D] 28 := (own_at _ _ (by simp)).below hb
  have bel := belowTo (((Below.refl w.heap.size w).alloc (by simp) _).alloc (by simp) _) hb (by simp; omega)
  clear hb
  obtain ⟨cT0, cT1, cT2, fT, zT⟩ := own3 oT
  obtain ⟨cL0, cL1, fL, zL⟩ := own2 oL
  go_wp2_with fail
  refine (uval_lit x N D true _ HO.out).mono ?_
  rintro e w2 ⟨rfl, hb⟩
  replace oT := oT.below hb
  replace oL := oL.below hb
  replace bel := belowTo bel hb (by exact bel.size)
  clear hb
  clear cT0 cT1 cT2 fT zT cL0 cL1 fL zL
  obtain ⟨cT0, cT1, cT2, fT, zT⟩ := own3 oT
  obtain ⟨cL0, cL1, fL, zL⟩ := own2 oL
  go_wp2_with fail
  have OTd := Lib.hid oT.drew
  have BDd := Lib.hid (Below.refl w2.heap.size w2).drew
  obtain ⟨e0, e1, e2, _, _⟩ := own3 OTd.out
  refine region_H 6 #[false, false, false, false, false, false] (by kernel_rfl) (by kernel_rfl) (fun w' => w'.cell? ⟨w.heap.size, 0, none⟩ = some (.slice pu us.length cu) ∧ w'.cell? ⟨w.heap.size, 1, none⟩ = some (.slice pg gs.length cg) ∧ w'.cell? ⟨w.heap.size, 2, none⟩ = some (.slice pa ks.length ca)) (by kernel_rfl) ?x8s (fun hHeld => ?x8r)
  case x8s => exact ⟨e0, e1, e2⟩
  refine wpH_take (i := 0) (some 19) (v := ?x9v) rfl (by kernel_rfl) (by kernel_rfl) (by kernel_rfl) rfl (fun _ _ _ h => h) (Or.inl ⟨by rfl, ?x9y⟩) hHeld ?x9r
  case x9y => (intro w hSw; (try dsimp only at hSw); go_simp; try with_reducible rfl)
  try simp only [Act.put, List.setIfInBounds_toArray, List.set_cons_zero, List.set_cons_succ]
  refine wpH_take (i := 1) (some 20) (v := ?x10v) rfl (by kernel_rfl) (by kernel_rfl) (by kernel_rfl) rfl (fun _ _ _ h => h) (Or.inl ⟨by rfl, ?x10y⟩) hHeld ?x10r
  case x10y => (intro w hSw; (try dsimp only at hSw); go_simp; try with_reducible rfl)
  try simp only [Act.put, List.setIfInBounds_toArray, List.set_cons_zero, List.set_cons_succ]
  refine wpH_one (i := 2) (by kernel_rfl) rfl (fun K hK => ?_)
  rw [if_pos (by rfl)]
  go_simp
  refine (ucell_any x.s x.o x.p x.m _).mono ?_
  rintro e w3 ⟨rfl, hbb⟩
  have OT3 := Lib.hid (OTd.out.below hbb)
  have B3 := Lib.hid (belowTo BDd.out hbb BDd.out.size)
  clear hbb
  obtain ⟨g0, g1, g2, _, _⟩ := own3 OT3.out
  have BT3 := Lib.hid (belowTo bel B3.out bel.size)
  refine hK.out _ _ (⟨g0, g1, g2⟩) ?_
  clear hK K hHeld
  intro hHeld
  try simp only [Act.put, List.setIfInBounds_toArray, List.set_cons_zero, List.set_cons_succ]
  refine wpH_take (i := 3) (some 22) (v := ?x12v) rfl (by kernel_rfl) (by kernel_rfl) (by kernel_rfl) rfl (fun _ _ _ h => h) (Or.inl ⟨by rfl, ?x12y⟩) hHeld ?x12r
  case x12y => (intro w hSw; (try dsimp only at hSw); go_simp; try with_reducible rfl)
  try simp only [Act.put, List.setIfInBounds_toArray, List.set_cons_zero, List.set_cons_succ]
  refine wpH_one (i := 4) (by kernel_rfl) rfl (fun K hK => ?_)
  rw [if_pos (by rfl)]
  go_simp
  refine (busy_lit _ _ _ us gs x.s _ (SU.out.below BT3.out) (SG.out.below BT3.out) false HB.out).mono ?_
  rintro e w4 ⟨rfl, hbb⟩
  have OT4 := Lib.hid (OT3.out.below hbb)
  have BT4 := Lib.hid (belowTo BT3.out hbb BT3.out.size)
  clear hbb
  obtain ⟨h0, h1, h2, _, _⟩ := own3 OT4.out
  refine hK.out _ _ (⟨h0, h1, h2⟩) ?_
  clear hK K hHeld
  intro hHeld
  try simp only [Act.put, List.setIfInBounds_toArray, List.set_cons_zero, List.set_cons_succ]
  refine wpH_take (i := 5) (some 18) (v := ?x14v) rfl (by kernel_rfl) (by kernel_rfl) (by kernel_rfl) rfl (fun _ _ _ h => h) (Or.inl ⟨by rfl, ?x14y⟩) hHeld ?x14r
  case x14y => (intro w hSw; (try dsimp only at hSw); go_simp; try with_reducible rfl)
  try simp only [Act.put, List.setIfInBounds_toArray, List.set_cons_zero, List.set_cons_succ]
  refine wpAnyH_done (by kernel_rfl) ?_ _
  clear cT0 cT1 cT2 fT zT e0 e1 e2 g0 g1 g2
  go_wp2_with fail
  go_ret
  exact ⟨rfl, BT4.out⟩

set_option linter.unusedSimpArgs false in
set_option linter.unusedVariables false in
set_option maxRecDepth 100000 in
set_option maxHeartbeats 2000000 in
theorem rfs_u_o (vu vg va : Value) (us : List Us) (gs : List Gr) (ks : List Ak) (N D : Int) (w : World) (su : SlU w vu us) (sg : SlG w vg gs) (sa : SlA w va ks) (x : Us) (u70 : us.length ≤ 70) (g70 : gs.length ≤ 70) (k70 : ks.length ≤ 70) (hv : vldT N D us gs ks = true) (ho : usB N D x = true) (hb : bsyB x.s us gs = false) (hf : ¬ 24 ≤ (us.length : Int) + (gs.length : Int)) : Calls Try.prog 29 #[.agg #[vu, vg, va], .agg #[.int .i64 N, .int .i64 D], (.iface 66 (.agg #[.int .i64 x.s, .int .i64 x.o, .int .i64 x.p, .int .i64 x.m]))] w fun e w' => e = .returned (.int .i64 0) ∧ Below w.heap.size w w' := by
  have hfc := field_cell
  obtain ⟨pu, cu, e0, hlu, hcu, _⟩ := su.form us.length rfl
  subst e0
  obtain ⟨pg, cg, e0, hlg, hcg, _⟩ := sg.form gs.length rfl
  subst e0
  obtain ⟨pa, ca, e0, hla, hca, _⟩ := sa.form ks.length rfl
  subst e0
  have SU := Lib.hid su
  have SG := Lib.hid sg
  have SA := Lib.hid sa
  clear su sg sa
  have iu0 : (0 : Int) ≤ (us.length : Int) := Int.natCast_nonneg _
  have ig0 : (0 : Int) ≤ (gs.length : Int) := Int.natCast_nonneg _
  have ia0 : (0 : Int) ≤ (ks.length : Int) := Int.natCast_nonneg _
  have iu : (us.length : Int) ≤ 70 := by omega
  have ig : (gs.length : Int) ≤ 70 := by omega
  have ia : (ks.length : Int) ≤ 70 := by omega
  have HV := Lib.hid hv
  have HO := Lib.hid ho
  have HB := Lib.hid hb
  clear hv ho hb
  go_enter Try.func29, Try.ntmps29
  have BW := Lib.hid (show Below w.heap.size w ((w.alloc (.cells #[.slice pu us.length cu, .slice pg gs.length cg, .slice pa ks.length ca] 26)).alloc (.cells #[.int .i64 N, .int .i64 D] 28)) from (((Below.refl _ _).alloc (Nat.le_refl _) _).alloc (by simp) _))
  go_wp2_with fail
  refine (valid_lit _ _ _ us gs ks N D _ (SU.out.below BW.out) (SG.out.below BW.out) (SA.out.below BW.out) (by omega) (by omega) (by omega) true HV.out).mono ?_
  rintro e w1 ⟨rfl, hb⟩
  have oT : Own w1 w.heap.size [.slice pu us.length cu, .slice pg gs.length cg, .slice pa ks.length ca] 26 := ((own_at _ _ rfl).alloc _).below hb
  have oL : Own w1 (w.heap.size + 1) [.int .i64 N, .int .i64 D] 28 := (own_at _ _ (by simp)).below hb
  have bel := belowTo (((Below.refl w.heap.size w).alloc (by simp) _).alloc (by simp) _) hb (by simp; omega)
  clear hb
  obtain ⟨cT0, cT1, cT2, fT, zT⟩ := own3 oT
  obtain ⟨cL0, cL1, fL, zL⟩ := own2 oL
  go_wp2_with fail
  refine (uval_lit x N D true _ HO.out).mono ?_
  rintro e w2 ⟨rfl, hb⟩
  replace oT := oT.below hb
  replace oL := oL.below hb
  replace bel := belowTo bel hb (by exact bel.size)
  clear hb
  clear cT0 cT1 cT2 fT zT cL0 cL1 fL zL
  obtain ⟨cT0, cT1, cT2, fT, zT⟩ := own3 oT
  obtain ⟨cL0, cL1, fL, zL⟩ := own2 oL
  go_wp2_with fail
  have OTd := Lib.hid oT.drew
  have BDd := Lib.hid (Below.refl w2.heap.size w2).drew
  obtain ⟨e0, e1, e2, _, _⟩ := own3 OTd.out
  refine region_H 6 #[false, false, false, false, false, false] (by kernel_rfl) (by kernel_rfl) (fun w' => w'.cell? ⟨w.heap.size, 0, none⟩ = some (.slice pu us.length cu) ∧ w'.cell? ⟨w.heap.size, 1, none⟩ = some (.slice pg gs.length cg) ∧ w'.cell? ⟨w.heap.size, 2, none⟩ = some (.slice pa ks.length ca)) (by kernel_rfl) ?x15s (fun hHeld => ?x15r)
  case x15s => exact ⟨e0, e1, e2⟩
  refine wpH_take (i := 0) (some 19) (v := ?x16v) rfl (by kernel_rfl) (by kernel_rfl) (by kernel_rfl) rfl (fun _ _ _ h => h) (Or.inl ⟨by rfl, ?x16y⟩) hHeld ?x16r
  case x16y => (intro w hSw; (try dsimp only at hSw); go_simp; try with_reducible rfl)
  try simp only [Act.put, List.setIfInBounds_toArray, List.set_cons_zero, List.set_cons_succ]
  refine wpH_take (i := 1) (some 20) (v := ?x17v) rfl (by kernel_rfl) (by kernel_rfl) (by kernel_rfl) rfl (fun _ _ _ h => h) (Or.inl ⟨by rfl, ?x17y⟩) hHeld ?x17r
  case x17y => (intro w hSw; (try dsimp only at hSw); go_simp; try with_reducible rfl)
  try simp only [Act.put, List.setIfInBounds_toArray, List.set_cons_zero, List.set_cons_succ]
  refine wpH_one (i := 2) (by kernel_rfl) rfl (fun K hK => ?_)
  rw [if_pos (by rfl)]
  go_simp
  refine (ucell_any x.s x.o x.p x.m _).mono ?_
  rintro e w3 ⟨rfl, hbb⟩
  have OT3 := Lib.hid (OTd.out.below hbb)
  have B3 := Lib.hid (belowTo BDd.out hbb BDd.out.size)
  clear hbb
  obtain ⟨g0, g1, g2, _, _⟩ := own3 OT3.out
  have BT3 := Lib.hid (belowTo bel B3.out bel.size)
  refine hK.out _ _ (⟨g0, g1, g2⟩) ?_
  clear hK K hHeld
  intro hHeld
  try simp only [Act.put, List.setIfInBounds_toArray, List.set_cons_zero, List.set_cons_succ]
  refine wpH_take (i := 3) (some 22) (v := ?x19v) rfl (by kernel_rfl) (by kernel_rfl) (by kernel_rfl) rfl (fun _ _ _ h => h) (Or.inl ⟨by rfl, ?x19y⟩) hHeld ?x19r
  case x19y => (intro w hSw; (try dsimp only at hSw); go_simp; try with_reducible rfl)
  try simp only [Act.put, List.setIfInBounds_toArray, List.set_cons_zero, List.set_cons_succ]
  refine wpH_one (i := 4) (by kernel_rfl) rfl (fun K hK => ?_)
  rw [if_pos (by rfl)]
  go_simp
  refine (busy_lit _ _ _ us gs x.s _ (SU.out.below BT3.out) (SG.out.below BT3.out) false HB.out).mono ?_
  rintro e w4 ⟨rfl, hbb⟩
  have OT4 := Lib.hid (OT3.out.below hbb)
  have BT4 := Lib.hid (belowTo BT3.out hbb BT3.out.size)
  clear hbb
  obtain ⟨h0, h1, h2, _, _⟩ := own3 OT4.out
  refine hK.out _ _ (⟨h0, h1, h2⟩) ?_
  clear hK K hHeld
  intro hHeld
  try simp only [Act.put, List.setIfInBounds_toArray, List.set_cons_zero, List.set_cons_succ]
  refine wpH_take (i := 5) (some 18) (v := ?x21v) rfl (by kernel_rfl) (by kernel_rfl) (by kernel_rfl) rfl (fun _ _ _ h => h) (Or.inl ⟨by rfl, ?x21y⟩) hHeld ?x21r
  case x21y => (intro w hSw; (try dsimp only at hSw); go_simp; try with_reducible rfl)
  try simp only [Act.put, List.setIfInBounds_toArray, List.set_cons_zero, List.set_cons_succ]
  refine wpAnyH_done (by kernel_rfl) ?_ _
  clear cT0 cT1 cT2 fT zT e0 e1 e2 g0 g1 g2
  go_wp2_with fail
  go_ret
  exact ⟨rfl, BT4.out⟩

theorem rfs_u (vu vg va : Value) (us : List Us) (gs : List Gr) (ks : List Ak) (N D : Int) (w : World) (su : SlU w vu us) (sg : SlG w vg gs) (sa : SlA w va ks) (x : Us) (u70 : us.length ≤ 70) (g70 : gs.length ≤ 70) (k70 : ks.length ≤ 70) : Calls Try.prog 29 #[.agg #[vu, vg, va], .agg #[.int .i64 N, .int .i64 D], (.iface 66 (.agg #[.int .i64 x.s, .int .i64 x.o, .int .i64 x.p, .int .i64 x.m]))] w fun e w' => e = .returned (.int .i64 (refE N D us gs ks (usB N D x) x.s)) ∧ Below w.heap.size w w' := by
  cases hv : vldT N D us gs ks with
  | false => rw [refE_v0 hv]; exact rfs_u_v0 vu vg va us gs ks N D w su sg sa x u70 g70 k70 hv
  | true =>
    cases ho : usB N D x with
    | false => rw [refE_v1 rfl]; exact rfs_u_v1 vu vg va us gs ks N D w su sg sa x u70 g70 k70 hv ho
    | true =>
      cases hb : bsyB x.s us gs with
      | true => rw [refE_b hv rfl hb]; exact rfs_u_b vu vg va us gs ks N D w su sg sa x u70 g70 k70 hv ho hb
      | false =>
        by_cases hf : 24 ≤ (us.length : Int) + (gs.length : Int)
        · rw [refE_f hv rfl hb hf]; exact rfs_u_f vu vg va us gs ks N D w su sg sa x u70 g70 k70 hv ho hb hf
        · rw [refE_o hv rfl hb hf]; exact rfs_u_o vu vg va us gs ks N D w su sg sa x u70 g70 k70 hv ho hb hf
theorem rfs_u_lit (vu vg va : Value) (us : List Us) (gs : List Gr) (ks : List Ak) (N D : Int) (w : World) (su : SlU w vu us) (sg : SlG w vg gs) (sa : SlA w va ks) (x : Us) (u70 : us.length ≤ 70) (g70 : gs.length ≤ 70) (k70 : ks.length ≤ 70) (r : Int) (h : auE N D us gs ks x = r) : Calls Try.prog 29 #[.agg #[vu, vg, va], .agg #[.int .i64 N, .int .i64 D], (.iface 66 (.agg #[.int .i64 x.s, .int .i64 x.o, .int .i64 x.p, .int .i64 x.m]))] w fun e w' => e = .returned (.int .i64 r) ∧ Below w.heap.size w w' := by
  rw [← h]; exact rfs_u vu vg va us gs ks N D w su sg sa x u70 g70 k70

set_option linter.unusedSimpArgs false in
set_option linter.unusedVariables false in
set_option maxRecDepth 100000 in
set_option maxHeartbeats 2000000 in
theorem rfs_g_v0 (vu vg va : Value) (us : List Us) (gs : List Gr) (ks : List Ak) (N D : Int) (w : World) (su : SlU w vu us) (sg : SlG w vg gs) (sa : SlA w va ks) (x : Gr) (u70 : us.length ≤ 70) (g70 : gs.length ≤ 70) (k70 : ks.length ≤ 70) (hv : vldT N D us gs ks = false) : Calls Try.prog 29 #[.agg #[vu, vg, va], .agg #[.int .i64 N, .int .i64 D], (.iface 73 (.agg #[.int .i64 x.s, .int .i64 x.o, .int .i64 x.p, .int .i64 x.m, .int .i64 x.u]))] w fun e w' => e = .returned (.int .i64 1) ∧ Below w.heap.size w w' := by
  have hfc := field_cell
  obtain ⟨pu, cu, e0, hlu, hcu, _⟩ := su.form us.length rfl
  subst e0
  obtain ⟨pg, cg, e0, hlg, hcg, _⟩ := sg.form gs.length rfl
  subst e0
  obtain ⟨pa, ca, e0, hla, hca, _⟩ := sa.form ks.length rfl
  subst e0
  have SU := Lib.hid su
  have SG := Lib.hid sg
  have SA := Lib.hid sa
  clear su sg sa
  have iu0 : (0 : Int) ≤ (us.length : Int) := Int.natCast_nonneg _
  have ig0 : (0 : Int) ≤ (gs.length : Int) := Int.natCast_nonneg _
  have ia0 : (0 : Int) ≤ (ks.length : Int) := Int.natCast_nonneg _
  have iu : (us.length : Int) ≤ 70 := by omega
  have ig : (gs.length : Int) ≤ 70 := by omega
  have ia : (ks.length : Int) ≤ 70 := by omega
  have HV := Lib.hid hv
  clear hv
  go_enter Try.func29, Try.ntmps29
  have BW := Lib.hid (show Below w.heap.size w ((w.alloc (.cells #[.slice pu us.length cu, .slice pg gs.length cg, .slice pa ks.length ca] 26)).alloc (.cells #[.int .i64 N, .int .i64 D] 28)) from (((Below.refl _ _).alloc (Nat.le_refl _) _).alloc (by simp) _))
  go_wp2_with fail
  refine (valid_lit _ _ _ us gs ks N D _ (SU.out.below BW.out) (SG.out.below BW.out) (SA.out.below BW.out) (by omega) (by omega) (by omega) false HV.out).mono ?_
  rintro e w1 ⟨rfl, hb⟩
  have oT : Own w1 w.heap.size [.slice pu us.length cu, .slice pg gs.length cg, .slice pa ks.length ca] 26 := ((own_at _ _ rfl).alloc _).below hb
  have oL : Own w1 (w.heap.size + 1) [.int .i64 N, .int .i64 D] 28 := (own_at _ _ (by simp)).below hb
  have bel := belowTo (((Below.refl w.heap.size w).alloc (by simp) _).alloc (by simp) _) hb (by simp; omega)
  clear hb
  obtain ⟨cT0, cT1, cT2, fT, zT⟩ := own3 oT
  obtain ⟨cL0, cL1, fL, zL⟩ := own2 oL
  go_wp2_with fail
  go_ret
  exact ⟨rfl, bel⟩

set_option linter.unusedSimpArgs false in
set_option linter.unusedVariables false in
set_option maxRecDepth 100000 in
set_option maxHeartbeats 2000000 in
theorem rfs_g_v1 (vu vg va : Value) (us : List Us) (gs : List Gr) (ks : List Ak) (N D : Int) (w : World) (su : SlU w vu us) (sg : SlG w vg gs) (sa : SlA w va ks) (x : Gr) (u70 : us.length ≤ 70) (g70 : gs.length ≤ 70) (k70 : ks.length ≤ 70) (hv : vldT N D us gs ks = true) (ho : grB N D x = false) : Calls Try.prog 29 #[.agg #[vu, vg, va], .agg #[.int .i64 N, .int .i64 D], (.iface 73 (.agg #[.int .i64 x.s, .int .i64 x.o, .int .i64 x.p, .int .i64 x.m, .int .i64 x.u]))] w fun e w' => e = .returned (.int .i64 1) ∧ Below w.heap.size w w' := by
  have hfc := field_cell
  obtain ⟨pu, cu, e0, hlu, hcu, _⟩ := su.form us.length rfl
  subst e0
  obtain ⟨pg, cg, e0, hlg, hcg, _⟩ := sg.form gs.length rfl
  subst e0
  obtain ⟨pa, ca, e0, hla, hca, _⟩ := sa.form ks.length rfl
  subst e0
  have SU := Lib.hid su
  have SG := Lib.hid sg
  have SA := Lib.hid sa
  clear su sg sa
  have iu0 : (0 : Int) ≤ (us.length : Int) := Int.natCast_nonneg _
  have ig0 : (0 : Int) ≤ (gs.length : Int) := Int.natCast_nonneg _
  have ia0 : (0 : Int) ≤ (ks.length : Int) := Int.natCast_nonneg _
  have iu : (us.length : Int) ≤ 70 := by omega
  have ig : (gs.length : Int) ≤ 70 := by omega
  have ia : (ks.length : Int) ≤ 70 := by omega
  have HV := Lib.hid hv
  have HO := Lib.hid ho
  clear hv ho
  go_enter Try.func29, Try.ntmps29
  have BW := Lib.hid (show Below w.heap.size w ((w.alloc (.cells #[.slice pu us.length cu, .slice pg gs.length cg, .slice pa ks.length ca] 26)).alloc (.cells #[.int .i64 N, .int .i64 D] 28)) from (((Below.refl _ _).alloc (Nat.le_refl _) _).alloc (by simp) _))
  go_wp2_with fail
  refine (valid_lit _ _ _ us gs ks N D _ (SU.out.below BW.out) (SG.out.below BW.out) (SA.out.below BW.out) (by omega) (by omega) (by omega) true HV.out).mono ?_
  rintro e w1 ⟨rfl, hb⟩
  have oT : Own w1 w.heap.size [.slice pu us.length cu, .slice pg gs.length cg, .slice pa ks.length ca] 26 := ((own_at _ _ rfl).alloc _).below hb
  have oL : Own w1 (w.heap.size + 1) [.int .i64 N, .int .i64 D] 28 := (own_at _ _ (by simp)).below hb
  have bel := belowTo (((Below.refl w.heap.size w).alloc (by simp) _).alloc (by simp) _) hb (by simp; omega)
  clear hb
  obtain ⟨cT0, cT1, cT2, fT, zT⟩ := own3 oT
  obtain ⟨cL0, cL1, fL, zL⟩ := own2 oL
  go_wp2_with fail
  refine (gval_lit x N D false _ HO.out).mono ?_
  rintro e w2 ⟨rfl, hb⟩
  replace oT := oT.below hb
  replace oL := oL.below hb
  replace bel := belowTo bel hb (by exact bel.size)
  clear hb
  clear cT0 cT1 cT2 fT zT cL0 cL1 fL zL
  obtain ⟨cT0, cT1, cT2, fT, zT⟩ := own3 oT
  obtain ⟨cL0, cL1, fL, zL⟩ := own2 oL
  go_wp2_with fail
  go_ret
  exact ⟨rfl, bel⟩

set_option linter.unusedSimpArgs false in
set_option linter.unusedVariables false in
set_option maxRecDepth 100000 in
set_option maxHeartbeats 2000000 in
theorem rfs_g_b (vu vg va : Value) (us : List Us) (gs : List Gr) (ks : List Ak) (N D : Int) (w : World) (su : SlU w vu us) (sg : SlG w vg gs) (sa : SlA w va ks) (x : Gr) (u70 : us.length ≤ 70) (g70 : gs.length ≤ 70) (k70 : ks.length ≤ 70) (hv : vldT N D us gs ks = true) (ho : grB N D x = true) (hb : bsyB x.s us gs = true) : Calls Try.prog 29 #[.agg #[vu, vg, va], .agg #[.int .i64 N, .int .i64 D], (.iface 73 (.agg #[.int .i64 x.s, .int .i64 x.o, .int .i64 x.p, .int .i64 x.m, .int .i64 x.u]))] w fun e w' => e = .returned (.int .i64 5) ∧ Below w.heap.size w w' := by
  have hfc := field_cell
  obtain ⟨pu, cu, e0, hlu, hcu, _⟩ := su.form us.length rfl
  subst e0
  obtain ⟨pg, cg, e0, hlg, hcg, _⟩ := sg.form gs.length rfl
  subst e0
  obtain ⟨pa, ca, e0, hla, hca, _⟩ := sa.form ks.length rfl
  subst e0
  have SU := Lib.hid su
  have SG := Lib.hid sg
  have SA := Lib.hid sa
  clear su sg sa
  have iu0 : (0 : Int) ≤ (us.length : Int) := Int.natCast_nonneg _
  have ig0 : (0 : Int) ≤ (gs.length : Int) := Int.natCast_nonneg _
  have ia0 : (0 : Int) ≤ (ks.length : Int) := Int.natCast_nonneg _
  have iu : (us.length : Int) ≤ 70 := by omega
  have ig : (gs.length : Int) ≤ 70 := by omega
  have ia : (ks.length : Int) ≤ 70 := by omega
  have HV := Lib.hid hv
  have HO := Lib.hid ho
  have HB := Lib.hid hb
  clear hv ho hb
  go_enter Try.func29, Try.ntmps29
  have BW := Lib.hid (show Below w.heap.size w ((w.alloc (.cells #[.slice pu us.length cu, .slice pg gs.length cg, .slice pa ks.length ca] 26)).alloc (.cells #[.int .i64 N, .int .i64 D] 28)) from (((Below.refl _ _).alloc (Nat.le_refl _) _).alloc (by simp) _))
  go_wp2_with fail
  refine (valid_lit _ _ _ us gs ks N D _ (SU.out.below BW.out) (SG.out.below BW.out) (SA.out.below BW.out) (by omega) (by omega) (by omega) true HV.out).mono ?_
  rintro e w1 ⟨rfl, hb⟩
  have oT : Own w1 w.heap.size [.slice pu us.length cu, .slice pg gs.length cg, .slice pa ks.length ca] 26 := ((own_at _ _ rfl).alloc _).below hb
  have oL : Own w1 (w.heap.size + 1) [.int .i64 N, .int .i64 D] 28 := (own_at _ _ (by simp)).below hb
  have bel := belowTo (((Below.refl w.heap.size w).alloc (by simp) _).alloc (by simp) _) hb (by simp; omega)
  clear hb
  obtain ⟨cT0, cT1, cT2, fT, zT⟩ := own3 oT
  obtain ⟨cL0, cL1, fL, zL⟩ := own2 oL
  go_wp2_with fail
  refine (gval_lit x N D true _ HO.out).mono ?_
  rintro e w2 ⟨rfl, hb⟩
  replace oT := oT.below hb
  replace oL := oL.below hb
  replace bel := belowTo bel hb (by exact bel.size)
  clear hb
  clear cT0 cT1 cT2 fT zT cL0 cL1 fL zL
  obtain ⟨cT0, cT1, cT2, fT, zT⟩ := own3 oT
  obtain ⟨cL0, cL1, fL, zL⟩ := own2 oL
  go_wp2_with fail
  have OTd := Lib.hid oT.drew
  have BDd := Lib.hid (Below.refl w2.heap.size w2).drew
  obtain ⟨e0, e1, e2, _, _⟩ := own3 OTd.out
  refine region_H 6 #[false, false, false, false, false, false] (by kernel_rfl) (by kernel_rfl) (fun w' => w'.cell? ⟨w.heap.size, 0, none⟩ = some (.slice pu us.length cu) ∧ w'.cell? ⟨w.heap.size, 1, none⟩ = some (.slice pg gs.length cg) ∧ w'.cell? ⟨w.heap.size, 2, none⟩ = some (.slice pa ks.length ca)) (by kernel_rfl) ?x22s (fun hHeld => ?x22r)
  case x22s => exact ⟨e0, e1, e2⟩
  refine wpH_take (i := 0) (some 19) (v := ?x23v) rfl (by kernel_rfl) (by kernel_rfl) (by kernel_rfl) rfl (fun _ _ _ h => h) (Or.inl ⟨by rfl, ?x23y⟩) hHeld ?x23r
  case x23y => (intro w hSw; (try dsimp only at hSw); go_simp; try with_reducible rfl)
  try simp only [Act.put, List.setIfInBounds_toArray, List.set_cons_zero, List.set_cons_succ]
  refine wpH_take (i := 1) (some 20) (v := ?x24v) rfl (by kernel_rfl) (by kernel_rfl) (by kernel_rfl) rfl (fun _ _ _ h => h) (Or.inl ⟨by rfl, ?x24y⟩) hHeld ?x24r
  case x24y => (intro w hSw; (try dsimp only at hSw); go_simp; try with_reducible rfl)
  try simp only [Act.put, List.setIfInBounds_toArray, List.set_cons_zero, List.set_cons_succ]
  refine wpH_one (i := 2) (by kernel_rfl) rfl (fun K hK => ?_)
  rw [if_pos (by rfl)]
  go_simp
  refine (gcell_any x.s x.o x.p x.m x.u _).mono ?_
  rintro e w3 ⟨rfl, hbb⟩
  have OT3 := Lib.hid (OTd.out.below hbb)
  have B3 := Lib.hid (belowTo BDd.out hbb BDd.out.size)
  clear hbb
  obtain ⟨g0, g1, g2, _, _⟩ := own3 OT3.out
  have BT3 := Lib.hid (belowTo bel B3.out bel.size)
  refine hK.out _ _ (⟨g0, g1, g2⟩) ?_
  clear hK K hHeld
  intro hHeld
  try simp only [Act.put, List.setIfInBounds_toArray, List.set_cons_zero, List.set_cons_succ]
  refine wpH_take (i := 3) (some 22) (v := ?x26v) rfl (by kernel_rfl) (by kernel_rfl) (by kernel_rfl) rfl (fun _ _ _ h => h) (Or.inl ⟨by rfl, ?x26y⟩) hHeld ?x26r
  case x26y => (intro w hSw; (try dsimp only at hSw); go_simp; try with_reducible rfl)
  try simp only [Act.put, List.setIfInBounds_toArray, List.set_cons_zero, List.set_cons_succ]
  refine wpH_one (i := 4) (by kernel_rfl) rfl (fun K hK => ?_)
  rw [if_pos (by rfl)]
  go_simp
  refine (busy_lit _ _ _ us gs x.s _ (SU.out.below BT3.out) (SG.out.below BT3.out) true HB.out).mono ?_
  rintro e w4 ⟨rfl, hbb⟩
  have OT4 := Lib.hid (OT3.out.below hbb)
  have BT4 := Lib.hid (belowTo BT3.out hbb BT3.out.size)
  clear hbb
  obtain ⟨h0, h1, h2, _, _⟩ := own3 OT4.out
  refine hK.out _ _ (⟨h0, h1, h2⟩) ?_
  clear hK K hHeld
  intro hHeld
  try simp only [Act.put, List.setIfInBounds_toArray, List.set_cons_zero, List.set_cons_succ]
  refine wpH_take (i := 5) (some 18) (v := ?x28v) rfl (by kernel_rfl) (by kernel_rfl) (by kernel_rfl) rfl (fun _ _ _ h => h) (Or.inl ⟨by rfl, ?x28y⟩) hHeld ?x28r
  case x28y => (intro w hSw; (try dsimp only at hSw); go_simp; try with_reducible rfl)
  try simp only [Act.put, List.setIfInBounds_toArray, List.set_cons_zero, List.set_cons_succ]
  refine wpAnyH_done (by kernel_rfl) ?_ _
  clear cT0 cT1 cT2 fT zT e0 e1 e2 g0 g1 g2
  go_wp2_with fail
  go_ret
  exact ⟨rfl, BT4.out⟩

set_option linter.unusedSimpArgs false in
set_option linter.unusedVariables false in
set_option maxRecDepth 100000 in
set_option maxHeartbeats 2000000 in
theorem rfs_g_f (vu vg va : Value) (us : List Us) (gs : List Gr) (ks : List Ak) (N D : Int) (w : World) (su : SlU w vu us) (sg : SlG w vg gs) (sa : SlA w va ks) (x : Gr) (u70 : us.length ≤ 70) (g70 : gs.length ≤ 70) (k70 : ks.length ≤ 70) (hv : vldT N D us gs ks = true) (ho : grB N D x = true) (hb : bsyB x.s us gs = false) (hf : 24 ≤ (us.length : Int) + (gs.length : Int)) : Calls Try.prog 29 #[.agg #[vu, vg, va], .agg #[.int .i64 N, .int .i64 D], (.iface 73 (.agg #[.int .i64 x.s, .int .i64 x.o, .int .i64 x.p, .int .i64 x.m, .int .i64 x.u]))] w fun e w' => e = .returned (.int .i64 10) ∧ Below w.heap.size w w' := by
  have hfc := field_cell
  obtain ⟨pu, cu, e0, hlu, hcu, _⟩ := su.form us.length rfl
  subst e0
  obtain ⟨pg, cg, e0, hlg, hcg, _⟩ := sg.form gs.length rfl
  subst e0
  obtain ⟨pa, ca, e0, hla, hca, _⟩ := sa.form ks.length rfl
  subst e0
  have SU := Lib.hid su
  have SG := Lib.hid sg
  have SA := Lib.hid sa
  clear su sg sa
  have iu0 : (0 : Int) ≤ (us.length : Int) := Int.natCast_nonneg _
  have ig0 : (0 : Int) ≤ (gs.length : Int) := Int.natCast_nonneg _
  have ia0 : (0 : Int) ≤ (ks.length : Int) := Int.natCast_nonneg _
  have iu : (us.length : Int) ≤ 70 := by omega
  have ig : (gs.length : Int) ≤ 70 := by omega
  have ia : (ks.length : Int) ≤ 70 := by omega
  have HV := Lib.hid hv
  have HO := Lib.hid ho
  have HB := Lib.hid hb
  clear hv ho hb
  have hfb : (24 : Int) ≤ (us.length : Int) + (gs.length : Int) := hf
  go_enter Try.func29, Try.ntmps29
  have BW := Lib.hid (show Below w.heap.size w ((w.alloc (.cells #[.slice pu us.length cu, .slice pg gs.length cg, .slice pa ks.length ca] 26)).alloc (.cells #[.int .i64 N, .int .i64 D] 28)) from (((Below.refl _ _).alloc (Nat.le_refl _) _).alloc (by simp) _))
  go_wp2_with fail
  refine (valid_lit _ _ _ us gs ks N D _ (SU.out.below BW.out) (SG.out.below BW.out) (SA.out.below BW.out) (by omega) (by omega) (by omega) true HV.out).mono ?_
  rintro e w1 ⟨rfl, hb⟩
  have oT : Own w1 w.heap.size [.slice pu us.length cu, .slice pg gs.length cg, .slice pa ks.length ca] 26 := ((own_at _ _ rfl).alloc _).below hb
  have oL : Own w1 (w.heap.size + 1) [.int .i64 N, .int .i64 D] 28 := (own_at _ _ (by simp)).below hb
  have bel := belowTo (((Below.refl w.heap.size w).alloc (by simp) _).alloc (by simp) _) hb (by simp; omega)
  clear hb
  obtain ⟨cT0, cT1, cT2, fT, zT⟩ := own3 oT
  obtain ⟨cL0, cL1, fL, zL⟩ := own2 oL
  go_wp2_with fail
  refine (gval_lit x N D true _ HO.out).mono ?_
  rintro e w2 ⟨rfl, hb⟩
  replace oT := oT.below hb
  replace oL := oL.below hb
  replace bel := belowTo bel hb (by exact bel.size)
  clear hb
  clear cT0 cT1 cT2 fT zT cL0 cL1 fL zL
  obtain ⟨cT0, cT1, cT2, fT, zT⟩ := own3 oT
  obtain ⟨cL0, cL1, fL, zL⟩ := own2 oL
  go_wp2_with fail
  have OTd := Lib.hid oT.drew
  have BDd := Lib.hid (Below.refl w2.heap.size w2).drew
  obtain ⟨e0, e1, e2, _, _⟩ := own3 OTd.out
  refine region_H 6 #[false, false, false, false, false, false] (by kernel_rfl) (by kernel_rfl) (fun w' => w'.cell? ⟨w.heap.size, 0, none⟩ = some (.slice pu us.length cu) ∧ w'.cell? ⟨w.heap.size, 1, none⟩ = some (.slice pg gs.length cg) ∧ w'.cell? ⟨w.heap.size, 2, none⟩ = some (.slice pa ks.length ca)) (by kernel_rfl) ?x29s (fun hHeld => ?x29r)
  case x29s => exact ⟨e0, e1, e2⟩
  refine wpH_take (i := 0) (some 19) (v := ?x30v) rfl (by kernel_rfl) (by kernel_rfl) (by kernel_rfl) rfl (fun _ _ _ h => h) (Or.inl ⟨by rfl, ?x30y⟩) hHeld ?x30r
  case x30y => (intro w hSw; (try dsimp only at hSw); go_simp; try with_reducible rfl)
  try simp only [Act.put, List.setIfInBounds_toArray, List.set_cons_zero, List.set_cons_succ]
  refine wpH_take (i := 1) (some 20) (v := ?x31v) rfl (by kernel_rfl) (by kernel_rfl) (by kernel_rfl) rfl (fun _ _ _ h => h) (Or.inl ⟨by rfl, ?x31y⟩) hHeld ?x31r
  case x31y => (intro w hSw; (try dsimp only at hSw); go_simp; try with_reducible rfl)
  try simp only [Act.put, List.setIfInBounds_toArray, List.set_cons_zero, List.set_cons_succ]
  refine wpH_one (i := 2) (by kernel_rfl) rfl (fun K hK => ?_)
  rw [if_pos (by rfl)]
  go_simp
  refine (gcell_any x.s x.o x.p x.m x.u _).mono ?_
  rintro e w3 ⟨rfl, hbb⟩
  have OT3 := Lib.hid (OTd.out.below hbb)
  have B3 := Lib.hid (belowTo BDd.out hbb BDd.out.size)
  clear hbb
  obtain ⟨g0, g1, g2, _, _⟩ := own3 OT3.out
  have BT3 := Lib.hid (belowTo bel B3.out bel.size)
  refine hK.out _ _ (⟨g0, g1, g2⟩) ?_
  clear hK K hHeld
  intro hHeld
  try simp only [Act.put, List.setIfInBounds_toArray, List.set_cons_zero, List.set_cons_succ]
  refine wpH_take (i := 3) (some 22) (v := ?x33v) rfl (by kernel_rfl) (by kernel_rfl) (by kernel_rfl) rfl (fun _ _ _ h => h) (Or.inl ⟨by rfl, ?x33y⟩) hHeld ?x33r
  case x33y => (intro w hSw; (try dsimp only at hSw); go_simp; try with_reducible rfl)
  try simp only [Act.put, List.setIfInBounds_toArray, List.set_cons_zero, List.set_cons_succ]
  refine wpH_one (i := 4) (by kernel_rfl) rfl (fun K hK => ?_)
  rw [if_pos (by rfl)]
  go_simp
  refine (busy_lit _ _ _ us gs x.s _ (SU.out.below BT3.out) (SG.out.below BT3.out) false HB.out).mono ?_
  rintro e w4 ⟨rfl, hbb⟩
  have OT4 := Lib.hid (OT3.out.below hbb)
  have BT4 := Lib.hid (belowTo BT3.out hbb BT3.out.size)
  clear hbb
  obtain ⟨h0, h1, h2, _, _⟩ := own3 OT4.out
  refine hK.out _ _ (⟨h0, h1, h2⟩) ?_
  clear hK K hHeld
  intro hHeld
  try simp only [Act.put, List.setIfInBounds_toArray, List.set_cons_zero, List.set_cons_succ]
  refine wpH_take (i := 5) (some 18) (v := ?x35v) rfl (by kernel_rfl) (by kernel_rfl) (by kernel_rfl) rfl (fun _ _ _ h => h) (Or.inl ⟨by rfl, ?x35y⟩) hHeld ?x35r
  case x35y => (intro w hSw; (try dsimp only at hSw); go_simp; try with_reducible rfl)
  try simp only [Act.put, List.setIfInBounds_toArray, List.set_cons_zero, List.set_cons_succ]
  refine wpAnyH_done (by kernel_rfl) ?_ _
  clear cT0 cT1 cT2 fT zT e0 e1 e2 g0 g1 g2
  go_wp2_with fail
  go_ret
  exact ⟨rfl, BT4.out⟩

set_option linter.unusedSimpArgs false in
set_option linter.unusedVariables false in
set_option maxRecDepth 100000 in
set_option maxHeartbeats 2000000 in
theorem rfs_g_o (vu vg va : Value) (us : List Us) (gs : List Gr) (ks : List Ak) (N D : Int) (w : World) (su : SlU w vu us) (sg : SlG w vg gs) (sa : SlA w va ks) (x : Gr) (u70 : us.length ≤ 70) (g70 : gs.length ≤ 70) (k70 : ks.length ≤ 70) (hv : vldT N D us gs ks = true) (ho : grB N D x = true) (hb : bsyB x.s us gs = false) (hf : ¬ 24 ≤ (us.length : Int) + (gs.length : Int)) : Calls Try.prog 29 #[.agg #[vu, vg, va], .agg #[.int .i64 N, .int .i64 D], (.iface 73 (.agg #[.int .i64 x.s, .int .i64 x.o, .int .i64 x.p, .int .i64 x.m, .int .i64 x.u]))] w fun e w' => e = .returned (.int .i64 0) ∧ Below w.heap.size w w' := by
  have hfc := field_cell
  obtain ⟨pu, cu, e0, hlu, hcu, _⟩ := su.form us.length rfl
  subst e0
  obtain ⟨pg, cg, e0, hlg, hcg, _⟩ := sg.form gs.length rfl
  subst e0
  obtain ⟨pa, ca, e0, hla, hca, _⟩ := sa.form ks.length rfl
  subst e0
  have SU := Lib.hid su
  have SG := Lib.hid sg
  have SA := Lib.hid sa
  clear su sg sa
  have iu0 : (0 : Int) ≤ (us.length : Int) := Int.natCast_nonneg _
  have ig0 : (0 : Int) ≤ (gs.length : Int) := Int.natCast_nonneg _
  have ia0 : (0 : Int) ≤ (ks.length : Int) := Int.natCast_nonneg _
  have iu : (us.length : Int) ≤ 70 := by omega
  have ig : (gs.length : Int) ≤ 70 := by omega
  have ia : (ks.length : Int) ≤ 70 := by omega
  have HV := Lib.hid hv
  have HO := Lib.hid ho
  have HB := Lib.hid hb
  clear hv ho hb
  go_enter Try.func29, Try.ntmps29
  have BW := Lib.hid (show Below w.heap.size w ((w.alloc (.cells #[.slice pu us.length cu, .slice pg gs.length cg, .slice pa ks.length ca] 26)).alloc (.cells #[.int .i64 N, .int .i64 D] 28)) from (((Below.refl _ _).alloc (Nat.le_refl _) _).alloc (by simp) _))
  go_wp2_with fail
  refine (valid_lit _ _ _ us gs ks N D _ (SU.out.below BW.out) (SG.out.below BW.out) (SA.out.below BW.out) (by omega) (by omega) (by omega) true HV.out).mono ?_
  rintro e w1 ⟨rfl, hb⟩
  have oT : Own w1 w.heap.size [.slice pu us.length cu, .slice pg gs.length cg, .slice pa ks.length ca] 26 := ((own_at _ _ rfl).alloc _).below hb
  have oL : Own w1 (w.heap.size + 1) [.int .i64 N, .int .i64 D] 28 := (own_at _ _ (by simp)).below hb
  have bel := belowTo (((Below.refl w.heap.size w).alloc (by simp) _).alloc (by simp) _) hb (by simp; omega)
  clear hb
  obtain ⟨cT0, cT1, cT2, fT, zT⟩ := own3 oT
  obtain ⟨cL0, cL1, fL, zL⟩ := own2 oL
  go_wp2_with fail
  refine (gval_lit x N D true _ HO.out).mono ?_
  rintro e w2 ⟨rfl, hb⟩
  replace oT := oT.below hb
  replace oL := oL.below hb
  replace bel := belowTo bel hb (by exact bel.size)
  clear hb
  clear cT0 cT1 cT2 fT zT cL0 cL1 fL zL
  obtain ⟨cT0, cT1, cT2, fT, zT⟩ := own3 oT
  obtain ⟨cL0, cL1, fL, zL⟩ := own2 oL
  go_wp2_with fail
  have OTd := Lib.hid oT.drew
  have BDd := Lib.hid (Below.refl w2.heap.size w2).drew
  obtain ⟨e0, e1, e2, _, _⟩ := own3 OTd.out
  refine region_H 6 #[false, false, false, false, false, false] (by kernel_rfl) (by kernel_rfl) (fun w' => w'.cell? ⟨w.heap.size, 0, none⟩ = some (.slice pu us.length cu) ∧ w'.cell? ⟨w.heap.size, 1, none⟩ = some (.slice pg gs.length cg) ∧ w'.cell? ⟨w.heap.size, 2, none⟩ = some (.slice pa ks.length ca)) (by kernel_rfl) ?x36s (fun hHeld => ?x36r)
  case x36s => exact ⟨e0, e1, e2⟩
  refine wpH_take (i := 0) (some 19) (v := ?x37v) rfl (by kernel_rfl) (by kernel_rfl) (by kernel_rfl) rfl (fun _ _ _ h => h) (Or.inl ⟨by rfl, ?x37y⟩) hHeld ?x37r
  case x37y => (intro w hSw; (try dsimp only at hSw); go_simp; try with_reducible rfl)
  try simp only [Act.put, List.setIfInBounds_toArray, List.set_cons_zero, List.set_cons_succ]
  refine wpH_take (i := 1) (some 20) (v := ?x38v) rfl (by kernel_rfl) (by kernel_rfl) (by kernel_rfl) rfl (fun _ _ _ h => h) (Or.inl ⟨by rfl, ?x38y⟩) hHeld ?x38r
  case x38y => (intro w hSw; (try dsimp only at hSw); go_simp; try with_reducible rfl)
  try simp only [Act.put, List.setIfInBounds_toArray, List.set_cons_zero, List.set_cons_succ]
  refine wpH_one (i := 2) (by kernel_rfl) rfl (fun K hK => ?_)
  rw [if_pos (by rfl)]
  go_simp
  refine (gcell_any x.s x.o x.p x.m x.u _).mono ?_
  rintro e w3 ⟨rfl, hbb⟩
  have OT3 := Lib.hid (OTd.out.below hbb)
  have B3 := Lib.hid (belowTo BDd.out hbb BDd.out.size)
  clear hbb
  obtain ⟨g0, g1, g2, _, _⟩ := own3 OT3.out
  have BT3 := Lib.hid (belowTo bel B3.out bel.size)
  refine hK.out _ _ (⟨g0, g1, g2⟩) ?_
  clear hK K hHeld
  intro hHeld
  try simp only [Act.put, List.setIfInBounds_toArray, List.set_cons_zero, List.set_cons_succ]
  refine wpH_take (i := 3) (some 22) (v := ?x40v) rfl (by kernel_rfl) (by kernel_rfl) (by kernel_rfl) rfl (fun _ _ _ h => h) (Or.inl ⟨by rfl, ?x40y⟩) hHeld ?x40r
  case x40y => (intro w hSw; (try dsimp only at hSw); go_simp; try with_reducible rfl)
  try simp only [Act.put, List.setIfInBounds_toArray, List.set_cons_zero, List.set_cons_succ]
  refine wpH_one (i := 4) (by kernel_rfl) rfl (fun K hK => ?_)
  rw [if_pos (by rfl)]
  go_simp
  refine (busy_lit _ _ _ us gs x.s _ (SU.out.below BT3.out) (SG.out.below BT3.out) false HB.out).mono ?_
  rintro e w4 ⟨rfl, hbb⟩
  have OT4 := Lib.hid (OT3.out.below hbb)
  have BT4 := Lib.hid (belowTo BT3.out hbb BT3.out.size)
  clear hbb
  obtain ⟨h0, h1, h2, _, _⟩ := own3 OT4.out
  refine hK.out _ _ (⟨h0, h1, h2⟩) ?_
  clear hK K hHeld
  intro hHeld
  try simp only [Act.put, List.setIfInBounds_toArray, List.set_cons_zero, List.set_cons_succ]
  refine wpH_take (i := 5) (some 18) (v := ?x42v) rfl (by kernel_rfl) (by kernel_rfl) (by kernel_rfl) rfl (fun _ _ _ h => h) (Or.inl ⟨by rfl, ?x42y⟩) hHeld ?x42r
  case x42y => (intro w hSw; (try dsimp only at hSw); go_simp; try with_reducible rfl)
  try simp only [Act.put, List.setIfInBounds_toArray, List.set_cons_zero, List.set_cons_succ]
  refine wpAnyH_done (by kernel_rfl) ?_ _
  clear cT0 cT1 cT2 fT zT e0 e1 e2 g0 g1 g2
  go_wp2_with fail
  go_ret
  exact ⟨rfl, BT4.out⟩

theorem rfs_g (vu vg va : Value) (us : List Us) (gs : List Gr) (ks : List Ak) (N D : Int) (w : World) (su : SlU w vu us) (sg : SlG w vg gs) (sa : SlA w va ks) (x : Gr) (u70 : us.length ≤ 70) (g70 : gs.length ≤ 70) (k70 : ks.length ≤ 70) : Calls Try.prog 29 #[.agg #[vu, vg, va], .agg #[.int .i64 N, .int .i64 D], (.iface 73 (.agg #[.int .i64 x.s, .int .i64 x.o, .int .i64 x.p, .int .i64 x.m, .int .i64 x.u]))] w fun e w' => e = .returned (.int .i64 (refE N D us gs ks (grB N D x) x.s)) ∧ Below w.heap.size w w' := by
  cases hv : vldT N D us gs ks with
  | false => rw [refE_v0 hv]; exact rfs_g_v0 vu vg va us gs ks N D w su sg sa x u70 g70 k70 hv
  | true =>
    cases ho : grB N D x with
    | false => rw [refE_v1 rfl]; exact rfs_g_v1 vu vg va us gs ks N D w su sg sa x u70 g70 k70 hv ho
    | true =>
      cases hb : bsyB x.s us gs with
      | true => rw [refE_b hv rfl hb]; exact rfs_g_b vu vg va us gs ks N D w su sg sa x u70 g70 k70 hv ho hb
      | false =>
        by_cases hf : 24 ≤ (us.length : Int) + (gs.length : Int)
        · rw [refE_f hv rfl hb hf]; exact rfs_g_f vu vg va us gs ks N D w su sg sa x u70 g70 k70 hv ho hb hf
        · rw [refE_o hv rfl hb hf]; exact rfs_g_o vu vg va us gs ks N D w su sg sa x u70 g70 k70 hv ho hb hf
theorem rfs_g_lit (vu vg va : Value) (us : List Us) (gs : List Gr) (ks : List Ak) (N D : Int) (w : World) (su : SlU w vu us) (sg : SlG w vg gs) (sa : SlA w va ks) (x : Gr) (u70 : us.length ≤ 70) (g70 : gs.length ≤ 70) (k70 : ks.length ≤ 70) (r : Int) (h : agE N D us gs ks x = r) : Calls Try.prog 29 #[.agg #[vu, vg, va], .agg #[.int .i64 N, .int .i64 D], (.iface 73 (.agg #[.int .i64 x.s, .int .i64 x.o, .int .i64 x.p, .int .i64 x.m, .int .i64 x.u]))] w fun e w' => e = .returned (.int .i64 r) ∧ Below w.heap.size w w' := by
  rw [← h]; exact rfs_g vu vg va us gs ks N D w su sg sa x u70 g70 k70

end Go.Proofs.Ytdmadnoijhmbcaa

/- AddUse and AddGrant. -/
import Derived.Test.YtdmadnoijhmbcaaRfs12
import Derived.Test.YtdmadnoijhmbcaaIns12
import Derived.Test.YtdmadnoijhmbcaaDrp12
namespace Go.Proofs.Ytdmadnoijhmbcaa
open Go.RowKit

/-- A table and an error are returned. -/
def AddP (w : World) (us : List Us) (gs : List Gr) (ks : List Ak) (E : Int) (e : Ending) (w' : World) : Prop := ∃ vu vg va, e = .returned (.tuple #[.agg #[vu, vg, va], .int .i64 E]) ∧ SlU w' vu us ∧ SlG w' vg gs ∧ SlA w' va ks ∧ Below w.heap.size w w'
theorem slt_nil0 {α : Type} (L : Lay α) (w : World) : SlT L w (.slice none 0 0) [] := ⟨none, 0, rfl, Nat.le_refl _, by unfold maxLen; omega, fun _ => rfl, fun i r h => by simp at h⟩
/-- The table of an addition. -/
def auU (us : List Us) (x : Us) (E : Int) : List Us := if E = 0 then adU x us else []
def auG (gs : List Gr) (E : Int) : List Gr := if E = 0 then gs else []
def agU (us : List Us) (E : Int) : List Us := if E = 0 then us else []
def agG (gs : List Gr) (x : Gr) (E : Int) : List Gr := if E = 0 then adG x gs else []
def adA (ks : List Ak) (s E : Int) : List Ak := if E = 0 then una s ks else []

set_option linter.unusedSimpArgs false in
set_option linter.unusedVariables false in
set_option maxRecDepth 100000 in
set_option maxHeartbeats 2000000 in
theorem addu_bad (vu vg va : Value) (us : List Us) (gs : List Gr) (ks : List Ak) (N D : Int) (w : World) (su : SlU w vu us) (sg : SlG w vg gs) (sa : SlA w va ks) (x : Us) (u70 : us.length ≤ 70) (g70 : gs.length ≤ 70) (k70 : ks.length ≤ 70) (E : Int) (he : auE N D us gs ks x = E) (hn : ¬ E = 0) : Calls Try.prog 12 #[.agg #[vu, vg, va], .agg #[.int .i64 N, .int .i64 D], .agg #[.int .i64 x.s, .int .i64 x.o, .int .i64 x.p, .int .i64 x.m]] w fun e w' => AddP w [] [] [] E e w' := by
  obtain ⟨pu, cu, e0, hlu, hcu, _⟩ := su.form us.length rfl
  subst e0
  obtain ⟨pg, cg, e0, hlg, hcg, _⟩ := sg.form gs.length rfl
  subst e0
  obtain ⟨pa, ca, e0, hla, hca, _⟩ := sa.form ks.length rfl
  subst e0
  have SU := Lib.hid su
  have SG := Lib.hid sg
  have SA := Lib.hid sa
  clear su sg sa
  have iu0 : (0 : Int) ≤ (us.length : Int) := Int.natCast_nonneg _
  have ig0 : (0 : Int) ≤ (gs.length : Int) := Int.natCast_nonneg _
  have ia0 : (0 : Int) ≤ (ks.length : Int) := Int.natCast_nonneg _
  have iu : (us.length : Int) ≤ 70 := by omega
  have ig : (gs.length : Int) ≤ 70 := by omega
  have ia : (ks.length : Int) ≤ 70 := by omega
  have HE := Lib.hid he
  clear he
  go_enter Try.func12, Try.ntmps12
  have BW := Lib.hid (show Below w.heap.size w ((((w.alloc (.cells #[.slice pu us.length cu, .slice pg gs.length cg, .slice pa ks.length ca] 26)).alloc (.cells #[.int .i64 N, .int .i64 D] 28)).alloc (.cells #[.int .i64 x.s, .int .i64 x.o, .int .i64 x.p, .int .i64 x.m] 32)).alloc (.cells #[.slice none 0 0, .slice none 0 0, .slice none 0 0] 26)) from (((((Below.refl _ _).alloc (Nat.le_refl _) _).alloc (by simp) _).alloc (by simp; omega) _).alloc (by simp; omega) _))
  go_wp2_with fail
  refine (rfs_u_lit _ _ _ us gs ks N D _ (SU.out.below BW.out) (SG.out.below BW.out) (SA.out.below BW.out) x u70 g70 k70 E HE.out).mono ?_
  rintro e w1 ⟨rfl, hb⟩
  have oT : Own w1 w.heap.size [.slice pu us.length cu, .slice pg gs.length cg, .slice pa ks.length ca] 26 := ((((own_at _ _ rfl).alloc _).alloc _).alloc _).below hb
  have oL : Own w1 (w.heap.size + 1) [.int .i64 N, .int .i64 D] 28 := (((own_at _ _ (by simp)).alloc _).alloc _).below hb
  have oX : Own w1 (w.heap.size + 1 + 1) [.int .i64 x.s, .int .i64 x.o, .int .i64 x.p, .int .i64 x.m] 32 := ((own_at _ _ (by simp)).alloc _).below hb
  have oR : Own w1 (w.heap.size + 1 + 1 + 1) [.slice none 0 0, .slice none 0 0, .slice none 0 0] 26 := (own_at _ _ (by simp)).below hb
  have bel := belowTo (((((Below.refl w.heap.size w).alloc (by simp) _).alloc (by simp) _).alloc (by simp; omega) _).alloc (by simp; omega) _) hb (by simp; omega)
  clear hb
  obtain ⟨cT0, cT1, cT2, fT, zT⟩ := own3 oT
  obtain ⟨cL0, cL1, fL, zL⟩ := own2 oL
  obtain ⟨cX0, cX1, cX2, cX3, fX, zX⟩ := own4 oX
  obtain ⟨cR0, cR1, cR2, fR, zR⟩ := own3 oR
  go_wp2_with fail
  have hN3 : w.heap.size ≤ w.heap.size + 1 + 1 + 1 := by omega
  refine bodyPost_ret (v := .tuple #[.agg #[.slice none 0 0, .slice none 0 0, .slice none 0 0], .int .i64 E]) (by simp [results, Try.results12, go_sem, *]) rfl ⟨_, _, _, rfl, slt_nil0 _ _, slt_nil0 _ _, slt_nil0 _ _, ?_⟩
  exact below_set3 bel (by omega)

set_option linter.unusedSimpArgs false in
set_option linter.unusedVariables false in
set_option maxRecDepth 100000 in
set_option maxHeartbeats 2000000 in
theorem addu_ok (vu vg va : Value) (us : List Us) (gs : List Gr) (ks : List Ak) (N D : Int) (w : World) (su : SlU w vu us) (sg : SlG w vg gs) (sa : SlA w va ks) (x : Us) (u70 : us.length ≤ 70) (g70 : gs.length ≤ 70) (k70 : ks.length ≤ 70) (he : auE N D us gs ks x = 0) : Calls Try.prog 12 #[.agg #[vu, vg, va], .agg #[.int .i64 N, .int .i64 D], .agg #[.int .i64 x.s, .int .i64 x.o, .int .i64 x.p, .int .i64 x.m]] w fun e w' => AddP w (adU x us) (gs) (una x.s ks) 0 e w' := by
  obtain ⟨pu, cu, e0, hlu, hcu, _⟩ := su.form us.length rfl
  subst e0
  obtain ⟨pg, cg, e0, hlg, hcg, _⟩ := sg.form gs.length rfl
  subst e0
  obtain ⟨pa, ca, e0, hla, hca, _⟩ := sa.form ks.length rfl
  subst e0
  have SU := Lib.hid su
  have SG := Lib.hid sg
  have SA := Lib.hid sa
  clear su sg sa
  have iu0 : (0 : Int) ≤ (us.length : Int) := Int.natCast_nonneg _
  have ig0 : (0 : Int) ≤ (gs.length : Int) := Int.natCast_nonneg _
  have ia0 : (0 : Int) ≤ (ks.length : Int) := Int.natCast_nonneg _
  have iu : (us.length : Int) ≤ 70 := by omega
  have ig : (gs.length : Int) ≤ 70 := by omega
  have ia : (ks.length : Int) ≤ 70 := by omega
  have HE := Lib.hid he
  clear he
  go_enter Try.func12, Try.ntmps12
  have BW := Lib.hid (show Below w.heap.size w ((((w.alloc (.cells #[.slice pu us.length cu, .slice pg gs.length cg, .slice pa ks.length ca] 26)).alloc (.cells #[.int .i64 N, .int .i64 D] 28)).alloc (.cells #[.int .i64 x.s, .int .i64 x.o, .int .i64 x.p, .int .i64 x.m] 32)).alloc (.cells #[.slice none 0 0, .slice none 0 0, .slice none 0 0] 26)) from (((((Below.refl _ _).alloc (Nat.le_refl _) _).alloc (by simp) _).alloc (by simp; omega) _).alloc (by simp; omega) _))
  go_wp2_with fail
  refine (rfs_u_lit _ _ _ us gs ks N D _ (SU.out.below BW.out) (SG.out.below BW.out) (SA.out.below BW.out) x u70 g70 k70 0 HE.out).mono ?_
  rintro e w1 ⟨rfl, hb⟩
  have oT : Own w1 w.heap.size [.slice pu us.length cu, .slice pg gs.length cg, .slice pa ks.length ca] 26 := ((((own_at _ _ rfl).alloc _).alloc _).alloc _).below hb
  have oL : Own w1 (w.heap.size + 1) [.int .i64 N, .int .i64 D] 28 := (((own_at _ _ (by simp)).alloc _).alloc _).below hb
  have oX : Own w1 (w.heap.size + 1 + 1) [.int .i64 x.s, .int .i64 x.o, .int .i64 x.p, .int .i64 x.m] 32 := ((own_at _ _ (by simp)).alloc _).below hb
  have oR : Own w1 (w.heap.size + 1 + 1 + 1) [.slice none 0 0, .slice none 0 0, .slice none 0 0] 26 := (own_at _ _ (by simp)).below hb
  have bel := belowTo (((((Below.refl w.heap.size w).alloc (by simp) _).alloc (by simp) _).alloc (by simp; omega) _).alloc (by simp; omega) _) hb (by simp; omega)
  clear hb
  obtain ⟨cT0, cT1, cT2, fT, zT⟩ := own3 oT
  obtain ⟨cL0, cL1, fL, zL⟩ := own2 oL
  obtain ⟨cX0, cX1, cX2, cX3, fX, zX⟩ := own4 oX
  obtain ⟨cR0, cR1, cR2, fR, zR⟩ := own3 oR
  have h01 : ¬ ((0 : Int) ≠ 0) := fun h => h rfl
  go_wp2_with fail
  have OT0 := Lib.hid (oT.drew)
  have OL0 := Lib.hid (oL.drew)
  have OX0 := Lib.hid (oX.drew)
  have OR0 := Lib.hid (oR.drew)
  have BB0 := Lib.hid bel.drew
  have SU0 := Lib.hid (SU.out.below BB0.out)
  have SG0 := Lib.hid (SG.out.below BB0.out)
  have SA0 := Lib.hid (SA.out.below BB0.out)
  clear oT cT0 cT1 cT2 fT zT oL cL0 cL1 fL zL oX cX0 cX1 cX2 cX3 fX zX oR cR0 cR1 cR2 fR zR bel
  obtain ⟨t00, t01, t02, _, _⟩ := own3 OT0.out
  obtain ⟨l00, l01, _, _⟩ := own2 OL0.out
  obtain ⟨x00, x01, x02, x03, _, _⟩ := own4 OX0.out
  obtain ⟨r00, r01, r02, _, _⟩ := own3 OR0.out
  refine region_H 15 #[false, false, false, false, false, false, false, false, false, false, false, false, false, false, false] (by kernel_rfl) (by kernel_rfl) (fun w' => w'.cell? ⟨w.heap.size, 0, none⟩ = some (.slice pu us.length cu) ∧ w'.cell? ⟨w.heap.size, 1, none⟩ = some (.slice pg gs.length cg) ∧ w'.cell? ⟨w.heap.size, 2, none⟩ = some (.slice pa ks.length ca) ∧ w'.cell? ⟨w.heap.size + 1 + 1, 0, none⟩ = some (.int .i64 x.s) ∧ w'.cell? ⟨w.heap.size + 1 + 1, 1, none⟩ = some (.int .i64 x.o) ∧ w'.cell? ⟨w.heap.size + 1 + 1, 2, none⟩ = some (.int .i64 x.p) ∧ w'.cell? ⟨w.heap.size + 1 + 1, 3, none⟩ = some (.int .i64 x.m)) (by kernel_rfl) ?x1s (fun hHeld => ?x1r)
  case x1s => exact ⟨t00, t01, t02, x00, x01, x02, x03⟩
  refine wpH_take (i := 0) (some 18) (v := ?x2v) rfl (by kernel_rfl) (by kernel_rfl) (by kernel_rfl) rfl (fun _ _ _ h => h) (Or.inl ⟨by rfl, ?x2y⟩) hHeld ?x2r
  case x2y => (intro w hSw; (try dsimp only at hSw); go_simp; try with_reducible rfl)
  try simp only [Act.put, List.setIfInBounds_toArray, List.set_cons_zero, List.set_cons_succ]
  refine wpH_take (i := 1) (some 19) (v := ?x3v) rfl (by kernel_rfl) (by kernel_rfl) (by kernel_rfl) rfl (fun _ _ _ h => h) (Or.inl ⟨by rfl, ?x3y⟩) hHeld ?x3r
  case x3y => (intro w hSw; (try dsimp only at hSw); go_simp; try with_reducible rfl)
  try simp only [Act.put, List.setIfInBounds_toArray, List.set_cons_zero, List.set_cons_succ]
  refine wpH_take (i := 2) (some 20) (v := ?x4v) rfl (by kernel_rfl) (by kernel_rfl) (by kernel_rfl) rfl (fun _ _ _ h => h) (Or.inl ⟨by rfl, ?x4y⟩) hHeld ?x4r
  case x4y => (intro w hSw; (try dsimp only at hSw); go_simp; try with_reducible rfl)
  try simp only [Act.put, List.setIfInBounds_toArray, List.set_cons_zero, List.set_cons_succ]
  refine wpH_take (i := 4) (some 22) (v := ?x5v) rfl (by kernel_rfl) (by kernel_rfl) (by kernel_rfl) rfl (fun _ _ _ h => h) (Or.inl ⟨by rfl, ?x5y⟩) hHeld ?x5r
  case x5y => (intro w hSw; (try dsimp only at hSw); go_simp; try with_reducible rfl)
  try simp only [Act.put, List.setIfInBounds_toArray, List.set_cons_zero, List.set_cons_succ]
  refine wpH_take (i := 5) (some 23) (v := ?x6v) rfl (by kernel_rfl) (by kernel_rfl) (by kernel_rfl) rfl (fun _ _ _ h => h) (Or.inl ⟨by rfl, ?x6y⟩) hHeld ?x6r
  case x6y => (intro w hSw; (try dsimp only at hSw); go_simp; try with_reducible rfl)
  try simp only [Act.put, List.setIfInBounds_toArray, List.set_cons_zero, List.set_cons_succ]
  refine wpH_take (i := 7) (some 25) (v := ?x7v) rfl (by kernel_rfl) (by kernel_rfl) (by kernel_rfl) rfl (fun _ _ _ h => h) (Or.inl ⟨by rfl, ?x7y⟩) hHeld ?x7r
  case x7y => (intro w hSw; (try dsimp only at hSw); go_simp; try with_reducible rfl)
  try simp only [Act.put, List.setIfInBounds_toArray, List.set_cons_zero, List.set_cons_succ]
  refine wpH_take (i := 8) (some 26) (v := ?x8v) rfl (by kernel_rfl) (by kernel_rfl) (by kernel_rfl) rfl (fun _ _ _ h => h) (Or.inl ⟨by rfl, ?x8y⟩) hHeld ?x8r
  case x8y => (intro w hSw; (try dsimp only at hSw); go_simp; try with_reducible rfl)
  try simp only [Act.put, List.setIfInBounds_toArray, List.set_cons_zero, List.set_cons_succ]
  refine wpH_take (i := 9) (some 27) (v := ?x9v) rfl (by kernel_rfl) (by kernel_rfl) (by kernel_rfl) rfl (fun _ _ _ h => h) (Or.inl ⟨by rfl, ?x9y⟩) hHeld ?x9r
  case x9y => (intro w hSw; (try dsimp only at hSw); go_simp; try with_reducible rfl)
  try simp only [Act.put, List.setIfInBounds_toArray, List.set_cons_zero, List.set_cons_succ]
  refine wpH_take (i := 10) (some 28) (v := ?x10v) rfl (by kernel_rfl) (by kernel_rfl) (by kernel_rfl) rfl (fun _ _ _ h => h) (Or.inl ⟨by rfl, ?x10y⟩) hHeld ?x10r
  case x10y => (intro w hSw; (try dsimp only at hSw); go_simp; try with_reducible rfl)
  try simp only [Act.put, List.setIfInBounds_toArray, List.set_cons_zero, List.set_cons_succ]
  refine wpH_one (i := 3) (by kernel_rfl) rfl (fun K hK => ?_)
  rw [if_pos (by rfl)]
  go_simp
  refine (ins_u _ us x _ SU0.out u70).mono ?_
  rintro e w1 ⟨xu, rfl, hs, hbb⟩
  have XU1 := Lib.hid (hs)
  obtain ⟨pxu, nxu, cxu, f0⟩ := XU1.out.slc
  subst f0
  have OT1 := Lib.hid (OT0.out.below hbb)
  have OL1 := Lib.hid (OL0.out.below hbb)
  have OX1 := Lib.hid (OX0.out.below hbb)
  have OR1 := Lib.hid (OR0.out.below hbb)
  have SU1 := Lib.hid (SU0.out.below hbb)
  have SG1 := Lib.hid (SG0.out.below hbb)
  have SA1 := Lib.hid (SA0.out.below hbb)
  have BB1 := Lib.hid (belowTo BB0.out hbb BB0.out.size)
  clear hbb hs
  obtain ⟨t10, t11, t12, _, _⟩ := own3 OT1.out
  obtain ⟨l10, l11, _, _⟩ := own2 OL1.out
  obtain ⟨x10, x11, x12, x13, _, _⟩ := own4 OX1.out
  obtain ⟨r10, r11, r12, _, _⟩ := own3 OR1.out
  refine hK.out _ _ (⟨t10, t11, t12, x10, x11, x12, x13⟩) ?_
  clear hK K hHeld
  intro hHeld
  try simp only [Act.put, List.setIfInBounds_toArray, List.set_cons_zero, List.set_cons_succ]
  refine wpH_one (i := 6) (by kernel_rfl) rfl (fun K hK => ?_)
  rw [if_pos (by rfl)]
  go_simp
  refine (clone_g _ gs _ SG1.out (by omega)).mono ?_
  rintro e w2 ⟨xg, rfl, hs, hbb⟩
  have XG2 := Lib.hid (slt_of_own (L := grL) hs)
  obtain ⟨pxg, nxg, cxg, f0⟩ := XG2.out.slc
  subst f0
  have OT2 := Lib.hid (OT1.out.below hbb)
  have OL2 := Lib.hid (OL1.out.below hbb)
  have OX2 := Lib.hid (OX1.out.below hbb)
  have OR2 := Lib.hid (OR1.out.below hbb)
  have SU2 := Lib.hid (SU1.out.below hbb)
  have SG2 := Lib.hid (SG1.out.below hbb)
  have SA2 := Lib.hid (SA1.out.below hbb)
  have XU2 := Lib.hid (XU1.out.below hbb)
  have BB2 := Lib.hid (belowTo BB1.out hbb BB1.out.size)
  clear hbb hs
  obtain ⟨t20, t21, t22, _, _⟩ := own3 OT2.out
  obtain ⟨l20, l21, _, _⟩ := own2 OL2.out
  obtain ⟨x20, x21, x22, x23, _, _⟩ := own4 OX2.out
  obtain ⟨r20, r21, r22, _, _⟩ := own3 OR2.out
  refine hK.out _ _ (⟨t20, t21, t22, x20, x21, x22, x23⟩) ?_
  clear hK K hHeld
  intro hHeld
  try simp only [Act.put, List.setIfInBounds_toArray, List.set_cons_zero, List.set_cons_succ]
  refine wpH_one (i := 11) (by kernel_rfl) rfl (fun K hK => ?_)
  rw [if_pos (by rfl)]
  go_simp
  refine (unasked_any _ _ _ ks x.s _ SA2.out (by omega)).mono ?_
  rintro e w3 ⟨xa, rfl, hs, hbb⟩
  have XA3 := Lib.hid (hs)
  obtain ⟨pxa, nxa, cxa, f0⟩ := XA3.out.slc
  subst f0
  have OT3 := Lib.hid (OT2.out.below hbb)
  have OL3 := Lib.hid (OL2.out.below hbb)
  have OX3 := Lib.hid (OX2.out.below hbb)
  have OR3 := Lib.hid (OR2.out.below hbb)
  have SU3 := Lib.hid (SU2.out.below hbb)
  have SG3 := Lib.hid (SG2.out.below hbb)
  have SA3 := Lib.hid (SA2.out.below hbb)
  have XU3 := Lib.hid (XU2.out.below hbb)
  have XG3 := Lib.hid (XG2.out.below hbb)
  have BB3 := Lib.hid (belowTo BB2.out hbb BB2.out.size)
  clear hbb hs
  obtain ⟨t30, t31, t32, _, _⟩ := own3 OT3.out
  obtain ⟨l30, l31, _, _⟩ := own2 OL3.out
  obtain ⟨x30, x31, x32, x33, _, _⟩ := own4 OX3.out
  obtain ⟨r30, r31, r32, _, _⟩ := own3 OR3.out
  refine hK.out _ _ (⟨t30, t31, t32, x30, x31, x32, x33⟩) ?_
  clear hK K hHeld
  intro hHeld
  try simp only [Act.put, List.setIfInBounds_toArray, List.set_cons_zero, List.set_cons_succ]
  refine wpH_take (i := 12) (some 30) (v := ?x14v) rfl (by kernel_rfl) (by kernel_rfl) (by kernel_rfl) rfl (fun _ _ _ h => h) (Or.inl ⟨by rfl, ?x14y⟩) hHeld ?x14r
  case x14y => (intro w hSw; (try dsimp only at hSw); go_simp; try with_reducible rfl)
  try simp only [Act.put, List.setIfInBounds_toArray, List.set_cons_zero, List.set_cons_succ]
  refine wpH_one (i := 13) (by kernel_rfl) rfl (fun K hK => ?_)
  rw [if_pos (by rfl)]
  go_simp
  refine hK.out _ _ (⟨(far3 (by simp; try omega)).trans t30, (far3 (by simp; try omega)).trans t31, (far3 (by simp; try omega)).trans t32, (far3 (by simp; try omega)).trans x30, (far3 (by simp; try omega)).trans x31, (far3 (by simp; try omega)).trans x32, (far3 (by simp; try omega)).trans x33⟩) ?_
  clear hK K hHeld
  intro hHeld
  try simp only [Act.put, List.setIfInBounds_toArray, List.set_cons_zero, List.set_cons_succ]
  refine wpH_take (i := 14) (some 7) (v := ?x16v) rfl (by kernel_rfl) (by kernel_rfl) (by kernel_rfl) rfl (fun _ _ _ h => h) (Or.inl ⟨by rfl, ?x16y⟩) hHeld ?x16r
  case x16y => (intro w hSw; (try dsimp only at hSw); go_simp; try with_reducible rfl)
  try simp only [Act.put, List.setIfInBounds_toArray, List.set_cons_zero, List.set_cons_succ]
  refine wpAnyH_done (by kernel_rfl) ?_ _
  have OF := Lib.hid (own_set3 (x := .slice pxu nxu cxu) (y := .slice pxg nxg cxg) (z := .slice pxa nxa cxa) OR3.out)
  have FU := Lib.hid (SlT.set3 XU3.out numU OR3.out (.slice pxu nxu cxu) (.slice pxg nxg cxg) (.slice pxa nxa cxa))
  have FG := Lib.hid (SlT.set3 XG3.out numG OR3.out (.slice pxu nxu cxu) (.slice pxg nxg cxg) (.slice pxa nxa cxa))
  have FA := Lib.hid (SlT.set3 XA3.out numA OR3.out (.slice pxu nxu cxu) (.slice pxg nxg cxg) (.slice pxa nxa cxa))
  have BF := Lib.hid (below_set3 (x := .slice pxu nxu cxu) (y := .slice pxg nxg cxg) (z := .slice pxa nxa cxa) BB3.out (show w.heap.size ≤ w.heap.size + 1 + 1 + 1 by omega))
  generalize (((w3.setCell ⟨w.heap.size + 1 + 1 + 1, 0, none⟩ (.slice pxu nxu cxu)).setCell ⟨w.heap.size + 1 + 1 + 1, 1, none⟩ (.slice pxg nxg cxg)).setCell ⟨w.heap.size + 1 + 1 + 1, 2, none⟩ (.slice pxa nxa cxa)) = wf at OF FU FG FA BF ⊢
  obtain ⟨q0, q1, q2, _, _⟩ := own3 OF.out
  go_wp2_with fail
  refine bodyPost_ret (v := .tuple #[.agg #[.slice pxu nxu cxu, .slice pxg nxg cxg, .slice pxa nxa cxa], .int .i64 0]) (by simp [results, Try.results12, go_sem, *]) rfl ⟨_, _, _, rfl, FU.out, FG.out, FA.out, BF.out⟩

theorem addu_lit (vu vg va : Value) (us : List Us) (gs : List Gr) (ks : List Ak) (N D : Int) (w : World) (su : SlU w vu us) (sg : SlG w vg gs) (sa : SlA w va ks) (x : Us) (u70 : us.length ≤ 70) (g70 : gs.length ≤ 70) (k70 : ks.length ≤ 70) (E : Int) (he : auE N D us gs ks x = E) : Calls Try.prog 12 #[.agg #[vu, vg, va], .agg #[.int .i64 N, .int .i64 D], .agg #[.int .i64 x.s, .int .i64 x.o, .int .i64 x.p, .int .i64 x.m]] w fun e w' => AddP w (auU us x E) (auG gs E) (adA ks x.s E) E e w' := by
  by_cases h : E = 0
  · subst h
    have := addu_ok vu vg va us gs ks N D w su sg sa x u70 g70 k70 he
    simpa only [auU, auG, agU, agG, adA, if_pos rfl, if_true] using this
  · have := addu_bad vu vg va us gs ks N D w su sg sa x u70 g70 k70 E he h
    simpa only [auU, auG, agU, agG, adA, if_neg h] using this

set_option linter.unusedSimpArgs false in
set_option linter.unusedVariables false in
set_option maxRecDepth 100000 in
set_option maxHeartbeats 2000000 in
theorem addg_bad (vu vg va : Value) (us : List Us) (gs : List Gr) (ks : List Ak) (N D : Int) (w : World) (su : SlU w vu us) (sg : SlG w vg gs) (sa : SlA w va ks) (x : Gr) (u70 : us.length ≤ 70) (g70 : gs.length ≤ 70) (k70 : ks.length ≤ 70) (E : Int) (he : agE N D us gs ks x = E) (hn : ¬ E = 0) : Calls Try.prog 14 #[.agg #[vu, vg, va], .agg #[.int .i64 N, .int .i64 D], .agg #[.int .i64 x.s, .int .i64 x.o, .int .i64 x.p, .int .i64 x.m, .int .i64 x.u]] w fun e w' => AddP w [] [] [] E e w' := by
  obtain ⟨pu, cu, e0, hlu, hcu, _⟩ := su.form us.length rfl
  subst e0
  obtain ⟨pg, cg, e0, hlg, hcg, _⟩ := sg.form gs.length rfl
  subst e0
  obtain ⟨pa, ca, e0, hla, hca, _⟩ := sa.form ks.length rfl
  subst e0
  have SU := Lib.hid su
  have SG := Lib.hid sg
  have SA := Lib.hid sa
  clear su sg sa
  have iu0 : (0 : Int) ≤ (us.length : Int) := Int.natCast_nonneg _
  have ig0 : (0 : Int) ≤ (gs.length : Int) := Int.natCast_nonneg _
  have ia0 : (0 : Int) ≤ (ks.length : Int) := Int.natCast_nonneg _
  have iu : (us.length : Int) ≤ 70 := by omega
  have ig : (gs.length : Int) ≤ 70 := by omega
  have ia : (ks.length : Int) ≤ 70 := by omega
  have HE := Lib.hid he
  clear he
  go_enter Try.func14, Try.ntmps14
  have BW := Lib.hid (show Below w.heap.size w ((((w.alloc (.cells #[.slice pu us.length cu, .slice pg gs.length cg, .slice pa ks.length ca] 26)).alloc (.cells #[.int .i64 N, .int .i64 D] 28)).alloc (.cells #[.int .i64 x.s, .int .i64 x.o, .int .i64 x.p, .int .i64 x.m, .int .i64 x.u] 34)).alloc (.cells #[.slice none 0 0, .slice none 0 0, .slice none 0 0] 26)) from (((((Below.refl _ _).alloc (Nat.le_refl _) _).alloc (by simp) _).alloc (by simp; omega) _).alloc (by simp; omega) _))
  go_wp2_with fail
  refine (rfs_g_lit _ _ _ us gs ks N D _ (SU.out.below BW.out) (SG.out.below BW.out) (SA.out.below BW.out) x u70 g70 k70 E HE.out).mono ?_
  rintro e w1 ⟨rfl, hb⟩
  have oT : Own w1 w.heap.size [.slice pu us.length cu, .slice pg gs.length cg, .slice pa ks.length ca] 26 := ((((own_at _ _ rfl).alloc _).alloc _).alloc _).below hb
  have oL : Own w1 (w.heap.size + 1) [.int .i64 N, .int .i64 D] 28 := (((own_at _ _ (by simp)).alloc _).alloc _).below hb
  have oX : Own w1 (w.heap.size + 1 + 1) [.int .i64 x.s, .int .i64 x.o, .int .i64 x.p, .int .i64 x.m, .int .i64 x.u] 34 := ((own_at _ _ (by simp)).alloc _).below hb
  have oR : Own w1 (w.heap.size + 1 + 1 + 1) [.slice none 0 0, .slice none 0 0, .slice none 0 0] 26 := (own_at _ _ (by simp)).below hb
  have bel := belowTo (((((Below.refl w.heap.size w).alloc (by simp) _).alloc (by simp) _).alloc (by simp; omega) _).alloc (by simp; omega) _) hb (by simp; omega)
  clear hb
  obtain ⟨cT0, cT1, cT2, fT, zT⟩ := own3 oT
  obtain ⟨cL0, cL1, fL, zL⟩ := own2 oL
  obtain ⟨cX0, cX1, cX2, cX3, cX4, fX, zX⟩ := own5 oX
  obtain ⟨cR0, cR1, cR2, fR, zR⟩ := own3 oR
  go_wp2_with fail
  have hN3 : w.heap.size ≤ w.heap.size + 1 + 1 + 1 := by omega
  refine bodyPost_ret (v := .tuple #[.agg #[.slice none 0 0, .slice none 0 0, .slice none 0 0], .int .i64 E]) (by simp [results, Try.results14, go_sem, *]) rfl ⟨_, _, _, rfl, slt_nil0 _ _, slt_nil0 _ _, slt_nil0 _ _, ?_⟩
  exact below_set3 bel (by omega)

set_option linter.unusedSimpArgs false in
set_option linter.unusedVariables false in
set_option maxRecDepth 100000 in
set_option maxHeartbeats 2000000 in
theorem addg_ok (vu vg va : Value) (us : List Us) (gs : List Gr) (ks : List Ak) (N D : Int) (w : World) (su : SlU w vu us) (sg : SlG w vg gs) (sa : SlA w va ks) (x : Gr) (u70 : us.length ≤ 70) (g70 : gs.length ≤ 70) (k70 : ks.length ≤ 70) (he : agE N D us gs ks x = 0) : Calls Try.prog 14 #[.agg #[vu, vg, va], .agg #[.int .i64 N, .int .i64 D], .agg #[.int .i64 x.s, .int .i64 x.o, .int .i64 x.p, .int .i64 x.m, .int .i64 x.u]] w fun e w' => AddP w (us) (adG x gs) (una x.s ks) 0 e w' := by
  obtain ⟨pu, cu, e0, hlu, hcu, _⟩ := su.form us.length rfl
  subst e0
  obtain ⟨pg, cg, e0, hlg, hcg, _⟩ := sg.form gs.length rfl
  subst e0
  obtain ⟨pa, ca, e0, hla, hca, _⟩ := sa.form ks.length rfl
  subst e0
  have SU := Lib.hid su
  have SG := Lib.hid sg
  have SA := Lib.hid sa
  clear su sg sa
  have iu0 : (0 : Int) ≤ (us.length : Int) := Int.natCast_nonneg _
  have ig0 : (0 : Int) ≤ (gs.length : Int) := Int.natCast_nonneg _
  have ia0 : (0 : Int) ≤ (ks.length : Int) := Int.natCast_nonneg _
  have iu : (us.length : Int) ≤ 70 := by omega
  have ig : (gs.length : Int) ≤ 70 := by omega
  have ia : (ks.length : Int) ≤ 70 := by omega
  have HE := Lib.hid he
  clear he
  go_enter Try.func14, Try.ntmps14
  have BW := Lib.hid (show Below w.heap.size w ((((w.alloc (.cells #[.slice pu us.length cu, .slice pg gs.length cg, .slice pa ks.length ca] 26)).alloc (.cells #[.int .i64 N, .int .i64 D] 28)).alloc (.cells #[.int .i64 x.s, .int .i64 x.o, .int .i64 x.p, .int .i64 x.m, .int .i64 x.u] 34)).alloc (.cells #[.slice none 0 0, .slice none 0 0, .slice none 0 0] 26)) from (((((Below.refl _ _).alloc (Nat.le_refl _) _).alloc (by simp) _).alloc (by simp; omega) _).alloc (by simp; omega) _))
  go_wp2_with fail
  refine (rfs_g_lit _ _ _ us gs ks N D _ (SU.out.below BW.out) (SG.out.below BW.out) (SA.out.below BW.out) x u70 g70 k70 0 HE.out).mono ?_
  rintro e w1 ⟨rfl, hb⟩
  have oT : Own w1 w.heap.size [.slice pu us.length cu, .slice pg gs.length cg, .slice pa ks.length ca] 26 := ((((own_at _ _ rfl).alloc _).alloc _).alloc _).below hb
  have oL : Own w1 (w.heap.size + 1) [.int .i64 N, .int .i64 D] 28 := (((own_at _ _ (by simp)).alloc _).alloc _).below hb
  have oX : Own w1 (w.heap.size + 1 + 1) [.int .i64 x.s, .int .i64 x.o, .int .i64 x.p, .int .i64 x.m, .int .i64 x.u] 34 := ((own_at _ _ (by simp)).alloc _).below hb
  have oR : Own w1 (w.heap.size + 1 + 1 + 1) [.slice none 0 0, .slice none 0 0, .slice none 0 0] 26 := (own_at _ _ (by simp)).below hb
  have bel := belowTo (((((Below.refl w.heap.size w).alloc (by simp) _).alloc (by simp) _).alloc (by simp; omega) _).alloc (by simp; omega) _) hb (by simp; omega)
  clear hb
  obtain ⟨cT0, cT1, cT2, fT, zT⟩ := own3 oT
  obtain ⟨cL0, cL1, fL, zL⟩ := own2 oL
  obtain ⟨cX0, cX1, cX2, cX3, cX4, fX, zX⟩ := own5 oX
  obtain ⟨cR0, cR1, cR2, fR, zR⟩ := own3 oR
  have h01 : ¬ ((0 : Int) ≠ 0) := fun h => h rfl
  go_wp2_with fail
  have OT0 := Lib.hid (oT.drew)
  have OL0 := Lib.hid (oL.drew)
  have OX0 := Lib.hid (oX.drew)
  have OR0 := Lib.hid (oR.drew)
  have BB0 := Lib.hid bel.drew
  have SU0 := Lib.hid (SU.out.below BB0.out)
  have SG0 := Lib.hid (SG.out.below BB0.out)
  have SA0 := Lib.hid (SA.out.below BB0.out)
  clear oT cT0 cT1 cT2 fT zT oL cL0 cL1 fL zL oX cX0 cX1 cX2 cX3 cX4 fX zX oR cR0 cR1 cR2 fR zR bel
  obtain ⟨t00, t01, t02, _, _⟩ := own3 OT0.out
  obtain ⟨l00, l01, _, _⟩ := own2 OL0.out
  obtain ⟨x00, x01, x02, x03, x04, _, _⟩ := own5 OX0.out
  obtain ⟨r00, r01, r02, _, _⟩ := own3 OR0.out
  refine region_H 15 #[false, false, false, false, false, false, false, false, false, false, false, false, false, false, false] (by kernel_rfl) (by kernel_rfl) (fun w' => w'.cell? ⟨w.heap.size, 0, none⟩ = some (.slice pu us.length cu) ∧ w'.cell? ⟨w.heap.size, 1, none⟩ = some (.slice pg gs.length cg) ∧ w'.cell? ⟨w.heap.size, 2, none⟩ = some (.slice pa ks.length ca) ∧ w'.cell? ⟨w.heap.size + 1 + 1, 0, none⟩ = some (.int .i64 x.s) ∧ w'.cell? ⟨w.heap.size + 1 + 1, 1, none⟩ = some (.int .i64 x.o) ∧ w'.cell? ⟨w.heap.size + 1 + 1, 2, none⟩ = some (.int .i64 x.p) ∧ w'.cell? ⟨w.heap.size + 1 + 1, 3, none⟩ = some (.int .i64 x.m) ∧ w'.cell? ⟨w.heap.size + 1 + 1, 4, none⟩ = some (.int .i64 x.u)) (by kernel_rfl) ?x17s (fun hHeld => ?x17r)
  case x17s => exact ⟨t00, t01, t02, x00, x01, x02, x03, x04⟩
  refine wpH_take (i := 0) (some 18) (v := ?x18v) rfl (by kernel_rfl) (by kernel_rfl) (by kernel_rfl) rfl (fun _ _ _ h => h) (Or.inl ⟨by rfl, ?x18y⟩) hHeld ?x18r
  case x18y => (intro w hSw; (try dsimp only at hSw); go_simp; try with_reducible rfl)
  try simp only [Act.put, List.setIfInBounds_toArray, List.set_cons_zero, List.set_cons_succ]
  refine wpH_take (i := 1) (some 19) (v := ?x19v) rfl (by kernel_rfl) (by kernel_rfl) (by kernel_rfl) rfl (fun _ _ _ h => h) (Or.inl ⟨by rfl, ?x19y⟩) hHeld ?x19r
  case x19y => (intro w hSw; (try dsimp only at hSw); go_simp; try with_reducible rfl)
  try simp only [Act.put, List.setIfInBounds_toArray, List.set_cons_zero, List.set_cons_succ]
  refine wpH_take (i := 3) (some 21) (v := ?x20v) rfl (by kernel_rfl) (by kernel_rfl) (by kernel_rfl) rfl (fun _ _ _ h => h) (Or.inl ⟨by rfl, ?x20y⟩) hHeld ?x20r
  case x20y => (intro w hSw; (try dsimp only at hSw); go_simp; try with_reducible rfl)
  try simp only [Act.put, List.setIfInBounds_toArray, List.set_cons_zero, List.set_cons_succ]
  refine wpH_take (i := 4) (some 22) (v := ?x21v) rfl (by kernel_rfl) (by kernel_rfl) (by kernel_rfl) rfl (fun _ _ _ h => h) (Or.inl ⟨by rfl, ?x21y⟩) hHeld ?x21r
  case x21y => (intro w hSw; (try dsimp only at hSw); go_simp; try with_reducible rfl)
  try simp only [Act.put, List.setIfInBounds_toArray, List.set_cons_zero, List.set_cons_succ]
  refine wpH_take (i := 5) (some 23) (v := ?x22v) rfl (by kernel_rfl) (by kernel_rfl) (by kernel_rfl) rfl (fun _ _ _ h => h) (Or.inl ⟨by rfl, ?x22y⟩) hHeld ?x22r
  case x22y => (intro w hSw; (try dsimp only at hSw); go_simp; try with_reducible rfl)
  try simp only [Act.put, List.setIfInBounds_toArray, List.set_cons_zero, List.set_cons_succ]
  refine wpH_take (i := 7) (some 25) (v := ?x23v) rfl (by kernel_rfl) (by kernel_rfl) (by kernel_rfl) rfl (fun _ _ _ h => h) (Or.inl ⟨by rfl, ?x23y⟩) hHeld ?x23r
  case x23y => (intro w hSw; (try dsimp only at hSw); go_simp; try with_reducible rfl)
  try simp only [Act.put, List.setIfInBounds_toArray, List.set_cons_zero, List.set_cons_succ]
  refine wpH_take (i := 8) (some 26) (v := ?x24v) rfl (by kernel_rfl) (by kernel_rfl) (by kernel_rfl) rfl (fun _ _ _ h => h) (Or.inl ⟨by rfl, ?x24y⟩) hHeld ?x24r
  case x24y => (intro w hSw; (try dsimp only at hSw); go_simp; try with_reducible rfl)
  try simp only [Act.put, List.setIfInBounds_toArray, List.set_cons_zero, List.set_cons_succ]
  refine wpH_take (i := 9) (some 27) (v := ?x25v) rfl (by kernel_rfl) (by kernel_rfl) (by kernel_rfl) rfl (fun _ _ _ h => h) (Or.inl ⟨by rfl, ?x25y⟩) hHeld ?x25r
  case x25y => (intro w hSw; (try dsimp only at hSw); go_simp; try with_reducible rfl)
  try simp only [Act.put, List.setIfInBounds_toArray, List.set_cons_zero, List.set_cons_succ]
  refine wpH_take (i := 10) (some 28) (v := ?x26v) rfl (by kernel_rfl) (by kernel_rfl) (by kernel_rfl) rfl (fun _ _ _ h => h) (Or.inl ⟨by rfl, ?x26y⟩) hHeld ?x26r
  case x26y => (intro w hSw; (try dsimp only at hSw); go_simp; try with_reducible rfl)
  try simp only [Act.put, List.setIfInBounds_toArray, List.set_cons_zero, List.set_cons_succ]
  refine wpH_one (i := 2) (by kernel_rfl) rfl (fun K hK => ?_)
  rw [if_pos (by rfl)]
  go_simp
  refine (clone_u _ us _ SU0.out (by omega)).mono ?_
  rintro e w1 ⟨xu, rfl, hs, hbb⟩
  have XU1 := Lib.hid (slt_of_own (L := usL) hs)
  obtain ⟨pxu, nxu, cxu, f0⟩ := XU1.out.slc
  subst f0
  have OT1 := Lib.hid (OT0.out.below hbb)
  have OL1 := Lib.hid (OL0.out.below hbb)
  have OX1 := Lib.hid (OX0.out.below hbb)
  have OR1 := Lib.hid (OR0.out.below hbb)
  have SU1 := Lib.hid (SU0.out.below hbb)
  have SG1 := Lib.hid (SG0.out.below hbb)
  have SA1 := Lib.hid (SA0.out.below hbb)
  have BB1 := Lib.hid (belowTo BB0.out hbb BB0.out.size)
  clear hbb hs
  obtain ⟨t10, t11, t12, _, _⟩ := own3 OT1.out
  obtain ⟨l10, l11, _, _⟩ := own2 OL1.out
  obtain ⟨x10, x11, x12, x13, x14, _, _⟩ := own5 OX1.out
  obtain ⟨r10, r11, r12, _, _⟩ := own3 OR1.out
  refine hK.out _ _ (⟨t10, t11, t12, x10, x11, x12, x13, x14⟩) ?_
  clear hK K hHeld
  intro hHeld
  try simp only [Act.put, List.setIfInBounds_toArray, List.set_cons_zero, List.set_cons_succ]
  refine wpH_one (i := 6) (by kernel_rfl) rfl (fun K hK => ?_)
  rw [if_pos (by rfl)]
  go_simp
  refine (ins_g _ gs x _ SG1.out g70).mono ?_
  rintro e w2 ⟨xg, rfl, hs, hbb⟩
  have XG2 := Lib.hid (hs)
  obtain ⟨pxg, nxg, cxg, f0⟩ := XG2.out.slc
  subst f0
  have OT2 := Lib.hid (OT1.out.below hbb)
  have OL2 := Lib.hid (OL1.out.below hbb)
  have OX2 := Lib.hid (OX1.out.below hbb)
  have OR2 := Lib.hid (OR1.out.below hbb)
  have SU2 := Lib.hid (SU1.out.below hbb)
  have SG2 := Lib.hid (SG1.out.below hbb)
  have SA2 := Lib.hid (SA1.out.below hbb)
  have XU2 := Lib.hid (XU1.out.below hbb)
  have BB2 := Lib.hid (belowTo BB1.out hbb BB1.out.size)
  clear hbb hs
  obtain ⟨t20, t21, t22, _, _⟩ := own3 OT2.out
  obtain ⟨l20, l21, _, _⟩ := own2 OL2.out
  obtain ⟨x20, x21, x22, x23, x24, _, _⟩ := own5 OX2.out
  obtain ⟨r20, r21, r22, _, _⟩ := own3 OR2.out
  refine hK.out _ _ (⟨t20, t21, t22, x20, x21, x22, x23, x24⟩) ?_
  clear hK K hHeld
  intro hHeld
  try simp only [Act.put, List.setIfInBounds_toArray, List.set_cons_zero, List.set_cons_succ]
  refine wpH_one (i := 11) (by kernel_rfl) rfl (fun K hK => ?_)
  rw [if_pos (by rfl)]
  go_simp
  refine (unasked_any _ _ _ ks x.s _ SA2.out (by omega)).mono ?_
  rintro e w3 ⟨xa, rfl, hs, hbb⟩
  have XA3 := Lib.hid (hs)
  obtain ⟨pxa, nxa, cxa, f0⟩ := XA3.out.slc
  subst f0
  have OT3 := Lib.hid (OT2.out.below hbb)
  have OL3 := Lib.hid (OL2.out.below hbb)
  have OX3 := Lib.hid (OX2.out.below hbb)
  have OR3 := Lib.hid (OR2.out.below hbb)
  have SU3 := Lib.hid (SU2.out.below hbb)
  have SG3 := Lib.hid (SG2.out.below hbb)
  have SA3 := Lib.hid (SA2.out.below hbb)
  have XU3 := Lib.hid (XU2.out.below hbb)
  have XG3 := Lib.hid (XG2.out.below hbb)
  have BB3 := Lib.hid (belowTo BB2.out hbb BB2.out.size)
  clear hbb hs
  obtain ⟨t30, t31, t32, _, _⟩ := own3 OT3.out
  obtain ⟨l30, l31, _, _⟩ := own2 OL3.out
  obtain ⟨x30, x31, x32, x33, x34, _, _⟩ := own5 OX3.out
  obtain ⟨r30, r31, r32, _, _⟩ := own3 OR3.out
  refine hK.out _ _ (⟨t30, t31, t32, x30, x31, x32, x33, x34⟩) ?_
  clear hK K hHeld
  intro hHeld
  try simp only [Act.put, List.setIfInBounds_toArray, List.set_cons_zero, List.set_cons_succ]
  refine wpH_take (i := 12) (some 30) (v := ?x30v) rfl (by kernel_rfl) (by kernel_rfl) (by kernel_rfl) rfl (fun _ _ _ h => h) (Or.inl ⟨by rfl, ?x30y⟩) hHeld ?x30r
  case x30y => (intro w hSw; (try dsimp only at hSw); go_simp; try with_reducible rfl)
  try simp only [Act.put, List.setIfInBounds_toArray, List.set_cons_zero, List.set_cons_succ]
  refine wpH_one (i := 13) (by kernel_rfl) rfl (fun K hK => ?_)
  rw [if_pos (by rfl)]
  go_simp
  refine hK.out _ _ (⟨(far3 (by simp; try omega)).trans t30, (far3 (by simp; try omega)).trans t31, (far3 (by simp; try omega)).trans t32, (far3 (by simp; try omega)).trans x30, (far3 (by simp; try omega)).trans x31, (far3 (by simp; try omega)).trans x32, (far3 (by simp; try omega)).trans x33, (far3 (by simp; try omega)).trans x34⟩) ?_
  clear hK K hHeld
  intro hHeld
  try simp only [Act.put, List.setIfInBounds_toArray, List.set_cons_zero, List.set_cons_succ]
  refine wpH_take (i := 14) (some 7) (v := ?x32v) rfl (by kernel_rfl) (by kernel_rfl) (by kernel_rfl) rfl (fun _ _ _ h => h) (Or.inl ⟨by rfl, ?x32y⟩) hHeld ?x32r
  case x32y => (intro w hSw; (try dsimp only at hSw); go_simp; try with_reducible rfl)
  try simp only [Act.put, List.setIfInBounds_toArray, List.set_cons_zero, List.set_cons_succ]
  refine wpAnyH_done (by kernel_rfl) ?_ _
  have OF := Lib.hid (own_set3 (x := .slice pxu nxu cxu) (y := .slice pxg nxg cxg) (z := .slice pxa nxa cxa) OR3.out)
  have FU := Lib.hid (SlT.set3 XU3.out numU OR3.out (.slice pxu nxu cxu) (.slice pxg nxg cxg) (.slice pxa nxa cxa))
  have FG := Lib.hid (SlT.set3 XG3.out numG OR3.out (.slice pxu nxu cxu) (.slice pxg nxg cxg) (.slice pxa nxa cxa))
  have FA := Lib.hid (SlT.set3 XA3.out numA OR3.out (.slice pxu nxu cxu) (.slice pxg nxg cxg) (.slice pxa nxa cxa))
  have BF := Lib.hid (below_set3 (x := .slice pxu nxu cxu) (y := .slice pxg nxg cxg) (z := .slice pxa nxa cxa) BB3.out (show w.heap.size ≤ w.heap.size + 1 + 1 + 1 by omega))
  generalize (((w3.setCell ⟨w.heap.size + 1 + 1 + 1, 0, none⟩ (.slice pxu nxu cxu)).setCell ⟨w.heap.size + 1 + 1 + 1, 1, none⟩ (.slice pxg nxg cxg)).setCell ⟨w.heap.size + 1 + 1 + 1, 2, none⟩ (.slice pxa nxa cxa)) = wf at OF FU FG FA BF ⊢
  obtain ⟨q0, q1, q2, _, _⟩ := own3 OF.out
  go_wp2_with fail
  refine bodyPost_ret (v := .tuple #[.agg #[.slice pxu nxu cxu, .slice pxg nxg cxg, .slice pxa nxa cxa], .int .i64 0]) (by simp [results, Try.results14, go_sem, *]) rfl ⟨_, _, _, rfl, FU.out, FG.out, FA.out, BF.out⟩

theorem addg_lit (vu vg va : Value) (us : List Us) (gs : List Gr) (ks : List Ak) (N D : Int) (w : World) (su : SlU w vu us) (sg : SlG w vg gs) (sa : SlA w va ks) (x : Gr) (u70 : us.length ≤ 70) (g70 : gs.length ≤ 70) (k70 : ks.length ≤ 70) (E : Int) (he : agE N D us gs ks x = E) : Calls Try.prog 14 #[.agg #[vu, vg, va], .agg #[.int .i64 N, .int .i64 D], .agg #[.int .i64 x.s, .int .i64 x.o, .int .i64 x.p, .int .i64 x.m, .int .i64 x.u]] w fun e w' => AddP w (agU us E) (agG gs x E) (adA ks x.s E) E e w' := by
  by_cases h : E = 0
  · subst h
    have := addg_ok vu vg va us gs ks N D w su sg sa x u70 g70 k70 he
    simpa only [auU, auG, agU, agG, adA, if_pos rfl, if_true] using this
  · have := addg_bad vu vg va us gs ks N D w su sg sa x u70 g70 k70 E he h
    simpa only [auU, auG, agU, agG, adA, if_neg h] using this

end Go.Proofs.Ytdmadnoijhmbcaa

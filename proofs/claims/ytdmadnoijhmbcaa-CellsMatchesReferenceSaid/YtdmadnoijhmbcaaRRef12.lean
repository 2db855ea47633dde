/- The reference's unasked and refused. -/
import Derived.Test.YtdmadnoijhmbcaaRVld12
import Derived.Test.YtdmadnoijhmbcaaIx12
import Derived.Test.YtdmadnoijhmbcaaBelo12
import Derived.Test.YtdmadnoijhmbcaaPlain12b
namespace Go.Proofs.Ytdmadnoijhmbcaa
open Go.RowKit

set_option linter.unusedSimpArgs false in
set_option linter.unusedVariables false in
set_option maxRecDepth 100000 in
set_option maxHeartbeats 2000000 in
theorem runa_any (v : Value) (l : List Ak) (z : Int) (w : World) (sl : SlA w v l) (h100 : l.length ≤ 100) : Calls Try.prog 35 #[v, .int .i64 z] w fun e w' => RetA w (una z l) e w' := by
  obtain ⟨p, cap, e0, hlc, hcm, hpn⟩ := sl.form l.length rfl
  subst e0
  have SL := Lib.hid sl
  unfold maxLen at hcm
  clear hpn sl
  obtain ⟨i0, hi, hz, hs0, hb0⟩ := info_parts info_a
  have IF := Lib.hid (And.intro hi (And.intro hz (And.intro hs0 hb0)))
  clear hi hz hs0 hb0
  go_enter Try.func35, Try.ntmps35
  go_wp2_with fail
  go_loopw [5, 6] (fun out ii wz => ∃ (i : Nat) (qs : List Ak), i ≤ l.length ∧ ii = .int .i64 i ∧ qs = (l.take i).filter (fun d => !(d.s == z)) ∧ wz.ownsRow w.heap.size 51 3 out qs.length (flatT akL qs) ∧ Below w.heap.size w wz) (fun _ i _ => l.length - (intOf i).toNat)
  case atStart => exact ⟨0, [], by omega, rfl, rfl, World.ownsRow_nil _ _ _ _, Below.refl _ _⟩
  case round =>
    rename World => wr
    obtain ⟨i, qs, hi, rfl, hq, hown, bel⟩ := hrel
    have hql : qs.length ≤ 100 := by rw [hq]; have := filt_le (fun d : Ak => !(d.s == z)) l i; omega
    have HQ := Lib.hid hq
    have HOWN := Lib.hid hown
    have BE := Lib.hid bel
    clear hq hown bel
    have j0 : (0 : Int) ≤ (i : Int) := Int.natCast_nonneg _
    by_cases hlt : i < l.length
    · obtain ⟨d, b, off, hd, rfl, hbl, _, d0, d1, d2⟩ := SL.out.atA BE.out hlt
      have j1 : (i : Int) < (l.length : Int) := by omega
      have HD := Lib.hid (take_filt (p := fun d : Ak => !(d.s == z)) hd)
      clear hd
      cases hn : (d.s == z) with
      | true =>
        have hn2 : (d.s != z) = false := by simpa using hn
        have HN := Lib.hid hn
        clear hn
        go_wp2_with fail
        go_roundw
        case rel => exact ⟨i + 1, qs, by omega, by go_num, by rw [HD.out, HQ.out, HN.out]; simp, HOWN.out, BE.out⟩
        case measure => simp [intOf]; omega
      | false =>
        have hn2 : (d.s != z) = true := by simpa using hn
        have HN := Lib.hid hn
        clear hn
        go_wp2_with (at_builtin; refine wpList_append_own _ rfl _ _ 24 rfl w.heap.size 51 i0 _ 3 24 (by kernel_rfl) IF.out.1 IF.out.2.1 IF.out.2.2.1 IF.out.2.2.2 rfl (by decide) _ qs.length (flatT akL qs) rfl (HOWN.out.alloc _) _ 1 1 (akL.f d) rfl rfl (newsT (L := akL) wr d 51) (akL.one _) ?qc4 ?qc5 ?qc6 ?_)
        case qc4 => unfold maxLen; omega
        case qc5 => omega
        case qc6 => have := BE.out.size; simp; omega
        intro v2 w2 hown hgrow hnil
        have B2 := Lib.hid ((BE.out.alloc BE.out.size _).grown hgrow (by have := BE.out.size; simp; omega) (fun k hk => (HOWN.out.lt k hk).1))
        have H2 := Lib.hid hown
        clear hown hgrow hnil
        go_wp2_with fail
        go_roundw
        case rel => exact ⟨i + 1, qs ++ [d], by omega, by go_num, by rw [HD.out, HQ.out, HN.out]; simp, by have := H2.out; rw [flatT_append, flatT_one]; simpa using this, B2.out⟩
        case measure => simp [intOf]; omega
    · have HQ2 := Lib.hid (show qs = una z l by have h := HQ.out; rw [List.take_of_length_le (by omega)] at h; exact h)
      go_wp2_with fail
      go_ret
      exact ⟨_, rfl, by rw [← HQ2.out]; exact slt_of_own (L := akL) HOWN.out, BE.out⟩

set_option linter.unusedSimpArgs false in
set_option linter.unusedVariables false in
set_option maxRecDepth 100000 in
set_option maxHeartbeats 2000000 in
theorem rrfs_v0 (vu vg va : Value) (us : List Us) (gs : List Gr) (ks : List Ak) (N D : Int) (w : World) (su : SlU w vu us) (sg : SlG w vg gs) (sa : SlA w va ks) (z : Int) (u70 : us.length ≤ 70) (g70 : gs.length ≤ 70) (k70 : ks.length ≤ 70) (hv : vldT N D us gs ks = false) (ok : Bool) : Calls Try.prog 34 #[.agg #[vu, vg, va], .agg #[.int .i64 N, .int .i64 D], .int .i64 z, .bool ok] w fun e w' => e = .returned (.int .i64 1) ∧ Below w.heap.size w w' := by
  obtain ⟨pu, cu, e0, hlu, hcu, _⟩ := su.form us.length rfl
  subst e0
  obtain ⟨pg, cg, e0, hlg, hcg, _⟩ := sg.form gs.length rfl
  subst e0
  obtain ⟨pa, ca, e0, hla, hca, _⟩ := sa.form ks.length rfl
  subst e0
  have SU := Lib.hid su
  have SG := Lib.hid sg
  have SA := Lib.hid sa
  clear su sg sa
  have iu0 : (0 : Int) ≤ (us.length : Int) := Int.natCast_nonneg _
  have ig0 : (0 : Int) ≤ (gs.length : Int) := Int.natCast_nonneg _
  have ia0 : (0 : Int) ≤ (ks.length : Int) := Int.natCast_nonneg _
  have iu : (us.length : Int) ≤ 70 := by omega
  have ig : (gs.length : Int) ≤ 70 := by omega
  have ia : (ks.length : Int) ≤ 70 := by omega
  have HV := Lib.hid hv
  clear hv
  cases ok
  · go_enter Try.func34, Try.ntmps34
    have BW := Lib.hid (show Below w.heap.size w ((w.alloc (.cells #[.slice pu us.length cu, .slice pg gs.length cg, .slice pa ks.length ca] 26)).alloc (.cells #[.int .i64 N, .int .i64 D] 28)) from (((Below.refl _ _).alloc (Nat.le_refl _) _).alloc (by simp) _))
    go_wp2_with fail
    refine (rvalid_lit _ _ _ us gs ks N D _ (SU.out.below BW.out) (SG.out.below BW.out) (SA.out.below BW.out) (by omega) (by omega) (by omega) false HV.out).mono ?_
    rintro e w1 ⟨rfl, hb⟩
    have oT : Own w1 w.heap.size [.slice pu us.length cu, .slice pg gs.length cg, .slice pa ks.length ca] 26 := ((own_at _ _ rfl).alloc _).below hb
    have oL : Own w1 (w.heap.size + 1) [.int .i64 N, .int .i64 D] 28 := (own_at _ _ (by simp)).below hb
    have bel := belowTo (((Below.refl w.heap.size w).alloc (by simp) _).alloc (by simp) _) hb (by simp; omega)
    clear hb
    obtain ⟨cT0, cT1, cT2, fT, zT⟩ := own3 oT
    obtain ⟨cL0, cL1, fL, zL⟩ := own2 oL
    go_wp2_with fail
    go_ret
    exact ⟨rfl, bel⟩
  · go_enter Try.func34, Try.ntmps34
    have BW := Lib.hid (show Below w.heap.size w ((w.alloc (.cells #[.slice pu us.length cu, .slice pg gs.length cg, .slice pa ks.length ca] 26)).alloc (.cells #[.int .i64 N, .int .i64 D] 28)) from (((Below.refl _ _).alloc (Nat.le_refl _) _).alloc (by simp) _))
    go_wp2_with fail
    refine (rvalid_lit _ _ _ us gs ks N D _ (SU.out.below BW.out) (SG.out.below BW.out) (SA.out.below BW.out) (by omega) (by omega) (by omega) false HV.out).mono ?_
    rintro e w1 ⟨rfl, hb⟩
    have oT : Own w1 w.heap.size [.slice pu us.length cu, .slice pg gs.length cg, .slice pa ks.length ca] 26 := ((own_at _ _ rfl).alloc _).below hb
    have oL : Own w1 (w.heap.size + 1) [.int .i64 N, .int .i64 D] 28 := (own_at _ _ (by simp)).below hb
    have bel := belowTo (((Below.refl w.heap.size w).alloc (by simp) _).alloc (by simp) _) hb (by simp; omega)
    clear hb
    obtain ⟨cT0, cT1, cT2, fT, zT⟩ := own3 oT
    obtain ⟨cL0, cL1, fL, zL⟩ := own2 oL
    go_wp2_with fail
    go_ret
    exact ⟨rfl, bel⟩

set_option linter.unusedSimpArgs false in
set_option linter.unusedVariables false in
set_option maxRecDepth 100000 in
set_option maxHeartbeats 2000000 in
theorem rrfs_v1 (vu vg va : Value) (us : List Us) (gs : List Gr) (ks : List Ak) (N D : Int) (w : World) (su : SlU w vu us) (sg : SlG w vg gs) (sa : SlA w va ks) (z : Int) (u70 : us.length ≤ 70) (g70 : gs.length ≤ 70) (k70 : ks.length ≤ 70) (hv : vldT N D us gs ks = true) : Calls Try.prog 34 #[.agg #[vu, vg, va], .agg #[.int .i64 N, .int .i64 D], .int .i64 z, .bool false] w fun e w' => e = .returned (.int .i64 1) ∧ Below w.heap.size w w' := by
  obtain ⟨pu, cu, e0, hlu, hcu, _⟩ := su.form us.length rfl
  subst e0
  obtain ⟨pg, cg, e0, hlg, hcg, _⟩ := sg.form gs.length rfl
  subst e0
  obtain ⟨pa, ca, e0, hla, hca, _⟩ := sa.form ks.length rfl
  subst e0
  have SU := Lib.hid su
  have SG := Lib.hid sg
  have SA := Lib.hid sa
  clear su sg sa
  have iu0 : (0 : Int) ≤ (us.length : Int) := Int.natCast_nonneg _
  have ig0 : (0 : Int) ≤ (gs.length : Int) := Int.natCast_nonneg _
  have ia0 : (0 : Int) ≤ (ks.length : Int) := Int.natCast_nonneg _
  have iu : (us.length : Int) ≤ 70 := by omega
  have ig : (gs.length : Int) ≤ 70 := by omega
  have ia : (ks.length : Int) ≤ 70 := by omega
  have HV := Lib.hid hv
  clear hv
  go_enter Try.func34, Try.ntmps34
  have BW := Lib.hid (show Below w.heap.size w ((w.alloc (.cells #[.slice pu us.length cu, .slice pg gs.length cg, .slice pa ks.length ca] 26)).alloc (.cells #[.int .i64 N, .int .i64 D] 28)) from (((Below.refl _ _).alloc (Nat.le_refl _) _).alloc (by simp) _))
  go_wp2_with fail
  refine (rvalid_lit _ _ _ us gs ks N D _ (SU.out.below BW.out) (SG.out.below BW.out) (SA.out.below BW.out) (by omega) (by omega) (by omega) true HV.out).mono ?_
  rintro e w1 ⟨rfl, hb⟩
  have oT : Own w1 w.heap.size [.slice pu us.length cu, .slice pg gs.length cg, .slice pa ks.length ca] 26 := ((own_at _ _ rfl).alloc _).below hb
  have oL : Own w1 (w.heap.size + 1) [.int .i64 N, .int .i64 D] 28 := (own_at _ _ (by simp)).below hb
  have bel := belowTo (((Below.refl w.heap.size w).alloc (by simp) _).alloc (by simp) _) hb (by simp; omega)
  clear hb
  obtain ⟨cT0, cT1, cT2, fT, zT⟩ := own3 oT
  obtain ⟨cL0, cL1, fL, zL⟩ := own2 oL
  go_wp2_with fail
  go_ret
  exact ⟨rfl, bel⟩

set_option linter.unusedSimpArgs false in
set_option linter.unusedVariables false in
set_option maxRecDepth 100000 in
set_option maxHeartbeats 2000000 in
theorem rrfs_b (vu vg va : Value) (us : List Us) (gs : List Gr) (ks : List Ak) (N D : Int) (w : World) (su : SlU w vu us) (sg : SlG w vg gs) (sa : SlA w va ks) (z : Int) (u70 : us.length ≤ 70) (g70 : gs.length ≤ 70) (k70 : ks.length ≤ 70) (hv : vldT N D us gs ks = true) (hb : bsyB z us gs = true) : Calls Try.prog 34 #[.agg #[vu, vg, va], .agg #[.int .i64 N, .int .i64 D], .int .i64 z, .bool true] w fun e w' => e = .returned (.int .i64 5) ∧ Below w.heap.size w w' := by
  obtain ⟨pu, cu, e0, hlu, hcu, _⟩ := su.form us.length rfl
  subst e0
  obtain ⟨pg, cg, e0, hlg, hcg, _⟩ := sg.form gs.length rfl
  subst e0
  obtain ⟨pa, ca, e0, hla, hca, _⟩ := sa.form ks.length rfl
  subst e0
  have SU := Lib.hid su
  have SG := Lib.hid sg
  have SA := Lib.hid sa
  clear su sg sa
  have iu0 : (0 : Int) ≤ (us.length : Int) := Int.natCast_nonneg _
  have ig0 : (0 : Int) ≤ (gs.length : Int) := Int.natCast_nonneg _
  have ia0 : (0 : Int) ≤ (ks.length : Int) := Int.natCast_nonneg _
  have iu : (us.length : Int) ≤ 70 := by omega
  have ig : (gs.length : Int) ≤ 70 := by omega
  have ia : (ks.length : Int) ≤ 70 := by omega
  have HV := Lib.hid hv
  have HB := Lib.hid hb
  clear hv hb
  go_enter Try.func34, Try.ntmps34
  have BW := Lib.hid (show Below w.heap.size w ((w.alloc (.cells #[.slice pu us.length cu, .slice pg gs.length cg, .slice pa ks.length ca] 26)).alloc (.cells #[.int .i64 N, .int .i64 D] 28)) from (((Below.refl _ _).alloc (Nat.le_refl _) _).alloc (by simp) _))
  go_wp2_with fail
  refine (rvalid_lit _ _ _ us gs ks N D _ (SU.out.below BW.out) (SG.out.below BW.out) (SA.out.below BW.out) (by omega) (by omega) (by omega) true HV.out).mono ?_
  rintro e w1 ⟨rfl, hb⟩
  have oT : Own w1 w.heap.size [.slice pu us.length cu, .slice pg gs.length cg, .slice pa ks.length ca] 26 := ((own_at _ _ rfl).alloc _).below hb
  have oL : Own w1 (w.heap.size + 1) [.int .i64 N, .int .i64 D] 28 := (own_at _ _ (by simp)).below hb
  have bel := belowTo (((Below.refl w.heap.size w).alloc (by simp) _).alloc (by simp) _) hb (by simp; omega)
  clear hb
  obtain ⟨cT0, cT1, cT2, fT, zT⟩ := own3 oT
  obtain ⟨cL0, cL1, fL, zL⟩ := own2 oL
  go_wp2_with fail
  refine (rbusy_lit _ _ _ us gs z _ (SU.out.below bel) (SG.out.below bel) (by omega) (by omega) true HB.out).mono ?_
  rintro e w2 ⟨rfl, hb⟩
  replace oT := oT.below hb
  replace oL := oL.below hb
  replace bel := belowTo bel hb (by exact bel.size)
  clear hb
  clear cT0 cT1 cT2 fT zT cL0 cL1 fL zL
  obtain ⟨cT0, cT1, cT2, fT, zT⟩ := own3 oT
  obtain ⟨cL0, cL1, fL, zL⟩ := own2 oL
  go_wp2_with fail
  go_ret
  exact ⟨rfl, bel⟩

set_option linter.unusedSimpArgs false in
set_option linter.unusedVariables false in
set_option maxRecDepth 100000 in
set_option maxHeartbeats 2000000 in
theorem rrfs_f (vu vg va : Value) (us : List Us) (gs : List Gr) (ks : List Ak) (N D : Int) (w : World) (su : SlU w vu us) (sg : SlG w vg gs) (sa : SlA w va ks) (z : Int) (u70 : us.length ≤ 70) (g70 : gs.length ≤ 70) (k70 : ks.length ≤ 70) (hv : vldT N D us gs ks = true) (hb : bsyB z us gs = false) (hf : 24 ≤ (us.length : Int) + (gs.length : Int)) : Calls Try.prog 34 #[.agg #[vu, vg, va], .agg #[.int .i64 N, .int .i64 D], .int .i64 z, .bool true] w fun e w' => e = .returned (.int .i64 10) ∧ Below w.heap.size w w' := by
  obtain ⟨pu, cu, e0, hlu, hcu, _⟩ := su.form us.length rfl
  subst e0
  obtain ⟨pg, cg, e0, hlg, hcg, _⟩ := sg.form gs.length rfl
  subst e0
  obtain ⟨pa, ca, e0, hla, hca, _⟩ := sa.form ks.length rfl
  subst e0
  have SU := Lib.hid su
  have SG := Lib.hid sg
  have SA := Lib.hid sa
  clear su sg sa
  have iu0 : (0 : Int) ≤ (us.length : Int) := Int.natCast_nonneg _
  have ig0 : (0 : Int) ≤ (gs.length : Int) := Int.natCast_nonneg _
  have ia0 : (0 : Int) ≤ (ks.length : Int) := Int.natCast_nonneg _
  have iu : (us.length : Int) ≤ 70 := by omega
  have ig : (gs.length : Int) ≤ 70 := by omega
  have ia : (ks.length : Int) ≤ 70 := by omega
  have HV := Lib.hid hv
  have HB := Lib.hid hb
  clear hv hb
  go_enter Try.func34, Try.ntmps34
  have BW := Lib.hid (show Below w.heap.size w ((w.alloc (.cells #[.slice pu us.length cu, .slice pg gs.length cg, .slice pa ks.length ca] 26)).alloc (.cells #[.int .i64 N, .int .i64 D] 28)) from (((Below.refl _ _).alloc (Nat.le_refl _) _).alloc (by simp) _))
  go_wp2_with fail
  refine (rvalid_lit _ _ _ us gs ks N D _ (SU.out.below BW.out) (SG.out.below BW.out) (SA.out.below BW.out) (by omega) (by omega) (by omega) true HV.out).mono ?_
  rintro e w1 ⟨rfl, hb⟩
  have oT : Own w1 w.heap.size [.slice pu us.length cu, .slice pg gs.length cg, .slice pa ks.length ca] 26 := ((own_at _ _ rfl).alloc _).below hb
  have oL : Own w1 (w.heap.size + 1) [.int .i64 N, .int .i64 D] 28 := (own_at _ _ (by simp)).below hb
  have bel := belowTo (((Below.refl w.heap.size w).alloc (by simp) _).alloc (by simp) _) hb (by simp; omega)
  clear hb
  obtain ⟨cT0, cT1, cT2, fT, zT⟩ := own3 oT
  obtain ⟨cL0, cL1, fL, zL⟩ := own2 oL
  go_wp2_with fail
  refine (rbusy_lit _ _ _ us gs z _ (SU.out.below bel) (SG.out.below bel) (by omega) (by omega) false HB.out).mono ?_
  rintro e w2 ⟨rfl, hb⟩
  replace oT := oT.below hb
  replace oL := oL.below hb
  replace bel := belowTo bel hb (by exact bel.size)
  clear hb
  clear cT0 cT1 cT2 fT zT cL0 cL1 fL zL
  obtain ⟨cT0, cT1, cT2, fT, zT⟩ := own3 oT
  obtain ⟨cL0, cL1, fL, zL⟩ := own2 oL
  go_wp2_with fail
  go_ret
  exact ⟨rfl, bel⟩

set_option linter.unusedSimpArgs false in
set_option linter.unusedVariables false in
set_option maxRecDepth 100000 in
set_option maxHeartbeats 2000000 in
theorem rrfs_o (vu vg va : Value) (us : List Us) (gs : List Gr) (ks : List Ak) (N D : Int) (w : World) (su : SlU w vu us) (sg : SlG w vg gs) (sa : SlA w va ks) (z : Int) (u70 : us.length ≤ 70) (g70 : gs.length ≤ 70) (k70 : ks.length ≤ 70) (hv : vldT N D us gs ks = true) (hb : bsyB z us gs = false) (hf : ¬ 24 ≤ (us.length : Int) + (gs.length : Int)) : Calls Try.prog 34 #[.agg #[vu, vg, va], .agg #[.int .i64 N, .int .i64 D], .int .i64 z, .bool true] w fun e w' => e = .returned (.int .i64 0) ∧ Below w.heap.size w w' := by
  obtain ⟨pu, cu, e0, hlu, hcu, _⟩ := su.form us.length rfl
  subst e0
  obtain ⟨pg, cg, e0, hlg, hcg, _⟩ := sg.form gs.length rfl
  subst e0
  obtain ⟨pa, ca, e0, hla, hca, _⟩ := sa.form ks.length rfl
  subst e0
  have SU := Lib.hid su
  have SG := Lib.hid sg
  have SA := Lib.hid sa
  clear su sg sa
  have iu0 : (0 : Int) ≤ (us.length : Int) := Int.natCast_nonneg _
  have ig0 : (0 : Int) ≤ (gs.length : Int) := Int.natCast_nonneg _
  have ia0 : (0 : Int) ≤ (ks.length : Int) := Int.natCast_nonneg _
  have iu : (us.length : Int) ≤ 70 := by omega
  have ig : (gs.length : Int) ≤ 70 := by omega
  have ia : (ks.length : Int) ≤ 70 := by omega
  have HV := Lib.hid hv
  have HB := Lib.hid hb
  clear hv hb
  go_enter Try.func34, Try.ntmps34
  have BW := Lib.hid (show Below w.heap.size w ((w.alloc (.cells #[.slice pu us.length cu, .slice pg gs.length cg, .slice pa ks.length ca] 26)).alloc (.cells #[.int .i64 N, .int .i64 D] 28)) from (((Below.refl _ _).alloc (Nat.le_refl _) _).alloc (by simp) _))
  go_wp2_with fail
  refine (rvalid_lit _ _ _ us gs ks N D _ (SU.out.below BW.out) (SG.out.below BW.out) (SA.out.below BW.out) (by omega) (by omega) (by omega) true HV.out).mono ?_
  rintro e w1 ⟨rfl, hb⟩
  have oT : Own w1 w.heap.size [.slice pu us.length cu, .slice pg gs.length cg, .slice pa ks.length ca] 26 := ((own_at _ _ rfl).alloc _).below hb
  have oL : Own w1 (w.heap.size + 1) [.int .i64 N, .int .i64 D] 28 := (own_at _ _ (by simp)).below hb
  have bel := belowTo (((Below.refl w.heap.size w).alloc (by simp) _).alloc (by simp) _) hb (by simp; omega)
  clear hb
  obtain ⟨cT0, cT1, cT2, fT, zT⟩ := own3 oT
  obtain ⟨cL0, cL1, fL, zL⟩ := own2 oL
  go_wp2_with fail
  refine (rbusy_lit _ _ _ us gs z _ (SU.out.below bel) (SG.out.below bel) (by omega) (by omega) false HB.out).mono ?_
  rintro e w2 ⟨rfl, hb⟩
  replace oT := oT.below hb
  replace oL := oL.below hb
  replace bel := belowTo bel hb (by exact bel.size)
  clear hb
  clear cT0 cT1 cT2 fT zT cL0 cL1 fL zL
  obtain ⟨cT0, cT1, cT2, fT, zT⟩ := own3 oT
  obtain ⟨cL0, cL1, fL, zL⟩ := own2 oL
  go_wp2_with fail
  go_ret
  exact ⟨rfl, bel⟩

theorem rrfs_lit (vu vg va : Value) (us : List Us) (gs : List Gr) (ks : List Ak) (N D : Int) (w : World) (su : SlU w vu us) (sg : SlG w vg gs) (sa : SlA w va ks) (z : Int) (ok : Bool) (u70 : us.length ≤ 70) (g70 : gs.length ≤ 70) (k70 : ks.length ≤ 70) (r : Int) (h : refE N D us gs ks ok z = r) : Calls Try.prog 34 #[.agg #[vu, vg, va], .agg #[.int .i64 N, .int .i64 D], .int .i64 z, .bool ok] w fun e w' => e = .returned (.int .i64 r) ∧ Below w.heap.size w w' := by
  subst h
  cases hv : vldT N D us gs ks with
  | false => rw [refE_v0 hv]; exact rrfs_v0 vu vg va us gs ks N D w su sg sa z u70 g70 k70 hv ok
  | true =>
    cases ok with
    | false => rw [refE_v1 rfl]; exact rrfs_v1 vu vg va us gs ks N D w su sg sa z u70 g70 k70 hv
    | true =>
      cases hb : bsyB z us gs with
      | true => rw [refE_b hv rfl hb]; exact rrfs_b vu vg va us gs ks N D w su sg sa z u70 g70 k70 hv hb
      | false =>
        by_cases hf : 24 ≤ (us.length : Int) + (gs.length : Int)
        · rw [refE_f hv rfl hb hf]; exact rrfs_f vu vg va us gs ks N D w su sg sa z u70 g70 k70 hv hb hf
        · rw [refE_o hv rfl hb hf]; exact rrfs_o vu vg va us gs ks N D w su sg sa z u70 g70 k70 hv hb hf

end Go.Proofs.Ytdmadnoijhmbcaa

/- The reference's Valid. -/
import Derived.Test.YtdmadnoijhmbcaaVld12
import Derived.Laws.MakeOwn
namespace Go.Proofs.Ytdmadnoijhmbcaa
open Go.RowKit

/-- How often each slot is in a list, as the cells of an array. -/
def cntV (m : Nat) (ks : List Int) : List Value := (List.range m).map fun (j : Nat) => Value.int .i64 (ks.count (j : Int) : Nat)
theorem cntV_at {m : Nat} {ks : List Int} {j : Nat} (h : j < m) : (cntV m ks)[j]? = some (.int .i64 (ks.count (j : Int))) := by
  rw [cntV, List.getElem?_map, List.getElem?_range h]; rfl
theorem cntV_set {m : Nat} {ks : List Int} {j : Nat} (h : j < m) : (cntV m ks).set j (.int .i64 ((ks.count (j : Int) : Int) + 1)) = cntV m (ks ++ [(j : Int)]) := by
  apply List.ext_getElem?
  intro i
  rw [List.getElem?_set]
  by_cases e : j = i
  · subst e
    have hl : j < (cntV m ks).length := by rw [cntV, List.length_map, List.length_range]; exact h
    rw [if_pos rfl, if_pos hl, cntV_at h, List.count_append]
    simp
  · rw [if_neg e]
    by_cases hi : i < m
    · rw [cntV_at hi, cntV_at hi, List.count_append, List.count_eq_zero.2 (show (i : Int) ∉ [(j : Int)] by simp; omega)]
      simp
    · rw [List.getElem?_eq_none (by rw [cntV, List.length_map, List.length_range]; omega), List.getElem?_eq_none (by rw [cntV, List.length_map, List.length_range]; omega)]
theorem info_int : (Try.prog.info? 3).map (fun i => (i.zero, i.size, i.bytes)) = some (some (.int .i64 0), 1, 8) := by kernel_rfl
theorem rmake (m : Nat) (hm : m ≤ 60) (w : World) : (Instr.makeSlice 91 (.int .i64 (m : Int)) (.int .i64 (m : Int))).run Try.prog w = .ok (.slice (some ⟨w.heap.size, 0, none⟩) m m) (w.alloc (.cells (cntV m []).toArray 3)) := by
  obtain ⟨i0, hi, hz, hs0, hb0⟩ := info_parts info_int
  have h := run_make w 91 3 i0 (.int .i64 0) (by kernel_rfl) hi hz .i64 .i64 (m : Int) (m : Int) (by omega) (by omega) (by rw [hb0]; omega) (by omega)
  rw [h]
  have e : madeCells (Value.cells (.int .i64 0)) (((m : Int)).toNat * i0.size) = (cntV m []).toArray := by
    rw [hs0, show Value.cells (.int .i64 0) = #[.int .i64 0] from rfl]
    apply Array.ext'
    rw [toList_madeCells_one]
    refine (List.eq_replicate_iff.2 ⟨by simp [cntV], fun b hb => ?_⟩).symm
    simp only [cntV, List.count_nil, List.mem_map] at hb
    obtain ⟨j, _, rfl⟩ := hb
    rfl
  rw [e]
  simp
theorem count_le70 {α : Type} {l : List α} {f : α → Int} {i : Nat} (k : Int) (h : l.length ≤ 70) : ((l.take i).map f).count k ≤ 70 := by
  have h1 := List.count_le_length (a := k) (l := (l.take i).map f)
  rw [List.length_map, List.length_take] at h1
  omega

set_option linter.unusedSimpArgs false in
set_option linter.unusedVariables false in
set_option maxRecDepth 100000 in
set_option maxHeartbeats 2000000 in
theorem rvld_t0 (vu vg va : Value) (us : List Us) (gs : List Gr) (ks : List Ak) (N D : Int) (w : World) (su : SlU w vu us) (sg : SlG w vg gs) (sa : SlA w va ks) (u70 : us.length ≤ 70) (g70 : gs.length ≤ 70) (k70 : ks.length ≤ 70) (hl : layB N D = false) : Calls Try.prog 18 #[.agg #[vu, vg, va], .agg #[.int .i64 N, .int .i64 D]] w fun e w' => e = .returned (.bool false) ∧ Below w.heap.size w w' := by
  obtain ⟨pu, cu, e0, hlu, hcu, _⟩ := su.form us.length rfl
  subst e0
  obtain ⟨pg, cg, e0, hlg, hcg, _⟩ := sg.form gs.length rfl
  subst e0
  obtain ⟨pa, ca, e0, hla, hca, _⟩ := sa.form ks.length rfl
  subst e0
  have SU := Lib.hid su
  have SG := Lib.hid sg
  have SA := Lib.hid sa
  clear su sg sa
  have iu0 : (0 : Int) ≤ (us.length : Int) := Int.natCast_nonneg _
  have ig0 : (0 : Int) ≤ (gs.length : Int) := Int.natCast_nonneg _
  have ia0 : (0 : Int) ≤ (ks.length : Int) := Int.natCast_nonneg _
  have iu : (us.length : Int) ≤ 70 := by omega
  have ig : (gs.length : Int) ≤ 70 := by omega
  have ia : (ks.length : Int) ≤ 70 := by omega
  have HL := Lib.hid hl
  clear hl
  go_enter Try.func18, Try.ntmps18
  go_wp2_with fail
  refine (rlay_lit N D false _ HL.out).mono ?_
  rintro e w1 ⟨rfl, hb⟩
  have oT : Own w1 w.heap.size [.slice pu us.length cu, .slice pg gs.length cg, .slice pa ks.length ca] 26 := ((own_at _ _ rfl).alloc _).below hb
  have oL : Own w1 (w.heap.size + 1) [.int .i64 N, .int .i64 D] 28 := (own_at _ _ (by simp)).below hb
  have bel := belowTo (((Below.refl w.heap.size w).alloc (by simp) _).alloc (by simp) _) hb (by simp; omega)
  clear hb
  obtain ⟨cT0, cT1, cT2, fT, zT⟩ := own3 oT
  obtain ⟨cL0, cL1, fL, zL⟩ := own2 oL
  go_wp2_with fail
  go_ret
  exact ⟨rfl, bel⟩

set_option linter.unusedSimpArgs false in
set_option linter.unusedVariables false in
set_option maxRecDepth 100000 in
set_option maxHeartbeats 2000000 in
theorem rvld_t1 (vu vg va : Value) (us : List Us) (gs : List Gr) (ks : List Ak) (N D : Int) (w : World) (su : SlU w vu us) (sg : SlG w vg gs) (sa : SlA w va ks) (u70 : us.length ≤ 70) (g70 : gs.length ≤ 70) (k70 : ks.length ≤ 70) (hl : layB N D = true) (L0 : decide (24 < (us.length : Int) + (gs.length : Int)) = true) : Calls Try.prog 18 #[.agg #[vu, vg, va], .agg #[.int .i64 N, .int .i64 D]] w fun e w' => e = .returned (.bool false) ∧ Below w.heap.size w w' := by
  obtain ⟨pu, cu, e0, hlu, hcu, _⟩ := su.form us.length rfl
  subst e0
  obtain ⟨pg, cg, e0, hlg, hcg, _⟩ := sg.form gs.length rfl
  subst e0
  obtain ⟨pa, ca, e0, hla, hca, _⟩ := sa.form ks.length rfl
  subst e0
  have SU := Lib.hid su
  have SG := Lib.hid sg
  have SA := Lib.hid sa
  clear su sg sa
  have iu0 : (0 : Int) ≤ (us.length : Int) := Int.natCast_nonneg _
  have ig0 : (0 : Int) ≤ (gs.length : Int) := Int.natCast_nonneg _
  have ia0 : (0 : Int) ≤ (ks.length : Int) := Int.natCast_nonneg _
  have iu : (us.length : Int) ≤ 70 := by omega
  have ig : (gs.length : Int) ≤ 70 := by omega
  have ia : (ks.length : Int) ≤ 70 := by omega
  have HL := Lib.hid hl
  clear hl
  go_enter Try.func18, Try.ntmps18
  go_wp2_with fail
  refine (rlay_lit N D true _ HL.out).mono ?_
  rintro e w1 ⟨rfl, hb⟩
  have oT : Own w1 w.heap.size [.slice pu us.length cu, .slice pg gs.length cg, .slice pa ks.length ca] 26 := ((own_at _ _ rfl).alloc _).below hb
  have oL : Own w1 (w.heap.size + 1) [.int .i64 N, .int .i64 D] 28 := (own_at _ _ (by simp)).below hb
  have bel := belowTo (((Below.refl w.heap.size w).alloc (by simp) _).alloc (by simp) _) hb (by simp; omega)
  clear hb
  obtain ⟨cT0, cT1, cT2, fT, zT⟩ := own3 oT
  obtain ⟨cL0, cL1, fL, zL⟩ := own2 oL
  go_wp2_with fail
  go_ret
  exact ⟨rfl, bel⟩

set_option linter.unusedSimpArgs false in
set_option linter.unusedVariables false in
set_option maxRecDepth 100000 in
set_option maxHeartbeats 2000000 in
theorem rvld_t2 (vu vg va : Value) (us : List Us) (gs : List Gr) (ks : List Ak) (N D : Int) (w : World) (su : SlU w vu us) (sg : SlG w vg gs) (sa : SlA w va ks) (u70 : us.length ≤ 70) (g70 : gs.length ≤ 70) (k70 : ks.length ≤ 70) (hl : layB N D = true) (L0 : decide (24 < (us.length : Int) + (gs.length : Int)) = false) (L1 : decide (24 < (ks.length : Int)) = true) : Calls Try.prog 18 #[.agg #[vu, vg, va], .agg #[.int .i64 N, .int .i64 D]] w fun e w' => e = .returned (.bool false) ∧ Below w.heap.size w w' := by
  obtain ⟨pu, cu, e0, hlu, hcu, _⟩ := su.form us.length rfl
  subst e0
  obtain ⟨pg, cg, e0, hlg, hcg, _⟩ := sg.form gs.length rfl
  subst e0
  obtain ⟨pa, ca, e0, hla, hca, _⟩ := sa.form ks.length rfl
  subst e0
  have SU := Lib.hid su
  have SG := Lib.hid sg
  have SA := Lib.hid sa
  clear su sg sa
  have iu0 : (0 : Int) ≤ (us.length : Int) := Int.natCast_nonneg _
  have ig0 : (0 : Int) ≤ (gs.length : Int) := Int.natCast_nonneg _
  have ia0 : (0 : Int) ≤ (ks.length : Int) := Int.natCast_nonneg _
  have iu : (us.length : Int) ≤ 70 := by omega
  have ig : (gs.length : Int) ≤ 70 := by omega
  have ia : (ks.length : Int) ≤ 70 := by omega
  have HL := Lib.hid hl
  clear hl
  go_enter Try.func18, Try.ntmps18
  go_wp2_with fail
  refine (rlay_lit N D true _ HL.out).mono ?_
  rintro e w1 ⟨rfl, hb⟩
  have oT : Own w1 w.heap.size [.slice pu us.length cu, .slice pg gs.length cg, .slice pa ks.length ca] 26 := ((own_at _ _ rfl).alloc _).below hb
  have oL : Own w1 (w.heap.size + 1) [.int .i64 N, .int .i64 D] 28 := (own_at _ _ (by simp)).below hb
  have bel := belowTo (((Below.refl w.heap.size w).alloc (by simp) _).alloc (by simp) _) hb (by simp; omega)
  clear hb
  obtain ⟨cT0, cT1, cT2, fT, zT⟩ := own3 oT
  obtain ⟨cL0, cL1, fL, zL⟩ := own2 oL
  go_wp2_with fail
  go_ret
  exact ⟨rfl, bel⟩

set_option linter.unusedSimpArgs false in
set_option linter.unusedVariables false in
set_option maxRecDepth 100000 in
set_option maxHeartbeats 2000000 in
theorem rvld_ok (vu vg va : Value) (us : List Us) (gs : List Gr) (ks : List Ak) (N D : Int) (w : World) (su : SlU w vu us) (sg : SlG w vg gs) (sa : SlA w va ks) (u70 : us.length ≤ 70) (g70 : gs.length ≤ 70) (k70 : ks.length ≤ 70) (hl : layB N D = true) (L0 : decide (24 < (us.length : Int) + (gs.length : Int)) = false) (L1 : decide (24 < (ks.length : Int)) = false) : Calls Try.prog 18 #[.agg #[vu, vg, va], .agg #[.int .i64 N, .int .i64 D]] w fun e w' => e = .returned (.bool (sndU N D us && (sndG N D gs && (sndA N D ks && oneB us gs ks)))) ∧ Below w.heap.size w w' := by
  have hl' := layB_iff.1 hl
  obtain ⟨m, rfl⟩ : ∃ m : Nat, D = (m : Int) := ⟨D.toNat, by omega⟩
  have hm60 : m ≤ 60 := by omega
  have hm1 : 1 ≤ m := by omega
  obtain ⟨RES, hres⟩ : ∃ RES, (sndU N (m : Int) us && (sndG N (m : Int) gs && (sndA N (m : Int) ks && oneB us gs ks))) = RES := ⟨_, rfl⟩
  rw [hres]
  have HRES := Lib.hid hres.symm
  have hmk := rmake m hm60
  have i0' : (0 : Int) ≤ (m : Int) := Int.natCast_nonneg _
  have i1' : (m : Int) ≤ 60 := by omega
  clear hl' hres
  obtain ⟨pu, cu, e0, hlu, hcu, _⟩ := su.form us.length rfl
  subst e0
  obtain ⟨pg, cg, e0, hlg, hcg, _⟩ := sg.form gs.length rfl
  subst e0
  obtain ⟨pa, ca, e0, hla, hca, _⟩ := sa.form ks.length rfl
  subst e0
  have SU := Lib.hid su
  have SG := Lib.hid sg
  have SA := Lib.hid sa
  clear su sg sa
  have iu0 : (0 : Int) ≤ (us.length : Int) := Int.natCast_nonneg _
  have ig0 : (0 : Int) ≤ (gs.length : Int) := Int.natCast_nonneg _
  have ia0 : (0 : Int) ≤ (ks.length : Int) := Int.natCast_nonneg _
  have iu : (us.length : Int) ≤ 70 := by omega
  have ig : (gs.length : Int) ≤ 70 := by omega
  have ia : (ks.length : Int) ≤ 70 := by omega
  have HL := Lib.hid hl
  clear hl
  go_enter Try.func18, Try.ntmps18
  go_wp2_with fail
  refine (rlay_lit N (m : Int) true _ HL.out).mono ?_
  rintro e w1 ⟨rfl, hb⟩
  have oT : Own w1 w.heap.size [.slice pu us.length cu, .slice pg gs.length cg, .slice pa ks.length ca] 26 := ((own_at _ _ rfl).alloc _).below hb
  have oL : Own w1 (w.heap.size + 1) [.int .i64 N, .int .i64 (m : Int)] 28 := (own_at _ _ (by simp)).below hb
  have bel := belowTo (((Below.refl w.heap.size w).alloc (by simp) _).alloc (by simp) _) hb (by simp; omega)
  clear hb
  obtain ⟨cT0, cT1, cT2, fT, zT⟩ := own3 oT
  obtain ⟨cL0, cL1, fL, zL⟩ := own2 oL
  have OT1 := Lib.hid oT
  have OL1 := Lib.hid oL
  have SU1 := Lib.hid (SU.out.below bel)
  have SG1 := Lib.hid (SG.out.below bel)
  have SA1 := Lib.hid (SA.out.below bel)
  have BB1 := Lib.hid bel
  have OA0 := Lib.hid (own_at (w := w1) (cntV m []) 3 rfl)
  have B0 := Lib.hid (belowNew w1 (.cells (cntV m []).toArray 3))
  clear SU SG SA oT oL bel
  go_wp2_with fail
  clear cT0 cT1 cT2 fT zT cL0 cL1 fL zL
  go_loopw [6] (fun ii wr => ∃ (i : Nat) (last : Int), i ≤ us.length ∧ ii = .int .i64 i ∧ sndU N (m : Int) us = sndF (usB N (m : Int)) Us.s last (us.drop i) ∧ (i = 0 → last = -1) ∧ (∀ n, i = n + 1 → ∃ pv, us[n]? = some pv ∧ Us.s pv = last) ∧ (∀ z ∈ (us.take i).map Us.s, 0 ≤ z ∧ z < (m : Int)) ∧ Own wr w1.heap.size (cntV m ((us.take i).map Us.s)) 3 ∧ Below w1.heap.size w1 wr) (fun i _ => us.length - (intOf i).toNat)
  case atStart => exact ⟨0, -1, by omega, rfl, rfl, fun _ => rfl, fun n h => by omega, by simp, OA0.out, B0.out⟩
  case round =>
    obtain ⟨i, last, hi, rfl, hT, hz, hs, hr, hoa, bel⟩ := hrel
    have HT := Lib.hid hT
    have HZ := Lib.hid hz
    have HSS := Lib.hid hs
    have HRR := Lib.hid hr
    have OA := Lib.hid hoa
    have BE := Lib.hid bel
    clear hT hz hs hr hoa bel
    have j0 : (0 : Int) ≤ (i : Int) := Int.natCast_nonneg _
    have oTr := Lib.hid (OT1.out.below BE.out)
    have oLr := Lib.hid (OL1.out.below BE.out)
    obtain ⟨t0, t1, t2, fT, zT⟩ := own3 oTr.out
    obtain ⟨y0, y1, fL, zL⟩ := own2 oLr.out
    by_cases hlt : i < us.length
    · obtain ⟨d, b, off, hd, rfl, hbl, _, d0, d1, d2, d3⟩ := SU1.out.atU BE.out hlt
      have j1 : (i : Int) < (us.length : Int) := by omega
      have HD := Lib.hid hd
      have HS := Lib.hid (sndF_step (ok := usB N (m : Int)) (sl := Us.s) (last := last) hd)
      clear hd
      cases hv : usB N (m : Int) d with
      | false =>
        have HV := Lib.hid hv
        clear hv
        go_wp2_with fail
        refine region_H 30 #[false, false, false, false, false, false, false, false, false, false, false, false, false, false, false, false, false, false, false, false, false, false, false, false, false, false, false, false, false, false] (by kernel_rfl) (by kernel_rfl) (fun w' => w'.cell? ⟨w.heap.size, 0, none⟩ = some (.slice (some ⟨b, off, none⟩) us.length cu) ∧ w'.cell? ⟨w.heap.size + 1, 0, none⟩ = some (.int .i64 N) ∧ w'.cell? ⟨w.heap.size + 1, 1, none⟩ = some (.int .i64 (m : Int)) ∧ w'.cell? ⟨b, off + i * 4, none⟩ = some (.int .i64 d.s) ∧ w'.cell? ⟨b, off + i * 4 + 1, none⟩ = some (.int .i64 d.o) ∧ w'.cell? ⟨b, off + i * 4 + 2, none⟩ = some (.int .i64 d.p) ∧ w'.cell? ⟨b, off + i * 4 + 3, none⟩ = some (.int .i64 d.m)) (by kernel_rfl) ?x1s (fun hHeld => ?x1r)
        case x1s => exact ⟨t0, y0, y1, d0, d1, d2, d3⟩
        refine wpH_take (i := 0) (some 39) (v := ?x2v) rfl (by kernel_rfl) (by kernel_rfl) (by kernel_rfl) rfl (fun _ _ _ h => h) (Or.inl ⟨by rfl, ?x2y⟩) hHeld ?x2r
        case x2y => (intro w hSw; (try dsimp only at hSw); go_simp; try with_reducible rfl)
        try simp only [Act.put, List.setIfInBounds_toArray, List.set_cons_zero, List.set_cons_succ]
        refine wpH_take (i := 1) (some 40) (v := ?x3v) rfl (by kernel_rfl) (by kernel_rfl) (by kernel_rfl) rfl (fun _ _ _ h => h) (Or.inl ⟨by rfl, ?x3y⟩) hHeld ?x3r
        case x3y => (intro w hSw; (try dsimp only at hSw); go_simp; try with_reducible rfl)
        try simp only [Act.put, List.setIfInBounds_toArray, List.set_cons_zero, List.set_cons_succ]
        refine wpH_take (i := 2) (some 41) (v := ?x4v) rfl (by kernel_rfl) (by kernel_rfl) (by kernel_rfl) rfl (fun _ _ _ h => h) (Or.inl ⟨by rfl, ?x4y⟩) hHeld ?x4r
        case x4y => (intro w hSw; (try dsimp only at hSw); go_simp; try with_reducible rfl)
        try simp only [Act.put, List.setIfInBounds_toArray, List.set_cons_zero, List.set_cons_succ]
        refine wpH_take (i := 3) (some 42) (v := ?x5v) rfl (by kernel_rfl) (by kernel_rfl) (by kernel_rfl) rfl (fun _ _ _ h => h) (Or.inl ⟨by rfl, ?x5y⟩) hHeld ?x5r
        case x5y => (intro w hSw; (try dsimp only at hSw); go_simp; try with_reducible rfl)
        try simp only [Act.put, List.setIfInBounds_toArray, List.set_cons_zero, List.set_cons_succ]
        refine wpH_take (i := 4) (some 43) (v := ?x6v) rfl (by kernel_rfl) (by kernel_rfl) (by kernel_rfl) rfl (fun _ _ _ h => h) (Or.inl ⟨by rfl, ?x6y⟩) hHeld ?x6r
        case x6y => (intro w hSw; (try dsimp only at hSw); go_simp; try with_reducible rfl)
        try simp only [Act.put, List.setIfInBounds_toArray, List.set_cons_zero, List.set_cons_succ]
        refine wpH_take (i := 5) (some 44) (v := ?x7v) rfl (by kernel_rfl) (by kernel_rfl) (by kernel_rfl) rfl (fun _ _ _ h => h) (Or.inl ⟨by rfl, ?x7y⟩) hHeld ?x7r
        case x7y => (intro w hSw; (try dsimp only at hSw); go_simp; try with_reducible rfl)
        try simp only [Act.put, List.setIfInBounds_toArray, List.set_cons_zero, List.set_cons_succ]
        refine wpH_one (i := 6) (by kernel_rfl) rfl (fun K hK => ?_)
        rw [if_pos (by rfl)]
        go_simp
        refine (ruval_lit d N (m : Int) false _ HV.out).mono ?_
        rintro e w3 ⟨rfl, hb⟩
        have BC := Lib.hid (BE.out.drew.trans (hb.mono BE.out.size))
        have OA3 := Lib.hid (OA.out.drew.below hb)
        have oT3 := Lib.hid (oTr.out.drew.below hb)
        have oL3 := Lib.hid (oLr.out.drew.below hb)
        obtain ⟨u0, u1, u2, fT3, zT3⟩ := own3 oT3.out
        obtain ⟨v0, v1, fL3, zL3⟩ := own2 oL3.out
        have e0 : w3.cell? ⟨b, off + i * 4, none⟩ = some (.int .i64 d.s) := (hb.cell (p := ⟨b, off + i * 4, none⟩) hbl).trans d0
        have e1 : w3.cell? ⟨b, off + i * 4 + 1, none⟩ = some (.int .i64 d.o) := (hb.cell (p := ⟨b, off + i * 4 + 1, none⟩) hbl).trans d1
        have e2 : w3.cell? ⟨b, off + i * 4 + 2, none⟩ = some (.int .i64 d.p) := (hb.cell (p := ⟨b, off + i * 4 + 2, none⟩) hbl).trans d2
        have e3 : w3.cell? ⟨b, off + i * 4 + 3, none⟩ = some (.int .i64 d.m) := (hb.cell (p := ⟨b, off + i * 4 + 3, none⟩) hbl).trans d3
        clear hb
        refine hK.out _ _ (⟨u0, v0, v1, e0, e1, e2, e3⟩) ?_
        clear hK K hHeld
        intro hHeld
        try simp only [Act.put, List.setIfInBounds_toArray, List.set_cons_zero, List.set_cons_succ]
        refine wpH_take (i := 7) (some 46) (v := ?x9v) rfl (by kernel_rfl) (by kernel_rfl) (by kernel_rfl) rfl (fun _ _ _ h => h) (Or.inl ⟨by rfl, ?x9y⟩) hHeld ?x9r
        case x9y => (intro w hSw; (try dsimp only at hSw); go_simp; try with_reducible rfl)
        try simp only [Act.put, List.setIfInBounds_toArray, List.set_cons_zero, List.set_cons_succ]
        refine wpH_take (i := 8) (some 47) (v := ?x10v) rfl (by kernel_rfl) (by kernel_rfl) (by kernel_rfl) rfl (fun _ _ _ h => h) (Or.inl ⟨by rfl, ?x10y⟩) hHeld ?x10r
        case x10y => (intro w hSw; (try dsimp only at hSw); go_simp; try with_reducible rfl)
        try simp only [Act.put, List.setIfInBounds_toArray, List.set_cons_zero, List.set_cons_succ]
        refine wpH_take (i := 9) (some 48) (v := undef) rfl (by kernel_rfl) (by kernel_rfl) (by kernel_rfl) rfl (fun _ _ _ h => h) (Or.inr ⟨by rfl, rfl⟩) hHeld ?x11r
        try simp only [Act.put, List.setIfInBounds_toArray, List.set_cons_zero, List.set_cons_succ]
        refine wpH_take (i := 10) (some 49) (v := undef) rfl (by kernel_rfl) (by kernel_rfl) (by kernel_rfl) rfl (fun _ _ _ h => h) (Or.inr ⟨by rfl, rfl⟩) hHeld ?x12r
        try simp only [Act.put, List.setIfInBounds_toArray, List.set_cons_zero, List.set_cons_succ]
        refine wpH_take (i := 11) (some 50) (v := undef) rfl (by kernel_rfl) (by kernel_rfl) (by kernel_rfl) rfl (fun _ _ _ h => h) (Or.inr ⟨by rfl, rfl⟩) hHeld ?x13r
        try simp only [Act.put, List.setIfInBounds_toArray, List.set_cons_zero, List.set_cons_succ]
        refine wpH_take (i := 12) (some 51) (v := undef) rfl (by kernel_rfl) (by kernel_rfl) (by kernel_rfl) rfl (fun _ _ _ h => h) (Or.inr ⟨by rfl, rfl⟩) hHeld ?x14r
        try simp only [Act.put, List.setIfInBounds_toArray, List.set_cons_zero, List.set_cons_succ]
        refine wpH_take (i := 13) (some 52) (v := undef) rfl (by kernel_rfl) (by kernel_rfl) (by kernel_rfl) rfl (fun _ _ _ h => h) (Or.inr ⟨by rfl, rfl⟩) hHeld ?x15r
        try simp only [Act.put, List.setIfInBounds_toArray, List.set_cons_zero, List.set_cons_succ]
        refine wpH_take (i := 14) (some 53) (v := undef) rfl (by kernel_rfl) (by kernel_rfl) (by kernel_rfl) rfl (fun _ _ _ h => h) (Or.inr ⟨by rfl, rfl⟩) hHeld ?x16r
        try simp only [Act.put, List.setIfInBounds_toArray, List.set_cons_zero, List.set_cons_succ]
        refine wpH_take (i := 15) (some 54) (v := undef) rfl (by kernel_rfl) (by kernel_rfl) (by kernel_rfl) rfl (fun _ _ _ h => h) (Or.inr ⟨by rfl, rfl⟩) hHeld ?x17r
        try simp only [Act.put, List.setIfInBounds_toArray, List.set_cons_zero, List.set_cons_succ]
        refine wpH_take (i := 16) (some 55) (v := undef) rfl (by kernel_rfl) (by kernel_rfl) (by kernel_rfl) rfl (fun _ _ _ h => h) (Or.inr ⟨by rfl, rfl⟩) hHeld ?x18r
        try simp only [Act.put, List.setIfInBounds_toArray, List.set_cons_zero, List.set_cons_succ]
        refine wpH_take (i := 17) (some 56) (v := undef) rfl (by kernel_rfl) (by kernel_rfl) (by kernel_rfl) rfl (fun _ _ _ h => h) (Or.inr ⟨by rfl, rfl⟩) hHeld ?x19r
        try simp only [Act.put, List.setIfInBounds_toArray, List.set_cons_zero, List.set_cons_succ]
        refine wpH_take (i := 18) (some 57) (v := undef) rfl (by kernel_rfl) (by kernel_rfl) (by kernel_rfl) rfl (fun _ _ _ h => h) (Or.inr ⟨by rfl, rfl⟩) hHeld ?x20r
        try simp only [Act.put, List.setIfInBounds_toArray, List.set_cons_zero, List.set_cons_succ]
        refine wpH_take (i := 19) (some 58) (v := undef) rfl (by kernel_rfl) (by kernel_rfl) (by kernel_rfl) rfl (fun _ _ _ h => h) (Or.inr ⟨by rfl, rfl⟩) hHeld ?x21r
        try simp only [Act.put, List.setIfInBounds_toArray, List.set_cons_zero, List.set_cons_succ]
        refine wpH_take (i := 20) (some 59) (v := undef) rfl (by kernel_rfl) (by kernel_rfl) (by kernel_rfl) rfl (fun _ _ _ h => h) (Or.inr ⟨by rfl, rfl⟩) hHeld ?x22r
        try simp only [Act.put, List.setIfInBounds_toArray, List.set_cons_zero, List.set_cons_succ]
        refine wpH_take (i := 21) (some 60) (v := undef) rfl (by kernel_rfl) (by kernel_rfl) (by kernel_rfl) rfl (fun _ _ _ h => h) (Or.inr ⟨by rfl, rfl⟩) hHeld ?x23r
        try simp only [Act.put, List.setIfInBounds_toArray, List.set_cons_zero, List.set_cons_succ]
        refine wpH_take (i := 22) (some 61) (v := undef) rfl (by kernel_rfl) (by kernel_rfl) (by kernel_rfl) rfl (fun _ _ _ h => h) (Or.inr ⟨by rfl, rfl⟩) hHeld ?x24r
        try simp only [Act.put, List.setIfInBounds_toArray, List.set_cons_zero, List.set_cons_succ]
        refine wpH_take (i := 23) (some 62) (v := undef) rfl (by kernel_rfl) (by kernel_rfl) (by kernel_rfl) rfl (fun _ _ _ h => h) (Or.inr ⟨by rfl, rfl⟩) hHeld ?x25r
        try simp only [Act.put, List.setIfInBounds_toArray, List.set_cons_zero, List.set_cons_succ]
        refine wpH_take (i := 24) (some 63) (v := undef) rfl (by kernel_rfl) (by kernel_rfl) (by kernel_rfl) rfl (fun _ _ _ h => h) (Or.inr ⟨by rfl, rfl⟩) hHeld ?x26r
        try simp only [Act.put, List.setIfInBounds_toArray, List.set_cons_zero, List.set_cons_succ]
        refine wpH_take (i := 25) (some 64) (v := undef) rfl (by kernel_rfl) (by kernel_rfl) (by kernel_rfl) rfl (fun _ _ _ h => h) (Or.inr ⟨by rfl, rfl⟩) hHeld ?x27r
        try simp only [Act.put, List.setIfInBounds_toArray, List.set_cons_zero, List.set_cons_succ]
        refine wpH_take (i := 26) (some 65) (v := undef) rfl (by kernel_rfl) (by kernel_rfl) (by kernel_rfl) rfl (fun _ _ _ h => h) (Or.inr ⟨by rfl, rfl⟩) hHeld ?x28r
        try simp only [Act.put, List.setIfInBounds_toArray, List.set_cons_zero, List.set_cons_succ]
        refine wpH_take (i := 27) (some 66) (v := undef) rfl (by kernel_rfl) (by kernel_rfl) (by kernel_rfl) rfl (fun _ _ _ h => h) (Or.inr ⟨by rfl, rfl⟩) hHeld ?x29r
        try simp only [Act.put, List.setIfInBounds_toArray, List.set_cons_zero, List.set_cons_succ]
        refine wpH_take (i := 28) (some 67) (v := undef) rfl (by kernel_rfl) (by kernel_rfl) (by kernel_rfl) rfl (fun _ _ _ h => h) (Or.inr ⟨by rfl, rfl⟩) hHeld ?x30r
        try simp only [Act.put, List.setIfInBounds_toArray, List.set_cons_zero, List.set_cons_succ]
        refine wpH_take (i := 29) (some 68) (v := ?x31v) rfl (by kernel_rfl) (by kernel_rfl) (by kernel_rfl) rfl (fun _ _ _ h => h) (Or.inl ⟨by rfl, ?x31y⟩) hHeld ?x31r
        case x31y => (intro w hSw; (try dsimp only at hSw); go_simp; try with_reducible rfl)
        try simp only [Act.put, List.setIfInBounds_toArray, List.set_cons_zero, List.set_cons_succ]
        refine wpAnyH_done (by kernel_rfl) ?_ _
        go_wp2_with fail
        go_ret
        exact ⟨ret_bool (by rw [HRES.out, HT.out, HS.out, HV.out]; simp), BB1.out.trans (BC.out.mono BB1.out.size)⟩
      | true =>
        have HV := Lib.hid hv
        have hsl := u_slot hv
        obtain ⟨hs0, hs1⟩ := hsl
        obtain ⟨kx, hkx⟩ : ∃ kx : Nat, d.s = (kx : Int) := ⟨d.s.toNat, by omega⟩
        have HKX := Lib.hid hkx
        have hkm : kx < m := by omega
        clear hv hkx
        by_cases h0 : i = 0
        · have k3 : decide ((0 : Int) < (i : Int)) = false := decide_eq_false (by omega)
          have k4 : decide (0 < i) = false := decide_eq_false (by omega)
          have HL0 := Lib.hid (HZ.out h0)
          have H00 := Lib.hid h0
          clear h0
          go_wp2_with fail
          refine region_H 30 #[false, false, false, false, false, false, false, false, false, false, false, false, false, false, false, false, false, false, false, false, false, false, false, false, false, false, false, false, false, false] (by kernel_rfl) (by kernel_rfl) (fun w' => w'.cell? ⟨w.heap.size, 0, none⟩ = some (.slice (some ⟨b, off, none⟩) us.length cu) ∧ w'.cell? ⟨w.heap.size + 1, 0, none⟩ = some (.int .i64 N) ∧ w'.cell? ⟨w.heap.size + 1, 1, none⟩ = some (.int .i64 (m : Int)) ∧ w'.cell? ⟨b, off + i * 4, none⟩ = some (.int .i64 d.s) ∧ w'.cell? ⟨b, off + i * 4 + 1, none⟩ = some (.int .i64 d.o) ∧ w'.cell? ⟨b, off + i * 4 + 2, none⟩ = some (.int .i64 d.p) ∧ w'.cell? ⟨b, off + i * 4 + 3, none⟩ = some (.int .i64 d.m)) (by kernel_rfl) ?x32s (fun hHeld => ?x32r)
          case x32s => exact ⟨t0, y0, y1, d0, d1, d2, d3⟩
          refine wpH_take (i := 0) (some 39) (v := ?x33v) rfl (by kernel_rfl) (by kernel_rfl) (by kernel_rfl) rfl (fun _ _ _ h => h) (Or.inl ⟨by rfl, ?x33y⟩) hHeld ?x33r
          case x33y => (intro w hSw; (try dsimp only at hSw); go_simp; try with_reducible rfl)
          try simp only [Act.put, List.setIfInBounds_toArray, List.set_cons_zero, List.set_cons_succ]
          refine wpH_take (i := 1) (some 40) (v := ?x34v) rfl (by kernel_rfl) (by kernel_rfl) (by kernel_rfl) rfl (fun _ _ _ h => h) (Or.inl ⟨by rfl, ?x34y⟩) hHeld ?x34r
          case x34y => (intro w hSw; (try dsimp only at hSw); go_simp; try with_reducible rfl)
          try simp only [Act.put, List.setIfInBounds_toArray, List.set_cons_zero, List.set_cons_succ]
          refine wpH_take (i := 2) (some 41) (v := ?x35v) rfl (by kernel_rfl) (by kernel_rfl) (by kernel_rfl) rfl (fun _ _ _ h => h) (Or.inl ⟨by rfl, ?x35y⟩) hHeld ?x35r
          case x35y => (intro w hSw; (try dsimp only at hSw); go_simp; try with_reducible rfl)
          try simp only [Act.put, List.setIfInBounds_toArray, List.set_cons_zero, List.set_cons_succ]
          refine wpH_take (i := 3) (some 42) (v := ?x36v) rfl (by kernel_rfl) (by kernel_rfl) (by kernel_rfl) rfl (fun _ _ _ h => h) (Or.inl ⟨by rfl, ?x36y⟩) hHeld ?x36r
          case x36y => (intro w hSw; (try dsimp only at hSw); go_simp; try with_reducible rfl)
          try simp only [Act.put, List.setIfInBounds_toArray, List.set_cons_zero, List.set_cons_succ]
          refine wpH_take (i := 4) (some 43) (v := ?x37v) rfl (by kernel_rfl) (by kernel_rfl) (by kernel_rfl) rfl (fun _ _ _ h => h) (Or.inl ⟨by rfl, ?x37y⟩) hHeld ?x37r
          case x37y => (intro w hSw; (try dsimp only at hSw); go_simp; try with_reducible rfl)
          try simp only [Act.put, List.setIfInBounds_toArray, List.set_cons_zero, List.set_cons_succ]
          refine wpH_take (i := 5) (some 44) (v := ?x38v) rfl (by kernel_rfl) (by kernel_rfl) (by kernel_rfl) rfl (fun _ _ _ h => h) (Or.inl ⟨by rfl, ?x38y⟩) hHeld ?x38r
          case x38y => (intro w hSw; (try dsimp only at hSw); go_simp; try with_reducible rfl)
          try simp only [Act.put, List.setIfInBounds_toArray, List.set_cons_zero, List.set_cons_succ]
          refine wpH_one (i := 6) (by kernel_rfl) rfl (fun K hK => ?_)
          rw [if_pos (by rfl)]
          go_simp
          refine (ruval_lit d N (m : Int) true _ HV.out).mono ?_
          rintro e w3 ⟨rfl, hb⟩
          have BC := Lib.hid (BE.out.drew.trans (hb.mono BE.out.size))
          have OA3 := Lib.hid (OA.out.drew.below hb)
          have oT3 := Lib.hid (oTr.out.drew.below hb)
          have oL3 := Lib.hid (oLr.out.drew.below hb)
          obtain ⟨u0, u1, u2, fT3, zT3⟩ := own3 oT3.out
          obtain ⟨v0, v1, fL3, zL3⟩ := own2 oL3.out
          have e0 : w3.cell? ⟨b, off + i * 4, none⟩ = some (.int .i64 d.s) := (hb.cell (p := ⟨b, off + i * 4, none⟩) hbl).trans d0
          have e1 : w3.cell? ⟨b, off + i * 4 + 1, none⟩ = some (.int .i64 d.o) := (hb.cell (p := ⟨b, off + i * 4 + 1, none⟩) hbl).trans d1
          have e2 : w3.cell? ⟨b, off + i * 4 + 2, none⟩ = some (.int .i64 d.p) := (hb.cell (p := ⟨b, off + i * 4 + 2, none⟩) hbl).trans d2
          have e3 : w3.cell? ⟨b, off + i * 4 + 3, none⟩ = some (.int .i64 d.m) := (hb.cell (p := ⟨b, off + i * 4 + 3, none⟩) hbl).trans d3
          clear hb
          refine hK.out _ _ (⟨u0, v0, v1, e0, e1, e2, e3⟩) ?_
          clear hK K hHeld
          intro hHeld
          try simp only [Act.put, List.setIfInBounds_toArray, List.set_cons_zero, List.set_cons_succ]
          refine wpH_take (i := 7) (some 46) (v := ?x40v) rfl (by kernel_rfl) (by kernel_rfl) (by kernel_rfl) rfl (fun _ _ _ h => h) (Or.inl ⟨by rfl, ?x40y⟩) hHeld ?x40r
          case x40y => (intro w hSw; (try dsimp only at hSw); go_simp; try with_reducible rfl)
          try simp only [Act.put, List.setIfInBounds_toArray, List.set_cons_zero, List.set_cons_succ]
          refine wpH_take (i := 8) (some 47) (v := ?x41v) rfl (by kernel_rfl) (by kernel_rfl) (by kernel_rfl) rfl (fun _ _ _ h => h) (Or.inl ⟨by rfl, ?x41y⟩) hHeld ?x41r
          case x41y => (intro w hSw; (try dsimp only at hSw); go_simp; try with_reducible rfl)
          try simp only [Act.put, List.setIfInBounds_toArray, List.set_cons_zero, List.set_cons_succ]
          refine wpH_take (i := 9) (some 48) (v := ?x42v) rfl (by kernel_rfl) (by kernel_rfl) (by kernel_rfl) rfl (fun _ _ _ h => h) (Or.inl ⟨by rfl, ?x42y⟩) hHeld ?x42r
          case x42y => (intro w hSw; (try dsimp only at hSw); go_simp; try with_reducible rfl)
          try simp only [Act.put, List.setIfInBounds_toArray, List.set_cons_zero, List.set_cons_succ]
          refine wpH_take (i := 10) (some 49) (v := ?x43v) rfl (by kernel_rfl) (by kernel_rfl) (by kernel_rfl) rfl (fun _ _ _ h => h) (Or.inl ⟨by rfl, ?x43y⟩) hHeld ?x43r
          case x43y => (intro w hSw; (try dsimp only at hSw); go_simp; try with_reducible rfl)
          try simp only [Act.put, List.setIfInBounds_toArray, List.set_cons_zero, List.set_cons_succ]
          refine wpH_take (i := 11) (some 50) (v := ?x44v) rfl (by kernel_rfl) (by kernel_rfl) (by kernel_rfl) rfl (fun _ _ _ h => h) (Or.inl ⟨by rfl, ?x44y⟩) hHeld ?x44r
          case x44y => (intro w hSw; (try dsimp only at hSw); go_simp; try with_reducible rfl)
          try simp only [Act.put, List.setIfInBounds_toArray, List.set_cons_zero, List.set_cons_succ]
          refine wpH_take (i := 12) (some 51) (v := undef) rfl (by kernel_rfl) (by kernel_rfl) (by kernel_rfl) rfl (fun _ _ _ h => h) (Or.inr ⟨by rfl, rfl⟩) hHeld ?x45r
          try simp only [Act.put, List.setIfInBounds_toArray, List.set_cons_zero, List.set_cons_succ]
          refine wpH_take (i := 13) (some 52) (v := undef) rfl (by kernel_rfl) (by kernel_rfl) (by kernel_rfl) rfl (fun _ _ _ h => h) (Or.inr ⟨by rfl, rfl⟩) hHeld ?x46r
          try simp only [Act.put, List.setIfInBounds_toArray, List.set_cons_zero, List.set_cons_succ]
          refine wpH_take (i := 14) (some 53) (v := undef) rfl (by kernel_rfl) (by kernel_rfl) (by kernel_rfl) rfl (fun _ _ _ h => h) (Or.inr ⟨by rfl, rfl⟩) hHeld ?x47r
          try simp only [Act.put, List.setIfInBounds_toArray, List.set_cons_zero, List.set_cons_succ]
          refine wpH_take (i := 15) (some 54) (v := undef) rfl (by kernel_rfl) (by kernel_rfl) (by kernel_rfl) rfl (fun _ _ _ h => h) (Or.inr ⟨by rfl, rfl⟩) hHeld ?x48r
          try simp only [Act.put, List.setIfInBounds_toArray, List.set_cons_zero, List.set_cons_succ]
          refine wpH_take (i := 16) (some 55) (v := undef) rfl (by kernel_rfl) (by kernel_rfl) (by kernel_rfl) rfl (fun _ _ _ h => h) (Or.inr ⟨by rfl, rfl⟩) hHeld ?x49r
          try simp only [Act.put, List.setIfInBounds_toArray, List.set_cons_zero, List.set_cons_succ]
          refine wpH_take (i := 17) (some 56) (v := undef) rfl (by kernel_rfl) (by kernel_rfl) (by kernel_rfl) rfl (fun _ _ _ h => h) (Or.inr ⟨by rfl, rfl⟩) hHeld ?x50r
          try simp only [Act.put, List.setIfInBounds_toArray, List.set_cons_zero, List.set_cons_succ]
          refine wpH_take (i := 18) (some 57) (v := undef) rfl (by kernel_rfl) (by kernel_rfl) (by kernel_rfl) rfl (fun _ _ _ h => h) (Or.inr ⟨by rfl, rfl⟩) hHeld ?x51r
          try simp only [Act.put, List.setIfInBounds_toArray, List.set_cons_zero, List.set_cons_succ]
          refine wpH_take (i := 19) (some 58) (v := undef) rfl (by kernel_rfl) (by kernel_rfl) (by kernel_rfl) rfl (fun _ _ _ h => h) (Or.inr ⟨by rfl, rfl⟩) hHeld ?x52r
          try simp only [Act.put, List.setIfInBounds_toArray, List.set_cons_zero, List.set_cons_succ]
          refine wpH_take (i := 20) (some 59) (v := undef) rfl (by kernel_rfl) (by kernel_rfl) (by kernel_rfl) rfl (fun _ _ _ h => h) (Or.inr ⟨by rfl, rfl⟩) hHeld ?x53r
          try simp only [Act.put, List.setIfInBounds_toArray, List.set_cons_zero, List.set_cons_succ]
          refine wpH_take (i := 21) (some 60) (v := undef) rfl (by kernel_rfl) (by kernel_rfl) (by kernel_rfl) rfl (fun _ _ _ h => h) (Or.inr ⟨by rfl, rfl⟩) hHeld ?x54r
          try simp only [Act.put, List.setIfInBounds_toArray, List.set_cons_zero, List.set_cons_succ]
          refine wpH_take (i := 22) (some 61) (v := undef) rfl (by kernel_rfl) (by kernel_rfl) (by kernel_rfl) rfl (fun _ _ _ h => h) (Or.inr ⟨by rfl, rfl⟩) hHeld ?x55r
          try simp only [Act.put, List.setIfInBounds_toArray, List.set_cons_zero, List.set_cons_succ]
          refine wpH_take (i := 23) (some 62) (v := undef) rfl (by kernel_rfl) (by kernel_rfl) (by kernel_rfl) rfl (fun _ _ _ h => h) (Or.inr ⟨by rfl, rfl⟩) hHeld ?x56r
          try simp only [Act.put, List.setIfInBounds_toArray, List.set_cons_zero, List.set_cons_succ]
          refine wpH_take (i := 24) (some 63) (v := undef) rfl (by kernel_rfl) (by kernel_rfl) (by kernel_rfl) rfl (fun _ _ _ h => h) (Or.inr ⟨by rfl, rfl⟩) hHeld ?x57r
          try simp only [Act.put, List.setIfInBounds_toArray, List.set_cons_zero, List.set_cons_succ]
          refine wpH_take (i := 25) (some 64) (v := undef) rfl (by kernel_rfl) (by kernel_rfl) (by kernel_rfl) rfl (fun _ _ _ h => h) (Or.inr ⟨by rfl, rfl⟩) hHeld ?x58r
          try simp only [Act.put, List.setIfInBounds_toArray, List.set_cons_zero, List.set_cons_succ]
          refine wpH_take (i := 26) (some 65) (v := undef) rfl (by kernel_rfl) (by kernel_rfl) (by kernel_rfl) rfl (fun _ _ _ h => h) (Or.inr ⟨by rfl, rfl⟩) hHeld ?x59r
          try simp only [Act.put, List.setIfInBounds_toArray, List.set_cons_zero, List.set_cons_succ]
          refine wpH_take (i := 27) (some 66) (v := undef) rfl (by kernel_rfl) (by kernel_rfl) (by kernel_rfl) rfl (fun _ _ _ h => h) (Or.inr ⟨by rfl, rfl⟩) hHeld ?x60r
          try simp only [Act.put, List.setIfInBounds_toArray, List.set_cons_zero, List.set_cons_succ]
          refine wpH_take (i := 28) (some 67) (v := ?x61v) rfl (by kernel_rfl) (by kernel_rfl) (by kernel_rfl) rfl (fun _ _ _ h => h) (Or.inl ⟨by rfl, ?x61y⟩) hHeld ?x61r
          case x61y => (intro w hSw; (try dsimp only at hSw); go_simp; try with_reducible rfl)
          try simp only [Act.put, List.setIfInBounds_toArray, List.set_cons_zero, List.set_cons_succ]
          refine wpH_take (i := 29) (some 68) (v := ?x62v) rfl (by kernel_rfl) (by kernel_rfl) (by kernel_rfl) rfl (fun _ _ _ h => h) (Or.inl ⟨by rfl, ?x62y⟩) hHeld ?x62r
          case x62y => (intro w hSw; (try dsimp only at hSw); go_simp; try with_reducible rfl)
          try simp only [Act.put, List.setIfInBounds_toArray, List.set_cons_zero, List.set_cons_succ]
          refine wpAnyH_done (by kernel_rfl) ?_ _
          rw [HKX.out] at e0
          have x0 : (0 : Int) ≤ (kx : Int) := Int.natCast_nonneg _
          have x1 : (kx : Int) < (m : Int) := by omega
          have cA : w3.cell? ⟨w1.heap.size, kx, none⟩ = some (.int .i64 (((us.take i).map Us.s).count (kx : Int) : Nat)) := OA3.out.cell (cntV_at hkm)
          have fA := OA3.out.frozen
          have hc0 : ((us.take i).map Us.s).count (kx : Int) ≤ 210 := by
            have h := List.count_le_length (a := (kx : Int)) (l := (us.take i).map Us.s)
            simp only [List.length_append, List.length_map, List.length_take] at h
            omega
          obtain ⟨cn, hcn⟩ : ∃ cn, ((us.take i).map Us.s).count (kx : Int) = cn := ⟨_, rfl⟩
          rw [hcn] at cA hc0
          have HCN := Lib.hid hcn
          have hc1 : (0 : Int) ≤ (cn : Int) := Int.natCast_nonneg _
          have hc2 : (cn : Int) ≤ 210 := by omega
          clear hcn hc0 hs0 hs1
          go_wp2_with fail
          go_roundw
          case rel =>
            have h9 := OA3.out.set kx (.int .i64 ((cn : Int) + 1))
            rw [← HCN.out, cntV_set hkm] at h9
            refine ⟨i + 1, d.s, by omega, by go_num, by rw [HT.out, HS.out, HV.out, decide_eq_true (show last < d.s by have h1 := HL0.out; have h2 := HKX.out; omega)]; simp, fun h => by omega, fun n h => ⟨d, by obtain rfl : n = i := (by omega); exact HD.out, rfl⟩, ?_, ?_, belowSet' BC.out _ _ _ (Nat.le_refl _)⟩
            · intro z hz
              rw [take_snocG HD.out, List.map_append] at hz
              rcases List.mem_append.1 hz with hz | hz
              · exact HRR.out z hz
              · simp only [List.map_cons, List.map_nil, List.mem_singleton] at hz
                rw [hz]; have := HKX.out; exact ⟨by omega, by omega⟩
            · rw [take_snocG HD.out, List.map_append, List.map_cons, List.map_nil, HKX.out]
              rw [HCN.out] at h9
              exact h9
          case measure => simp [intOf]; omega
        · obtain ⟨n, hn⟩ : ∃ n, i = n + 1 := ⟨i - 1, by omega⟩
          obtain ⟨pv, hpv, hl⟩ := HSS.out n hn
          obtain ⟨pv', b', off', hpv', e', _, _, dp, _, _, _⟩ := SU1.out.atU BE.out (i := n) (by omega)
          cases e'
          obtain rfl : pv = pv' := by rw [hpv] at hpv'; exact Option.some.inj hpv'
          have k3 : decide ((0 : Int) < (i : Int)) = true := decide_eq_true (by omega)
          have k4 : decide (0 < i) = true := decide_eq_true (by omega)
          have m0 : (0 : Int) ≤ (n : Int) := Int.natCast_nonneg _
          have m1 : (n : Int) < (us.length : Int) := by omega
          have HL := Lib.hid hl
          have wm : IntKind.i64.wrap ((i : Int) - 1) = (n : Int) := by rw [IntWalk.i64_in _ (by omega)]; omega
          clear hpv hpv' hl hn h0
          by_cases h5 : d.s ≤ pv.s
          · have k5 : decide (d.s ≤ pv.s) = true := decide_eq_true h5
            have H3 := Lib.hid (show decide (last < d.s) = false from decide_eq_false (by have := HL.out; omega))
            clear h5 hs0 hs1
            go_wp2_with fail
            refine region_H 30 #[false, false, false, false, false, false, false, false, false, false, false, false, false, false, false, false, false, false, false, false, false, false, false, false, false, false, false, false, false, false] (by kernel_rfl) (by kernel_rfl) (fun w' => w'.cell? ⟨w.heap.size, 0, none⟩ = some (.slice (some ⟨b, off, none⟩) us.length cu) ∧ w'.cell? ⟨w.heap.size + 1, 0, none⟩ = some (.int .i64 N) ∧ w'.cell? ⟨w.heap.size + 1, 1, none⟩ = some (.int .i64 (m : Int)) ∧ w'.cell? ⟨b, off + i * 4, none⟩ = some (.int .i64 d.s) ∧ w'.cell? ⟨b, off + i * 4 + 1, none⟩ = some (.int .i64 d.o) ∧ w'.cell? ⟨b, off + i * 4 + 2, none⟩ = some (.int .i64 d.p) ∧ w'.cell? ⟨b, off + i * 4 + 3, none⟩ = some (.int .i64 d.m) ∧ w'.cell? ⟨b, off + n * 4, none⟩ = some (.int .i64 pv.s)) (by kernel_rfl) ?x63s (fun hHeld => ?x63r)
            case x63s => exact ⟨t0, y0, y1, d0, d1, d2, d3, dp⟩
            refine wpH_take (i := 0) (some 39) (v := ?x64v) rfl (by kernel_rfl) (by kernel_rfl) (by kernel_rfl) rfl (fun _ _ _ h => h) (Or.inl ⟨by rfl, ?x64y⟩) hHeld ?x64r
            case x64y => (intro w hSw; (try dsimp only at hSw); go_simp; try with_reducible rfl)
            try simp only [Act.put, List.setIfInBounds_toArray, List.set_cons_zero, List.set_cons_succ]
            refine wpH_take (i := 1) (some 40) (v := ?x65v) rfl (by kernel_rfl) (by kernel_rfl) (by kernel_rfl) rfl (fun _ _ _ h => h) (Or.inl ⟨by rfl, ?x65y⟩) hHeld ?x65r
            case x65y => (intro w hSw; (try dsimp only at hSw); go_simp; try with_reducible rfl)
            try simp only [Act.put, List.setIfInBounds_toArray, List.set_cons_zero, List.set_cons_succ]
            refine wpH_take (i := 2) (some 41) (v := ?x66v) rfl (by kernel_rfl) (by kernel_rfl) (by kernel_rfl) rfl (fun _ _ _ h => h) (Or.inl ⟨by rfl, ?x66y⟩) hHeld ?x66r
            case x66y => (intro w hSw; (try dsimp only at hSw); go_simp; try with_reducible rfl)
            try simp only [Act.put, List.setIfInBounds_toArray, List.set_cons_zero, List.set_cons_succ]
            refine wpH_take (i := 3) (some 42) (v := ?x67v) rfl (by kernel_rfl) (by kernel_rfl) (by kernel_rfl) rfl (fun _ _ _ h => h) (Or.inl ⟨by rfl, ?x67y⟩) hHeld ?x67r
            case x67y => (intro w hSw; (try dsimp only at hSw); go_simp; try with_reducible rfl)
            try simp only [Act.put, List.setIfInBounds_toArray, List.set_cons_zero, List.set_cons_succ]
            refine wpH_take (i := 4) (some 43) (v := ?x68v) rfl (by kernel_rfl) (by kernel_rfl) (by kernel_rfl) rfl (fun _ _ _ h => h) (Or.inl ⟨by rfl, ?x68y⟩) hHeld ?x68r
            case x68y => (intro w hSw; (try dsimp only at hSw); go_simp; try with_reducible rfl)
            try simp only [Act.put, List.setIfInBounds_toArray, List.set_cons_zero, List.set_cons_succ]
            refine wpH_take (i := 5) (some 44) (v := ?x69v) rfl (by kernel_rfl) (by kernel_rfl) (by kernel_rfl) rfl (fun _ _ _ h => h) (Or.inl ⟨by rfl, ?x69y⟩) hHeld ?x69r
            case x69y => (intro w hSw; (try dsimp only at hSw); go_simp; try with_reducible rfl)
            try simp only [Act.put, List.setIfInBounds_toArray, List.set_cons_zero, List.set_cons_succ]
            refine wpH_one (i := 6) (by kernel_rfl) rfl (fun K hK => ?_)
            rw [if_pos (by rfl)]
            go_simp
            refine (ruval_lit d N (m : Int) true _ HV.out).mono ?_
            rintro e w3 ⟨rfl, hb⟩
            have BC := Lib.hid (BE.out.drew.trans (hb.mono BE.out.size))
            have OA3 := Lib.hid (OA.out.drew.below hb)
            have oT3 := Lib.hid (oTr.out.drew.below hb)
            have oL3 := Lib.hid (oLr.out.drew.below hb)
            obtain ⟨u0, u1, u2, fT3, zT3⟩ := own3 oT3.out
            obtain ⟨v0, v1, fL3, zL3⟩ := own2 oL3.out
            have e0 : w3.cell? ⟨b, off + i * 4, none⟩ = some (.int .i64 d.s) := (hb.cell (p := ⟨b, off + i * 4, none⟩) hbl).trans d0
            have e1 : w3.cell? ⟨b, off + i * 4 + 1, none⟩ = some (.int .i64 d.o) := (hb.cell (p := ⟨b, off + i * 4 + 1, none⟩) hbl).trans d1
            have e2 : w3.cell? ⟨b, off + i * 4 + 2, none⟩ = some (.int .i64 d.p) := (hb.cell (p := ⟨b, off + i * 4 + 2, none⟩) hbl).trans d2
            have e3 : w3.cell? ⟨b, off + i * 4 + 3, none⟩ = some (.int .i64 d.m) := (hb.cell (p := ⟨b, off + i * 4 + 3, none⟩) hbl).trans d3
            have ep : w3.cell? ⟨b, off + n * 4, none⟩ = some (.int .i64 pv.s) := (hb.cell (p := ⟨b, off + n * 4, none⟩) hbl).trans dp
            clear hb
            refine hK.out _ _ (⟨u0, v0, v1, e0, e1, e2, e3, ep⟩) ?_
            clear hK K hHeld
            intro hHeld
            try simp only [Act.put, List.setIfInBounds_toArray, List.set_cons_zero, List.set_cons_succ]
            refine wpH_take (i := 7) (some 46) (v := ?x71v) rfl (by kernel_rfl) (by kernel_rfl) (by kernel_rfl) rfl (fun _ _ _ h => h) (Or.inl ⟨by rfl, ?x71y⟩) hHeld ?x71r
            case x71y => (intro w hSw; (try dsimp only at hSw); go_simp; try with_reducible rfl)
            try simp only [Act.put, List.setIfInBounds_toArray, List.set_cons_zero, List.set_cons_succ]
            refine wpH_take (i := 8) (some 47) (v := ?x72v) rfl (by kernel_rfl) (by kernel_rfl) (by kernel_rfl) rfl (fun _ _ _ h => h) (Or.inl ⟨by rfl, ?x72y⟩) hHeld ?x72r
            case x72y => (intro w hSw; (try dsimp only at hSw); go_simp; try with_reducible rfl)
            try simp only [Act.put, List.setIfInBounds_toArray, List.set_cons_zero, List.set_cons_succ]
            refine wpH_take (i := 9) (some 48) (v := ?x73v) rfl (by kernel_rfl) (by kernel_rfl) (by kernel_rfl) rfl (fun _ _ _ h => h) (Or.inl ⟨by rfl, ?x73y⟩) hHeld ?x73r
            case x73y => (intro w hSw; (try dsimp only at hSw); go_simp; try with_reducible rfl)
            try simp only [Act.put, List.setIfInBounds_toArray, List.set_cons_zero, List.set_cons_succ]
            refine wpH_take (i := 10) (some 49) (v := ?x74v) rfl (by kernel_rfl) (by kernel_rfl) (by kernel_rfl) rfl (fun _ _ _ h => h) (Or.inl ⟨by rfl, ?x74y⟩) hHeld ?x74r
            case x74y => (intro w hSw; (try dsimp only at hSw); go_simp; try with_reducible rfl)
            try simp only [Act.put, List.setIfInBounds_toArray, List.set_cons_zero, List.set_cons_succ]
            refine wpH_take (i := 11) (some 50) (v := ?x75v) rfl (by kernel_rfl) (by kernel_rfl) (by kernel_rfl) rfl (fun _ _ _ h => h) (Or.inl ⟨by rfl, ?x75y⟩) hHeld ?x75r
            case x75y => (intro w hSw; (try dsimp only at hSw); go_simp; try with_reducible rfl)
            try simp only [Act.put, List.setIfInBounds_toArray, List.set_cons_zero, List.set_cons_succ]
            refine wpH_take (i := 12) (some 51) (v := ?x76v) rfl (by kernel_rfl) (by kernel_rfl) (by kernel_rfl) rfl (fun _ _ _ h => h) (Or.inl ⟨by rfl, ?x76y⟩) hHeld ?x76r
            case x76y => (intro w hSw; (try dsimp only at hSw); go_simp; try with_reducible rfl)
            try simp only [Act.put, List.setIfInBounds_toArray, List.set_cons_zero, List.set_cons_succ]
            refine wpH_take (i := 13) (some 52) (v := ?x77v) rfl (by kernel_rfl) (by kernel_rfl) (by kernel_rfl) rfl (fun _ _ _ h => h) (Or.inl ⟨by rfl, ?x77y⟩) hHeld ?x77r
            case x77y => (intro w hSw; (try dsimp only at hSw); go_simp; try with_reducible rfl)
            try simp only [Act.put, List.setIfInBounds_toArray, List.set_cons_zero, List.set_cons_succ]
            refine wpH_take (i := 14) (some 53) (v := ?x78v) rfl (by kernel_rfl) (by kernel_rfl) (by kernel_rfl) rfl (fun _ _ _ h => h) (Or.inl ⟨by rfl, ?x78y⟩) hHeld ?x78r
            case x78y => (intro w hSw; (try dsimp only at hSw); go_simp; try with_reducible rfl)
            try simp only [Act.put, List.setIfInBounds_toArray, List.set_cons_zero, List.set_cons_succ]
            refine wpH_take (i := 15) (some 54) (v := ?x79v) rfl (by kernel_rfl) (by kernel_rfl) (by kernel_rfl) rfl (fun _ _ _ h => h) (Or.inl ⟨by rfl, ?x79y⟩) hHeld ?x79r
            case x79y => (intro w hSw; (try dsimp only at hSw); go_simp; try with_reducible rfl)
            try simp only [Act.put, List.setIfInBounds_toArray, List.set_cons_zero, List.set_cons_succ]
            refine wpH_take (i := 16) (some 55) (v := ?x80v) rfl (by kernel_rfl) (by kernel_rfl) (by kernel_rfl) rfl (fun _ _ _ h => h) (Or.inl ⟨by rfl, ?x80y⟩) hHeld ?x80r
            case x80y => (intro w hSw; (try dsimp only at hSw); go_simp; try with_reducible rfl)
            try simp only [Act.put, List.setIfInBounds_toArray, List.set_cons_zero, List.set_cons_succ]
            refine wpH_take (i := 17) (some 56) (v := ?x81v) rfl (by kernel_rfl) (by kernel_rfl) (by kernel_rfl) rfl (fun _ _ _ h => h) (Or.inl ⟨by rfl, ?x81y⟩) hHeld ?x81r
            case x81y => (intro w hSw; (try dsimp only at hSw); go_simp; try with_reducible rfl)
            try simp only [Act.put, List.setIfInBounds_toArray, List.set_cons_zero, List.set_cons_succ]
            refine wpH_take (i := 18) (some 57) (v := ?x82v) rfl (by kernel_rfl) (by kernel_rfl) (by kernel_rfl) rfl (fun _ _ _ h => h) (Or.inl ⟨by rfl, ?x82y⟩) hHeld ?x82r
            case x82y => (intro w hSw; (try dsimp only at hSw); go_simp; try with_reducible rfl)
            try simp only [Act.put, List.setIfInBounds_toArray, List.set_cons_zero, List.set_cons_succ]
            refine wpH_take (i := 19) (some 58) (v := ?x83v) rfl (by kernel_rfl) (by kernel_rfl) (by kernel_rfl) rfl (fun _ _ _ h => h) (Or.inl ⟨by rfl, ?x83y⟩) hHeld ?x83r
            case x83y => (intro w hSw; (try dsimp only at hSw); go_simp; try with_reducible rfl)
            try simp only [Act.put, List.setIfInBounds_toArray, List.set_cons_zero, List.set_cons_succ]
            refine wpH_take (i := 20) (some 59) (v := ?x84v) rfl (by kernel_rfl) (by kernel_rfl) (by kernel_rfl) rfl (fun _ _ _ h => h) (Or.inl ⟨by rfl, ?x84y⟩) hHeld ?x84r
            case x84y => (intro w hSw; (try dsimp only at hSw); go_simp; try with_reducible rfl)
            try simp only [Act.put, List.setIfInBounds_toArray, List.set_cons_zero, List.set_cons_succ]
            refine wpH_take (i := 21) (some 60) (v := ?x85v) rfl (by kernel_rfl) (by kernel_rfl) (by kernel_rfl) rfl (fun _ _ _ h => h) (Or.inl ⟨by rfl, ?x85y⟩) hHeld ?x85r
            case x85y => (intro w hSw; (try dsimp only at hSw); go_simp; try with_reducible rfl)
            try simp only [Act.put, List.setIfInBounds_toArray, List.set_cons_zero, List.set_cons_succ]
            refine wpH_take (i := 22) (some 61) (v := ?x86v) rfl (by kernel_rfl) (by kernel_rfl) (by kernel_rfl) rfl (fun _ _ _ h => h) (Or.inl ⟨by rfl, ?x86y⟩) hHeld ?x86r
            case x86y => (intro w hSw; (try dsimp only at hSw); go_simp; try with_reducible rfl)
            try simp only [Act.put, List.setIfInBounds_toArray, List.set_cons_zero, List.set_cons_succ]
            refine wpH_take (i := 23) (some 62) (v := ?x87v) rfl (by kernel_rfl) (by kernel_rfl) (by kernel_rfl) rfl (fun _ _ _ h => h) (Or.inl ⟨by rfl, ?x87y⟩) hHeld ?x87r
            case x87y => (intro w hSw; (try dsimp only at hSw); go_simp; try with_reducible rfl)
            try simp only [Act.put, List.setIfInBounds_toArray, List.set_cons_zero, List.set_cons_succ]
            refine wpH_take (i := 24) (some 63) (v := ?x88v) rfl (by kernel_rfl) (by kernel_rfl) (by kernel_rfl) rfl (fun _ _ _ h => h) (Or.inl ⟨by rfl, ?x88y⟩) hHeld ?x88r
            case x88y => (intro w hSw; (try dsimp only at hSw); go_simp; try with_reducible rfl)
            try simp only [Act.put, List.setIfInBounds_toArray, List.set_cons_zero, List.set_cons_succ]
            refine wpH_take (i := 25) (some 64) (v := ?x89v) rfl (by kernel_rfl) (by kernel_rfl) (by kernel_rfl) rfl (fun _ _ _ h => h) (Or.inl ⟨by rfl, ?x89y⟩) hHeld ?x89r
            case x89y => (intro w hSw; (try dsimp only at hSw); go_simp; try with_reducible rfl)
            try simp only [Act.put, List.setIfInBounds_toArray, List.set_cons_zero, List.set_cons_succ]
            refine wpH_take (i := 26) (some 65) (v := ?x90v) rfl (by kernel_rfl) (by kernel_rfl) (by kernel_rfl) rfl (fun _ _ _ h => h) (Or.inl ⟨by rfl, ?x90y⟩) hHeld ?x90r
            case x90y => (intro w hSw; (try dsimp only at hSw); go_simp; try with_reducible rfl)
            try simp only [Act.put, List.setIfInBounds_toArray, List.set_cons_zero, List.set_cons_succ]
            refine wpH_take (i := 27) (some 66) (v := ?x91v) rfl (by kernel_rfl) (by kernel_rfl) (by kernel_rfl) rfl (fun _ _ _ h => h) (Or.inl ⟨by rfl, ?x91y⟩) hHeld ?x91r
            case x91y => (intro w hSw; (try dsimp only at hSw); go_simp; try with_reducible rfl)
            try simp only [Act.put, List.setIfInBounds_toArray, List.set_cons_zero, List.set_cons_succ]
            refine wpH_take (i := 28) (some 67) (v := ?x92v) rfl (by kernel_rfl) (by kernel_rfl) (by kernel_rfl) rfl (fun _ _ _ h => h) (Or.inl ⟨by rfl, ?x92y⟩) hHeld ?x92r
            case x92y => (intro w hSw; (try dsimp only at hSw); go_simp; try with_reducible rfl)
            try simp only [Act.put, List.setIfInBounds_toArray, List.set_cons_zero, List.set_cons_succ]
            refine wpH_take (i := 29) (some 68) (v := ?x93v) rfl (by kernel_rfl) (by kernel_rfl) (by kernel_rfl) rfl (fun _ _ _ h => h) (Or.inl ⟨by rfl, ?x93y⟩) hHeld ?x93r
            case x93y => (intro w hSw; (try dsimp only at hSw); go_simp; try with_reducible rfl)
            try simp only [Act.put, List.setIfInBounds_toArray, List.set_cons_zero, List.set_cons_succ]
            refine wpAnyH_done (by kernel_rfl) ?_ _
            go_wp2_with fail
            go_ret
            exact ⟨ret_bool (by rw [HRES.out, HT.out, HS.out, H3.out]; simp), BB1.out.trans (BC.out.mono BB1.out.size)⟩
          · have k5 : decide (d.s ≤ pv.s) = false := decide_eq_false h5
            have H3 := Lib.hid (show last < d.s by have := HL.out; omega)
            clear h5
            go_wp2_with fail
            refine region_H 30 #[false, false, false, false, false, false, false, false, false, false, false, false, false, false, false, false, false, false, false, false, false, false, false, false, false, false, false, false, false, false] (by kernel_rfl) (by kernel_rfl) (fun w' => w'.cell? ⟨w.heap.size, 0, none⟩ = some (.slice (some ⟨b, off, none⟩) us.length cu) ∧ w'.cell? ⟨w.heap.size + 1, 0, none⟩ = some (.int .i64 N) ∧ w'.cell? ⟨w.heap.size + 1, 1, none⟩ = some (.int .i64 (m : Int)) ∧ w'.cell? ⟨b, off + i * 4, none⟩ = some (.int .i64 d.s) ∧ w'.cell? ⟨b, off + i * 4 + 1, none⟩ = some (.int .i64 d.o) ∧ w'.cell? ⟨b, off + i * 4 + 2, none⟩ = some (.int .i64 d.p) ∧ w'.cell? ⟨b, off + i * 4 + 3, none⟩ = some (.int .i64 d.m) ∧ w'.cell? ⟨b, off + n * 4, none⟩ = some (.int .i64 pv.s)) (by kernel_rfl) ?x94s (fun hHeld => ?x94r)
            case x94s => exact ⟨t0, y0, y1, d0, d1, d2, d3, dp⟩
            refine wpH_take (i := 0) (some 39) (v := ?x95v) rfl (by kernel_rfl) (by kernel_rfl) (by kernel_rfl) rfl (fun _ _ _ h => h) (Or.inl ⟨by rfl, ?x95y⟩) hHeld ?x95r
            case x95y => (intro w hSw; (try dsimp only at hSw); go_simp; try with_reducible rfl)
            try simp only [Act.put, List.setIfInBounds_toArray, List.set_cons_zero, List.set_cons_succ]
            refine wpH_take (i := 1) (some 40) (v := ?x96v) rfl (by kernel_rfl) (by kernel_rfl) (by kernel_rfl) rfl (fun _ _ _ h => h) (Or.inl ⟨by rfl, ?x96y⟩) hHeld ?x96r
            case x96y => (intro w hSw; (try dsimp only at hSw); go_simp; try with_reducible rfl)
            try simp only [Act.put, List.setIfInBounds_toArray, List.set_cons_zero, List.set_cons_succ]
            refine wpH_take (i := 2) (some 41) (v := ?x97v) rfl (by kernel_rfl) (by kernel_rfl) (by kernel_rfl) rfl (fun _ _ _ h => h) (Or.inl ⟨by rfl, ?x97y⟩) hHeld ?x97r
            case x97y => (intro w hSw; (try dsimp only at hSw); go_simp; try with_reducible rfl)
            try simp only [Act.put, List.setIfInBounds_toArray, List.set_cons_zero, List.set_cons_succ]
            refine wpH_take (i := 3) (some 42) (v := ?x98v) rfl (by kernel_rfl) (by kernel_rfl) (by kernel_rfl) rfl (fun _ _ _ h => h) (Or.inl ⟨by rfl, ?x98y⟩) hHeld ?x98r
            case x98y => (intro w hSw; (try dsimp only at hSw); go_simp; try with_reducible rfl)
            try simp only [Act.put, List.setIfInBounds_toArray, List.set_cons_zero, List.set_cons_succ]
            refine wpH_take (i := 4) (some 43) (v := ?x99v) rfl (by kernel_rfl) (by kernel_rfl) (by kernel_rfl) rfl (fun _ _ _ h => h) (Or.inl ⟨by rfl, ?x99y⟩) hHeld ?x99r
            case x99y => (intro w hSw; (try dsimp only at hSw); go_simp; try with_reducible rfl)
            try simp only [Act.put, List.setIfInBounds_toArray, List.set_cons_zero, List.set_cons_succ]
            refine wpH_take (i := 5) (some 44) (v := ?x100v) rfl (by kernel_rfl) (by kernel_rfl) (by kernel_rfl) rfl (fun _ _ _ h => h) (Or.inl ⟨by rfl, ?x100y⟩) hHeld ?x100r
            case x100y => (intro w hSw; (try dsimp only at hSw); go_simp; try with_reducible rfl)
            try simp only [Act.put, List.setIfInBounds_toArray, List.set_cons_zero, List.set_cons_succ]
            refine wpH_one (i := 6) (by kernel_rfl) rfl (fun K hK => ?_)
            rw [if_pos (by rfl)]
            go_simp
            refine (ruval_lit d N (m : Int) true _ HV.out).mono ?_
            rintro e w3 ⟨rfl, hb⟩
            have BC := Lib.hid (BE.out.drew.trans (hb.mono BE.out.size))
            have OA3 := Lib.hid (OA.out.drew.below hb)
            have oT3 := Lib.hid (oTr.out.drew.below hb)
            have oL3 := Lib.hid (oLr.out.drew.below hb)
            obtain ⟨u0, u1, u2, fT3, zT3⟩ := own3 oT3.out
            obtain ⟨v0, v1, fL3, zL3⟩ := own2 oL3.out
            have e0 : w3.cell? ⟨b, off + i * 4, none⟩ = some (.int .i64 d.s) := (hb.cell (p := ⟨b, off + i * 4, none⟩) hbl).trans d0
            have e1 : w3.cell? ⟨b, off + i * 4 + 1, none⟩ = some (.int .i64 d.o) := (hb.cell (p := ⟨b, off + i * 4 + 1, none⟩) hbl).trans d1
            have e2 : w3.cell? ⟨b, off + i * 4 + 2, none⟩ = some (.int .i64 d.p) := (hb.cell (p := ⟨b, off + i * 4 + 2, none⟩) hbl).trans d2
            have e3 : w3.cell? ⟨b, off + i * 4 + 3, none⟩ = some (.int .i64 d.m) := (hb.cell (p := ⟨b, off + i * 4 + 3, none⟩) hbl).trans d3
            have ep : w3.cell? ⟨b, off + n * 4, none⟩ = some (.int .i64 pv.s) := (hb.cell (p := ⟨b, off + n * 4, none⟩) hbl).trans dp
            clear hb
            refine hK.out _ _ (⟨u0, v0, v1, e0, e1, e2, e3, ep⟩) ?_
            clear hK K hHeld
            intro hHeld
            try simp only [Act.put, List.setIfInBounds_toArray, List.set_cons_zero, List.set_cons_succ]
            refine wpH_take (i := 7) (some 46) (v := ?x102v) rfl (by kernel_rfl) (by kernel_rfl) (by kernel_rfl) rfl (fun _ _ _ h => h) (Or.inl ⟨by rfl, ?x102y⟩) hHeld ?x102r
            case x102y => (intro w hSw; (try dsimp only at hSw); go_simp; try with_reducible rfl)
            try simp only [Act.put, List.setIfInBounds_toArray, List.set_cons_zero, List.set_cons_succ]
            refine wpH_take (i := 8) (some 47) (v := ?x103v) rfl (by kernel_rfl) (by kernel_rfl) (by kernel_rfl) rfl (fun _ _ _ h => h) (Or.inl ⟨by rfl, ?x103y⟩) hHeld ?x103r
            case x103y => (intro w hSw; (try dsimp only at hSw); go_simp; try with_reducible rfl)
            try simp only [Act.put, List.setIfInBounds_toArray, List.set_cons_zero, List.set_cons_succ]
            refine wpH_take (i := 9) (some 48) (v := ?x104v) rfl (by kernel_rfl) (by kernel_rfl) (by kernel_rfl) rfl (fun _ _ _ h => h) (Or.inl ⟨by rfl, ?x104y⟩) hHeld ?x104r
            case x104y => (intro w hSw; (try dsimp only at hSw); go_simp; try with_reducible rfl)
            try simp only [Act.put, List.setIfInBounds_toArray, List.set_cons_zero, List.set_cons_succ]
            refine wpH_take (i := 10) (some 49) (v := ?x105v) rfl (by kernel_rfl) (by kernel_rfl) (by kernel_rfl) rfl (fun _ _ _ h => h) (Or.inl ⟨by rfl, ?x105y⟩) hHeld ?x105r
            case x105y => (intro w hSw; (try dsimp only at hSw); go_simp; try with_reducible rfl)
            try simp only [Act.put, List.setIfInBounds_toArray, List.set_cons_zero, List.set_cons_succ]
            refine wpH_take (i := 11) (some 50) (v := ?x106v) rfl (by kernel_rfl) (by kernel_rfl) (by kernel_rfl) rfl (fun _ _ _ h => h) (Or.inl ⟨by rfl, ?x106y⟩) hHeld ?x106r
            case x106y => (intro w hSw; (try dsimp only at hSw); go_simp; try with_reducible rfl)
            try simp only [Act.put, List.setIfInBounds_toArray, List.set_cons_zero, List.set_cons_succ]
            refine wpH_take (i := 12) (some 51) (v := ?x107v) rfl (by kernel_rfl) (by kernel_rfl) (by kernel_rfl) rfl (fun _ _ _ h => h) (Or.inl ⟨by rfl, ?x107y⟩) hHeld ?x107r
            case x107y => (intro w hSw; (try dsimp only at hSw); go_simp; try with_reducible rfl)
            try simp only [Act.put, List.setIfInBounds_toArray, List.set_cons_zero, List.set_cons_succ]
            refine wpH_take (i := 13) (some 52) (v := ?x108v) rfl (by kernel_rfl) (by kernel_rfl) (by kernel_rfl) rfl (fun _ _ _ h => h) (Or.inl ⟨by rfl, ?x108y⟩) hHeld ?x108r
            case x108y => (intro w hSw; (try dsimp only at hSw); go_simp; try with_reducible rfl)
            try simp only [Act.put, List.setIfInBounds_toArray, List.set_cons_zero, List.set_cons_succ]
            refine wpH_take (i := 14) (some 53) (v := ?x109v) rfl (by kernel_rfl) (by kernel_rfl) (by kernel_rfl) rfl (fun _ _ _ h => h) (Or.inl ⟨by rfl, ?x109y⟩) hHeld ?x109r
            case x109y => (intro w hSw; (try dsimp only at hSw); go_simp; try with_reducible rfl)
            try simp only [Act.put, List.setIfInBounds_toArray, List.set_cons_zero, List.set_cons_succ]
            refine wpH_take (i := 15) (some 54) (v := ?x110v) rfl (by kernel_rfl) (by kernel_rfl) (by kernel_rfl) rfl (fun _ _ _ h => h) (Or.inl ⟨by rfl, ?x110y⟩) hHeld ?x110r
            case x110y => (intro w hSw; (try dsimp only at hSw); go_simp; try with_reducible rfl)
            try simp only [Act.put, List.setIfInBounds_toArray, List.set_cons_zero, List.set_cons_succ]
            refine wpH_take (i := 16) (some 55) (v := ?x111v) rfl (by kernel_rfl) (by kernel_rfl) (by kernel_rfl) rfl (fun _ _ _ h => h) (Or.inl ⟨by rfl, ?x111y⟩) hHeld ?x111r
            case x111y => (intro w hSw; (try dsimp only at hSw); go_simp; try with_reducible rfl)
            try simp only [Act.put, List.setIfInBounds_toArray, List.set_cons_zero, List.set_cons_succ]
            refine wpH_take (i := 17) (some 56) (v := ?x112v) rfl (by kernel_rfl) (by kernel_rfl) (by kernel_rfl) rfl (fun _ _ _ h => h) (Or.inl ⟨by rfl, ?x112y⟩) hHeld ?x112r
            case x112y => (intro w hSw; (try dsimp only at hSw); go_simp; try with_reducible rfl)
            try simp only [Act.put, List.setIfInBounds_toArray, List.set_cons_zero, List.set_cons_succ]
            refine wpH_take (i := 18) (some 57) (v := ?x113v) rfl (by kernel_rfl) (by kernel_rfl) (by kernel_rfl) rfl (fun _ _ _ h => h) (Or.inl ⟨by rfl, ?x113y⟩) hHeld ?x113r
            case x113y => (intro w hSw; (try dsimp only at hSw); go_simp; try with_reducible rfl)
            try simp only [Act.put, List.setIfInBounds_toArray, List.set_cons_zero, List.set_cons_succ]
            refine wpH_take (i := 19) (some 58) (v := ?x114v) rfl (by kernel_rfl) (by kernel_rfl) (by kernel_rfl) rfl (fun _ _ _ h => h) (Or.inl ⟨by rfl, ?x114y⟩) hHeld ?x114r
            case x114y => (intro w hSw; (try dsimp only at hSw); go_simp; try with_reducible rfl)
            try simp only [Act.put, List.setIfInBounds_toArray, List.set_cons_zero, List.set_cons_succ]
            refine wpH_take (i := 20) (some 59) (v := ?x115v) rfl (by kernel_rfl) (by kernel_rfl) (by kernel_rfl) rfl (fun _ _ _ h => h) (Or.inl ⟨by rfl, ?x115y⟩) hHeld ?x115r
            case x115y => (intro w hSw; (try dsimp only at hSw); go_simp; try with_reducible rfl)
            try simp only [Act.put, List.setIfInBounds_toArray, List.set_cons_zero, List.set_cons_succ]
            refine wpH_take (i := 21) (some 60) (v := ?x116v) rfl (by kernel_rfl) (by kernel_rfl) (by kernel_rfl) rfl (fun _ _ _ h => h) (Or.inl ⟨by rfl, ?x116y⟩) hHeld ?x116r
            case x116y => (intro w hSw; (try dsimp only at hSw); go_simp; try with_reducible rfl)
            try simp only [Act.put, List.setIfInBounds_toArray, List.set_cons_zero, List.set_cons_succ]
            refine wpH_take (i := 22) (some 61) (v := ?x117v) rfl (by kernel_rfl) (by kernel_rfl) (by kernel_rfl) rfl (fun _ _ _ h => h) (Or.inl ⟨by rfl, ?x117y⟩) hHeld ?x117r
            case x117y => (intro w hSw; (try dsimp only at hSw); go_simp; try with_reducible rfl)
            try simp only [Act.put, List.setIfInBounds_toArray, List.set_cons_zero, List.set_cons_succ]
            refine wpH_take (i := 23) (some 62) (v := ?x118v) rfl (by kernel_rfl) (by kernel_rfl) (by kernel_rfl) rfl (fun _ _ _ h => h) (Or.inl ⟨by rfl, ?x118y⟩) hHeld ?x118r
            case x118y => (intro w hSw; (try dsimp only at hSw); go_simp; try with_reducible rfl)
            try simp only [Act.put, List.setIfInBounds_toArray, List.set_cons_zero, List.set_cons_succ]
            refine wpH_take (i := 24) (some 63) (v := ?x119v) rfl (by kernel_rfl) (by kernel_rfl) (by kernel_rfl) rfl (fun _ _ _ h => h) (Or.inl ⟨by rfl, ?x119y⟩) hHeld ?x119r
            case x119y => (intro w hSw; (try dsimp only at hSw); go_simp; try with_reducible rfl)
            try simp only [Act.put, List.setIfInBounds_toArray, List.set_cons_zero, List.set_cons_succ]
            refine wpH_take (i := 25) (some 64) (v := ?x120v) rfl (by kernel_rfl) (by kernel_rfl) (by kernel_rfl) rfl (fun _ _ _ h => h) (Or.inl ⟨by rfl, ?x120y⟩) hHeld ?x120r
            case x120y => (intro w hSw; (try dsimp only at hSw); go_simp; try with_reducible rfl)
            try simp only [Act.put, List.setIfInBounds_toArray, List.set_cons_zero, List.set_cons_succ]
            refine wpH_take (i := 26) (some 65) (v := ?x121v) rfl (by kernel_rfl) (by kernel_rfl) (by kernel_rfl) rfl (fun _ _ _ h => h) (Or.inl ⟨by rfl, ?x121y⟩) hHeld ?x121r
            case x121y => (intro w hSw; (try dsimp only at hSw); go_simp; try with_reducible rfl)
            try simp only [Act.put, List.setIfInBounds_toArray, List.set_cons_zero, List.set_cons_succ]
            refine wpH_take (i := 27) (some 66) (v := ?x122v) rfl (by kernel_rfl) (by kernel_rfl) (by kernel_rfl) rfl (fun _ _ _ h => h) (Or.inl ⟨by rfl, ?x122y⟩) hHeld ?x122r
            case x122y => (intro w hSw; (try dsimp only at hSw); go_simp; try with_reducible rfl)
            try simp only [Act.put, List.setIfInBounds_toArray, List.set_cons_zero, List.set_cons_succ]
            refine wpH_take (i := 28) (some 67) (v := ?x123v) rfl (by kernel_rfl) (by kernel_rfl) (by kernel_rfl) rfl (fun _ _ _ h => h) (Or.inl ⟨by rfl, ?x123y⟩) hHeld ?x123r
            case x123y => (intro w hSw; (try dsimp only at hSw); go_simp; try with_reducible rfl)
            try simp only [Act.put, List.setIfInBounds_toArray, List.set_cons_zero, List.set_cons_succ]
            refine wpH_take (i := 29) (some 68) (v := ?x124v) rfl (by kernel_rfl) (by kernel_rfl) (by kernel_rfl) rfl (fun _ _ _ h => h) (Or.inl ⟨by rfl, ?x124y⟩) hHeld ?x124r
            case x124y => (intro w hSw; (try dsimp only at hSw); go_simp; try with_reducible rfl)
            try simp only [Act.put, List.setIfInBounds_toArray, List.set_cons_zero, List.set_cons_succ]
            refine wpAnyH_done (by kernel_rfl) ?_ _
            clear wm k3 k4 k5 ep dp m0 m1
            rw [HKX.out] at e0
            have x0 : (0 : Int) ≤ (kx : Int) := Int.natCast_nonneg _
            have x1 : (kx : Int) < (m : Int) := by omega
            have cA : w3.cell? ⟨w1.heap.size, kx, none⟩ = some (.int .i64 (((us.take i).map Us.s).count (kx : Int) : Nat)) := OA3.out.cell (cntV_at hkm)
            have fA := OA3.out.frozen
            have hc0 : ((us.take i).map Us.s).count (kx : Int) ≤ 210 := by
              have h := List.count_le_length (a := (kx : Int)) (l := (us.take i).map Us.s)
              simp only [List.length_append, List.length_map, List.length_take] at h
              omega
            obtain ⟨cn, hcn⟩ : ∃ cn, ((us.take i).map Us.s).count (kx : Int) = cn := ⟨_, rfl⟩
            rw [hcn] at cA hc0
            have HCN := Lib.hid hcn
            have hc1 : (0 : Int) ≤ (cn : Int) := Int.natCast_nonneg _
            have hc2 : (cn : Int) ≤ 210 := by omega
            clear hcn hc0 hs0 hs1
            go_wp2_with fail
            go_roundw
            case rel =>
              have h9 := OA3.out.set kx (.int .i64 ((cn : Int) + 1))
              rw [← HCN.out, cntV_set hkm] at h9
              refine ⟨i + 1, d.s, by omega, by go_num, by rw [HT.out, HS.out, HV.out, decide_eq_true (show last < d.s by exact H3.out)]; simp, fun h => by omega, fun n h => ⟨d, by obtain rfl : n = i := (by omega); exact HD.out, rfl⟩, ?_, ?_, belowSet' BC.out _ _ _ (Nat.le_refl _)⟩
              · intro z hz
                rw [take_snocG HD.out, List.map_append] at hz
                rcases List.mem_append.1 hz with hz | hz
                · exact HRR.out z hz
                · simp only [List.map_cons, List.map_nil, List.mem_singleton] at hz
                  rw [hz]; have := HKX.out; exact ⟨by omega, by omega⟩
              · rw [take_snocG HD.out, List.map_append, List.map_cons, List.map_nil, HKX.out]
                rw [HCN.out] at h9
                exact h9
            case measure => simp [intOf]; omega
    · obtain rfl : i = us.length := by omega
      have HsndU := Lib.hid (show sndU N (m : Int) us = true by rw [HT.out]; exact sndF_end (Nat.le_refl _))
      have HRU := HRR
      rw [List.take_length] at HRU OA
      rw [HsndU.out, Bool.true_and] at HRES
      clear t0 t1 t2 fT zT y0 y1 fL zL oTr oLr
      have oTr := Lib.hid (OT1.out.below BE.out)
      obtain ⟨t0, t1, t2, fT, zT⟩ := own3 oTr.out
      go_wp2_with fail
      go_loopw [7] (fun ii wr => ∃ (i : Nat) (last : Int), i ≤ gs.length ∧ ii = .int .i64 i ∧ sndG N (m : Int) gs = sndF (grB N (m : Int)) Gr.s last (gs.drop i) ∧ (i = 0 → last = -1) ∧ (∀ n, i = n + 1 → ∃ pv, gs[n]? = some pv ∧ Gr.s pv = last) ∧ (∀ z ∈ us.map Us.s ++ (gs.take i).map Gr.s, 0 ≤ z ∧ z < (m : Int)) ∧ Own wr w1.heap.size (cntV m (us.map Us.s ++ (gs.take i).map Gr.s)) 3 ∧ Below w1.heap.size w1 wr) (fun i _ => gs.length - (intOf i).toNat)
      case atStart => exact ⟨0, -1, by omega, rfl, rfl, fun _ => rfl, fun n h => by omega, by simpa using HRU.out, by simpa using OA.out, BE.out⟩
      case round =>
        clear hlt hi j0 BE OA HT HZ HSS HRR
        obtain ⟨i, last, hi, rfl, hT, hz, hs, hr, hoa, bel⟩ := hrel
        have HT := Lib.hid hT
        have HZ := Lib.hid hz
        have HSS := Lib.hid hs
        have HRR := Lib.hid hr
        have OA := Lib.hid hoa
        have BE := Lib.hid bel
        clear hT hz hs hr hoa bel
        have j0 : (0 : Int) ≤ (i : Int) := Int.natCast_nonneg _
        have oTr := Lib.hid (OT1.out.below BE.out)
        have oLr := Lib.hid (OL1.out.below BE.out)
        obtain ⟨t0, t1, t2, fT, zT⟩ := own3 oTr.out
        obtain ⟨y0, y1, fL, zL⟩ := own2 oLr.out
        by_cases hlt : i < gs.length
        · obtain ⟨d, b, off, hd, rfl, hbl, _, d0, d1, d2, d3, d4⟩ := SG1.out.atG BE.out hlt
          have j1 : (i : Int) < (gs.length : Int) := by omega
          have HD := Lib.hid hd
          have HS := Lib.hid (sndF_step (ok := grB N (m : Int)) (sl := Gr.s) (last := last) hd)
          clear hd
          cases hv : grB N (m : Int) d with
          | false =>
            have HV := Lib.hid hv
            clear hv
            go_wp2_with fail
            refine region_H 30 #[false, false, false, false, false, false, false, false, false, false, false, false, false, false, false, false, false, false, false, false, false, false, false, false, false, false, false, false, false, false] (by kernel_rfl) (by kernel_rfl) (fun w' => w'.cell? ⟨w.heap.size, 1, none⟩ = some (.slice (some ⟨b, off, none⟩) gs.length cg) ∧ w'.cell? ⟨w.heap.size + 1, 0, none⟩ = some (.int .i64 N) ∧ w'.cell? ⟨w.heap.size + 1, 1, none⟩ = some (.int .i64 (m : Int)) ∧ w'.cell? ⟨b, off + i * 5, none⟩ = some (.int .i64 d.s) ∧ w'.cell? ⟨b, off + i * 5 + 1, none⟩ = some (.int .i64 d.o) ∧ w'.cell? ⟨b, off + i * 5 + 2, none⟩ = some (.int .i64 d.p) ∧ w'.cell? ⟨b, off + i * 5 + 3, none⟩ = some (.int .i64 d.m) ∧ w'.cell? ⟨b, off + i * 5 + 4, none⟩ = some (.int .i64 d.u)) (by kernel_rfl) ?x125s (fun hHeld => ?x125r)
            case x125s => exact ⟨t1, y0, y1, d0, d1, d2, d3, d4⟩
            refine wpH_take (i := 0) (some 88) (v := ?x126v) rfl (by kernel_rfl) (by kernel_rfl) (by kernel_rfl) rfl (fun _ _ _ h => h) (Or.inl ⟨by rfl, ?x126y⟩) hHeld ?x126r
            case x126y => (intro w hSw; (try dsimp only at hSw); go_simp; try with_reducible rfl)
            try simp only [Act.put, List.setIfInBounds_toArray, List.set_cons_zero, List.set_cons_succ]
            refine wpH_take (i := 1) (some 89) (v := ?x127v) rfl (by kernel_rfl) (by kernel_rfl) (by kernel_rfl) rfl (fun _ _ _ h => h) (Or.inl ⟨by rfl, ?x127y⟩) hHeld ?x127r
            case x127y => (intro w hSw; (try dsimp only at hSw); go_simp; try with_reducible rfl)
            try simp only [Act.put, List.setIfInBounds_toArray, List.set_cons_zero, List.set_cons_succ]
            refine wpH_take (i := 2) (some 90) (v := ?x128v) rfl (by kernel_rfl) (by kernel_rfl) (by kernel_rfl) rfl (fun _ _ _ h => h) (Or.inl ⟨by rfl, ?x128y⟩) hHeld ?x128r
            case x128y => (intro w hSw; (try dsimp only at hSw); go_simp; try with_reducible rfl)
            try simp only [Act.put, List.setIfInBounds_toArray, List.set_cons_zero, List.set_cons_succ]
            refine wpH_take (i := 3) (some 91) (v := ?x129v) rfl (by kernel_rfl) (by kernel_rfl) (by kernel_rfl) rfl (fun _ _ _ h => h) (Or.inl ⟨by rfl, ?x129y⟩) hHeld ?x129r
            case x129y => (intro w hSw; (try dsimp only at hSw); go_simp; try with_reducible rfl)
            try simp only [Act.put, List.setIfInBounds_toArray, List.set_cons_zero, List.set_cons_succ]
            refine wpH_take (i := 4) (some 92) (v := ?x130v) rfl (by kernel_rfl) (by kernel_rfl) (by kernel_rfl) rfl (fun _ _ _ h => h) (Or.inl ⟨by rfl, ?x130y⟩) hHeld ?x130r
            case x130y => (intro w hSw; (try dsimp only at hSw); go_simp; try with_reducible rfl)
            try simp only [Act.put, List.setIfInBounds_toArray, List.set_cons_zero, List.set_cons_succ]
            refine wpH_take (i := 5) (some 93) (v := ?x131v) rfl (by kernel_rfl) (by kernel_rfl) (by kernel_rfl) rfl (fun _ _ _ h => h) (Or.inl ⟨by rfl, ?x131y⟩) hHeld ?x131r
            case x131y => (intro w hSw; (try dsimp only at hSw); go_simp; try with_reducible rfl)
            try simp only [Act.put, List.setIfInBounds_toArray, List.set_cons_zero, List.set_cons_succ]
            refine wpH_one (i := 6) (by kernel_rfl) rfl (fun K hK => ?_)
            rw [if_pos (by rfl)]
            go_simp
            refine (rgval_lit d N (m : Int) false _ HV.out).mono ?_
            rintro e w3 ⟨rfl, hb⟩
            have BC := Lib.hid (BE.out.drew.trans (hb.mono BE.out.size))
            have OA3 := Lib.hid (OA.out.drew.below hb)
            have oT3 := Lib.hid (oTr.out.drew.below hb)
            have oL3 := Lib.hid (oLr.out.drew.below hb)
            obtain ⟨u0, u1, u2, fT3, zT3⟩ := own3 oT3.out
            obtain ⟨v0, v1, fL3, zL3⟩ := own2 oL3.out
            have e0 : w3.cell? ⟨b, off + i * 5, none⟩ = some (.int .i64 d.s) := (hb.cell (p := ⟨b, off + i * 5, none⟩) hbl).trans d0
            have e1 : w3.cell? ⟨b, off + i * 5 + 1, none⟩ = some (.int .i64 d.o) := (hb.cell (p := ⟨b, off + i * 5 + 1, none⟩) hbl).trans d1
            have e2 : w3.cell? ⟨b, off + i * 5 + 2, none⟩ = some (.int .i64 d.p) := (hb.cell (p := ⟨b, off + i * 5 + 2, none⟩) hbl).trans d2
            have e3 : w3.cell? ⟨b, off + i * 5 + 3, none⟩ = some (.int .i64 d.m) := (hb.cell (p := ⟨b, off + i * 5 + 3, none⟩) hbl).trans d3
            have e4 : w3.cell? ⟨b, off + i * 5 + 4, none⟩ = some (.int .i64 d.u) := (hb.cell (p := ⟨b, off + i * 5 + 4, none⟩) hbl).trans d4
            clear hb
            refine hK.out _ _ (⟨u1, v0, v1, e0, e1, e2, e3, e4⟩) ?_
            clear hK K hHeld
            intro hHeld
            try simp only [Act.put, List.setIfInBounds_toArray, List.set_cons_zero, List.set_cons_succ]
            refine wpH_take (i := 7) (some 95) (v := ?x133v) rfl (by kernel_rfl) (by kernel_rfl) (by kernel_rfl) rfl (fun _ _ _ h => h) (Or.inl ⟨by rfl, ?x133y⟩) hHeld ?x133r
            case x133y => (intro w hSw; (try dsimp only at hSw); go_simp; try with_reducible rfl)
            try simp only [Act.put, List.setIfInBounds_toArray, List.set_cons_zero, List.set_cons_succ]
            refine wpH_take (i := 8) (some 96) (v := ?x134v) rfl (by kernel_rfl) (by kernel_rfl) (by kernel_rfl) rfl (fun _ _ _ h => h) (Or.inl ⟨by rfl, ?x134y⟩) hHeld ?x134r
            case x134y => (intro w hSw; (try dsimp only at hSw); go_simp; try with_reducible rfl)
            try simp only [Act.put, List.setIfInBounds_toArray, List.set_cons_zero, List.set_cons_succ]
            refine wpH_take (i := 9) (some 97) (v := undef) rfl (by kernel_rfl) (by kernel_rfl) (by kernel_rfl) rfl (fun _ _ _ h => h) (Or.inr ⟨by rfl, rfl⟩) hHeld ?x135r
            try simp only [Act.put, List.setIfInBounds_toArray, List.set_cons_zero, List.set_cons_succ]
            refine wpH_take (i := 10) (some 98) (v := undef) rfl (by kernel_rfl) (by kernel_rfl) (by kernel_rfl) rfl (fun _ _ _ h => h) (Or.inr ⟨by rfl, rfl⟩) hHeld ?x136r
            try simp only [Act.put, List.setIfInBounds_toArray, List.set_cons_zero, List.set_cons_succ]
            refine wpH_take (i := 11) (some 99) (v := undef) rfl (by kernel_rfl) (by kernel_rfl) (by kernel_rfl) rfl (fun _ _ _ h => h) (Or.inr ⟨by rfl, rfl⟩) hHeld ?x137r
            try simp only [Act.put, List.setIfInBounds_toArray, List.set_cons_zero, List.set_cons_succ]
            refine wpH_take (i := 12) (some 100) (v := undef) rfl (by kernel_rfl) (by kernel_rfl) (by kernel_rfl) rfl (fun _ _ _ h => h) (Or.inr ⟨by rfl, rfl⟩) hHeld ?x138r
            try simp only [Act.put, List.setIfInBounds_toArray, List.set_cons_zero, List.set_cons_succ]
            refine wpH_take (i := 13) (some 101) (v := undef) rfl (by kernel_rfl) (by kernel_rfl) (by kernel_rfl) rfl (fun _ _ _ h => h) (Or.inr ⟨by rfl, rfl⟩) hHeld ?x139r
            try simp only [Act.put, List.setIfInBounds_toArray, List.set_cons_zero, List.set_cons_succ]
            refine wpH_take (i := 14) (some 102) (v := undef) rfl (by kernel_rfl) (by kernel_rfl) (by kernel_rfl) rfl (fun _ _ _ h => h) (Or.inr ⟨by rfl, rfl⟩) hHeld ?x140r
            try simp only [Act.put, List.setIfInBounds_toArray, List.set_cons_zero, List.set_cons_succ]
            refine wpH_take (i := 15) (some 103) (v := undef) rfl (by kernel_rfl) (by kernel_rfl) (by kernel_rfl) rfl (fun _ _ _ h => h) (Or.inr ⟨by rfl, rfl⟩) hHeld ?x141r
            try simp only [Act.put, List.setIfInBounds_toArray, List.set_cons_zero, List.set_cons_succ]
            refine wpH_take (i := 16) (some 104) (v := undef) rfl (by kernel_rfl) (by kernel_rfl) (by kernel_rfl) rfl (fun _ _ _ h => h) (Or.inr ⟨by rfl, rfl⟩) hHeld ?x142r
            try simp only [Act.put, List.setIfInBounds_toArray, List.set_cons_zero, List.set_cons_succ]
            refine wpH_take (i := 17) (some 105) (v := undef) rfl (by kernel_rfl) (by kernel_rfl) (by kernel_rfl) rfl (fun _ _ _ h => h) (Or.inr ⟨by rfl, rfl⟩) hHeld ?x143r
            try simp only [Act.put, List.setIfInBounds_toArray, List.set_cons_zero, List.set_cons_succ]
            refine wpH_take (i := 18) (some 106) (v := undef) rfl (by kernel_rfl) (by kernel_rfl) (by kernel_rfl) rfl (fun _ _ _ h => h) (Or.inr ⟨by rfl, rfl⟩) hHeld ?x144r
            try simp only [Act.put, List.setIfInBounds_toArray, List.set_cons_zero, List.set_cons_succ]
            refine wpH_take (i := 19) (some 107) (v := undef) rfl (by kernel_rfl) (by kernel_rfl) (by kernel_rfl) rfl (fun _ _ _ h => h) (Or.inr ⟨by rfl, rfl⟩) hHeld ?x145r
            try simp only [Act.put, List.setIfInBounds_toArray, List.set_cons_zero, List.set_cons_succ]
            refine wpH_take (i := 20) (some 108) (v := undef) rfl (by kernel_rfl) (by kernel_rfl) (by kernel_rfl) rfl (fun _ _ _ h => h) (Or.inr ⟨by rfl, rfl⟩) hHeld ?x146r
            try simp only [Act.put, List.setIfInBounds_toArray, List.set_cons_zero, List.set_cons_succ]
            refine wpH_take (i := 21) (some 109) (v := undef) rfl (by kernel_rfl) (by kernel_rfl) (by kernel_rfl) rfl (fun _ _ _ h => h) (Or.inr ⟨by rfl, rfl⟩) hHeld ?x147r
            try simp only [Act.put, List.setIfInBounds_toArray, List.set_cons_zero, List.set_cons_succ]
            refine wpH_take (i := 22) (some 110) (v := undef) rfl (by kernel_rfl) (by kernel_rfl) (by kernel_rfl) rfl (fun _ _ _ h => h) (Or.inr ⟨by rfl, rfl⟩) hHeld ?x148r
            try simp only [Act.put, List.setIfInBounds_toArray, List.set_cons_zero, List.set_cons_succ]
            refine wpH_take (i := 23) (some 111) (v := undef) rfl (by kernel_rfl) (by kernel_rfl) (by kernel_rfl) rfl (fun _ _ _ h => h) (Or.inr ⟨by rfl, rfl⟩) hHeld ?x149r
            try simp only [Act.put, List.setIfInBounds_toArray, List.set_cons_zero, List.set_cons_succ]
            refine wpH_take (i := 24) (some 112) (v := undef) rfl (by kernel_rfl) (by kernel_rfl) (by kernel_rfl) rfl (fun _ _ _ h => h) (Or.inr ⟨by rfl, rfl⟩) hHeld ?x150r
            try simp only [Act.put, List.setIfInBounds_toArray, List.set_cons_zero, List.set_cons_succ]
            refine wpH_take (i := 25) (some 113) (v := undef) rfl (by kernel_rfl) (by kernel_rfl) (by kernel_rfl) rfl (fun _ _ _ h => h) (Or.inr ⟨by rfl, rfl⟩) hHeld ?x151r
            try simp only [Act.put, List.setIfInBounds_toArray, List.set_cons_zero, List.set_cons_succ]
            refine wpH_take (i := 26) (some 114) (v := undef) rfl (by kernel_rfl) (by kernel_rfl) (by kernel_rfl) rfl (fun _ _ _ h => h) (Or.inr ⟨by rfl, rfl⟩) hHeld ?x152r
            try simp only [Act.put, List.setIfInBounds_toArray, List.set_cons_zero, List.set_cons_succ]
            refine wpH_take (i := 27) (some 115) (v := undef) rfl (by kernel_rfl) (by kernel_rfl) (by kernel_rfl) rfl (fun _ _ _ h => h) (Or.inr ⟨by rfl, rfl⟩) hHeld ?x153r
            try simp only [Act.put, List.setIfInBounds_toArray, List.set_cons_zero, List.set_cons_succ]
            refine wpH_take (i := 28) (some 116) (v := undef) rfl (by kernel_rfl) (by kernel_rfl) (by kernel_rfl) rfl (fun _ _ _ h => h) (Or.inr ⟨by rfl, rfl⟩) hHeld ?x154r
            try simp only [Act.put, List.setIfInBounds_toArray, List.set_cons_zero, List.set_cons_succ]
            refine wpH_take (i := 29) (some 117) (v := ?x155v) rfl (by kernel_rfl) (by kernel_rfl) (by kernel_rfl) rfl (fun _ _ _ h => h) (Or.inl ⟨by rfl, ?x155y⟩) hHeld ?x155r
            case x155y => (intro w hSw; (try dsimp only at hSw); go_simp; try with_reducible rfl)
            try simp only [Act.put, List.setIfInBounds_toArray, List.set_cons_zero, List.set_cons_succ]
            refine wpAnyH_done (by kernel_rfl) ?_ _
            go_wp2_with fail
            go_ret
            exact ⟨ret_bool (by rw [HRES.out, HT.out, HS.out, HV.out]; simp), BB1.out.trans (BC.out.mono BB1.out.size)⟩
          | true =>
            have HV := Lib.hid hv
            have hsl := g_slot hv
            obtain ⟨hs0, hs1⟩ := hsl
            obtain ⟨kx, hkx⟩ : ∃ kx : Nat, d.s = (kx : Int) := ⟨d.s.toNat, by omega⟩
            have HKX := Lib.hid hkx
            have hkm : kx < m := by omega
            clear hv hkx
            by_cases h0 : i = 0
            · have k3 : decide ((0 : Int) < (i : Int)) = false := decide_eq_false (by omega)
              have k4 : decide (0 < i) = false := decide_eq_false (by omega)
              have HL0 := Lib.hid (HZ.out h0)
              have H00 := Lib.hid h0
              clear h0
              go_wp2_with fail
              refine region_H 30 #[false, false, false, false, false, false, false, false, false, false, false, false, false, false, false, false, false, false, false, false, false, false, false, false, false, false, false, false, false, false] (by kernel_rfl) (by kernel_rfl) (fun w' => w'.cell? ⟨w.heap.size, 1, none⟩ = some (.slice (some ⟨b, off, none⟩) gs.length cg) ∧ w'.cell? ⟨w.heap.size + 1, 0, none⟩ = some (.int .i64 N) ∧ w'.cell? ⟨w.heap.size + 1, 1, none⟩ = some (.int .i64 (m : Int)) ∧ w'.cell? ⟨b, off + i * 5, none⟩ = some (.int .i64 d.s) ∧ w'.cell? ⟨b, off + i * 5 + 1, none⟩ = some (.int .i64 d.o) ∧ w'.cell? ⟨b, off + i * 5 + 2, none⟩ = some (.int .i64 d.p) ∧ w'.cell? ⟨b, off + i * 5 + 3, none⟩ = some (.int .i64 d.m) ∧ w'.cell? ⟨b, off + i * 5 + 4, none⟩ = some (.int .i64 d.u)) (by kernel_rfl) ?x156s (fun hHeld => ?x156r)
              case x156s => exact ⟨t1, y0, y1, d0, d1, d2, d3, d4⟩
              refine wpH_take (i := 0) (some 88) (v := ?x157v) rfl (by kernel_rfl) (by kernel_rfl) (by kernel_rfl) rfl (fun _ _ _ h => h) (Or.inl ⟨by rfl, ?x157y⟩) hHeld ?x157r
              case x157y => (intro w hSw; (try dsimp only at hSw); go_simp; try with_reducible rfl)
              try simp only [Act.put, List.setIfInBounds_toArray, List.set_cons_zero, List.set_cons_succ]
              refine wpH_take (i := 1) (some 89) (v := ?x158v) rfl (by kernel_rfl) (by kernel_rfl) (by kernel_rfl) rfl (fun _ _ _ h => h) (Or.inl ⟨by rfl, ?x158y⟩) hHeld ?x158r
              case x158y => (intro w hSw; (try dsimp only at hSw); go_simp; try with_reducible rfl)
              try simp only [Act.put, List.setIfInBounds_toArray, List.set_cons_zero, List.set_cons_succ]
              refine wpH_take (i := 2) (some 90) (v := ?x159v) rfl (by kernel_rfl) (by kernel_rfl) (by kernel_rfl) rfl (fun _ _ _ h => h) (Or.inl ⟨by rfl, ?x159y⟩) hHeld ?x159r
              case x159y => (intro w hSw; (try dsimp only at hSw); go_simp; try with_reducible rfl)
              try simp only [Act.put, List.setIfInBounds_toArray, List.set_cons_zero, List.set_cons_succ]
              refine wpH_take (i := 3) (some 91) (v := ?x160v) rfl (by kernel_rfl) (by kernel_rfl) (by kernel_rfl) rfl (fun _ _ _ h => h) (Or.inl ⟨by rfl, ?x160y⟩) hHeld ?x160r
              case x160y => (intro w hSw; (try dsimp only at hSw); go_simp; try with_reducible rfl)
              try simp only [Act.put, List.setIfInBounds_toArray, List.set_cons_zero, List.set_cons_succ]
              refine wpH_take (i := 4) (some 92) (v := ?x161v) rfl (by kernel_rfl) (by kernel_rfl) (by kernel_rfl) rfl (fun _ _ _ h => h) (Or.inl ⟨by rfl, ?x161y⟩) hHeld ?x161r
              case x161y => (intro w hSw; (try dsimp only at hSw); go_simp; try with_reducible rfl)
              try simp only [Act.put, List.setIfInBounds_toArray, List.set_cons_zero, List.set_cons_succ]
              refine wpH_take (i := 5) (some 93) (v := ?x162v) rfl (by kernel_rfl) (by kernel_rfl) (by kernel_rfl) rfl (fun _ _ _ h => h) (Or.inl ⟨by rfl, ?x162y⟩) hHeld ?x162r
              case x162y => (intro w hSw; (try dsimp only at hSw); go_simp; try with_reducible rfl)
              try simp only [Act.put, List.setIfInBounds_toArray, List.set_cons_zero, List.set_cons_succ]
              refine wpH_one (i := 6) (by kernel_rfl) rfl (fun K hK => ?_)
              rw [if_pos (by rfl)]
              go_simp
              refine (rgval_lit d N (m : Int) true _ HV.out).mono ?_
              rintro e w3 ⟨rfl, hb⟩
              have BC := Lib.hid (BE.out.drew.trans (hb.mono BE.out.size))
              have OA3 := Lib.hid (OA.out.drew.below hb)
              have oT3 := Lib.hid (oTr.out.drew.below hb)
              have oL3 := Lib.hid (oLr.out.drew.below hb)
              obtain ⟨u0, u1, u2, fT3, zT3⟩ := own3 oT3.out
              obtain ⟨v0, v1, fL3, zL3⟩ := own2 oL3.out
              have e0 : w3.cell? ⟨b, off + i * 5, none⟩ = some (.int .i64 d.s) := (hb.cell (p := ⟨b, off + i * 5, none⟩) hbl).trans d0
              have e1 : w3.cell? ⟨b, off + i * 5 + 1, none⟩ = some (.int .i64 d.o) := (hb.cell (p := ⟨b, off + i * 5 + 1, none⟩) hbl).trans d1
              have e2 : w3.cell? ⟨b, off + i * 5 + 2, none⟩ = some (.int .i64 d.p) := (hb.cell (p := ⟨b, off + i * 5 + 2, none⟩) hbl).trans d2
              have e3 : w3.cell? ⟨b, off + i * 5 + 3, none⟩ = some (.int .i64 d.m) := (hb.cell (p := ⟨b, off + i * 5 + 3, none⟩) hbl).trans d3
              have e4 : w3.cell? ⟨b, off + i * 5 + 4, none⟩ = some (.int .i64 d.u) := (hb.cell (p := ⟨b, off + i * 5 + 4, none⟩) hbl).trans d4
              clear hb
              refine hK.out _ _ (⟨u1, v0, v1, e0, e1, e2, e3, e4⟩) ?_
              clear hK K hHeld
              intro hHeld
              try simp only [Act.put, List.setIfInBounds_toArray, List.set_cons_zero, List.set_cons_succ]
              refine wpH_take (i := 7) (some 95) (v := ?x164v) rfl (by kernel_rfl) (by kernel_rfl) (by kernel_rfl) rfl (fun _ _ _ h => h) (Or.inl ⟨by rfl, ?x164y⟩) hHeld ?x164r
              case x164y => (intro w hSw; (try dsimp only at hSw); go_simp; try with_reducible rfl)
              try simp only [Act.put, List.setIfInBounds_toArray, List.set_cons_zero, List.set_cons_succ]
              refine wpH_take (i := 8) (some 96) (v := ?x165v) rfl (by kernel_rfl) (by kernel_rfl) (by kernel_rfl) rfl (fun _ _ _ h => h) (Or.inl ⟨by rfl, ?x165y⟩) hHeld ?x165r
              case x165y => (intro w hSw; (try dsimp only at hSw); go_simp; try with_reducible rfl)
              try simp only [Act.put, List.setIfInBounds_toArray, List.set_cons_zero, List.set_cons_succ]
              refine wpH_take (i := 9) (some 97) (v := ?x166v) rfl (by kernel_rfl) (by kernel_rfl) (by kernel_rfl) rfl (fun _ _ _ h => h) (Or.inl ⟨by rfl, ?x166y⟩) hHeld ?x166r
              case x166y => (intro w hSw; (try dsimp only at hSw); go_simp; try with_reducible rfl)
              try simp only [Act.put, List.setIfInBounds_toArray, List.set_cons_zero, List.set_cons_succ]
              refine wpH_take (i := 10) (some 98) (v := ?x167v) rfl (by kernel_rfl) (by kernel_rfl) (by kernel_rfl) rfl (fun _ _ _ h => h) (Or.inl ⟨by rfl, ?x167y⟩) hHeld ?x167r
              case x167y => (intro w hSw; (try dsimp only at hSw); go_simp; try with_reducible rfl)
              try simp only [Act.put, List.setIfInBounds_toArray, List.set_cons_zero, List.set_cons_succ]
              refine wpH_take (i := 11) (some 99) (v := ?x168v) rfl (by kernel_rfl) (by kernel_rfl) (by kernel_rfl) rfl (fun _ _ _ h => h) (Or.inl ⟨by rfl, ?x168y⟩) hHeld ?x168r
              case x168y => (intro w hSw; (try dsimp only at hSw); go_simp; try with_reducible rfl)
              try simp only [Act.put, List.setIfInBounds_toArray, List.set_cons_zero, List.set_cons_succ]
              refine wpH_take (i := 12) (some 100) (v := undef) rfl (by kernel_rfl) (by kernel_rfl) (by kernel_rfl) rfl (fun _ _ _ h => h) (Or.inr ⟨by rfl, rfl⟩) hHeld ?x169r
              try simp only [Act.put, List.setIfInBounds_toArray, List.set_cons_zero, List.set_cons_succ]
              refine wpH_take (i := 13) (some 101) (v := undef) rfl (by kernel_rfl) (by kernel_rfl) (by kernel_rfl) rfl (fun _ _ _ h => h) (Or.inr ⟨by rfl, rfl⟩) hHeld ?x170r
              try simp only [Act.put, List.setIfInBounds_toArray, List.set_cons_zero, List.set_cons_succ]
              refine wpH_take (i := 14) (some 102) (v := undef) rfl (by kernel_rfl) (by kernel_rfl) (by kernel_rfl) rfl (fun _ _ _ h => h) (Or.inr ⟨by rfl, rfl⟩) hHeld ?x171r
              try simp only [Act.put, List.setIfInBounds_toArray, List.set_cons_zero, List.set_cons_succ]
              refine wpH_take (i := 15) (some 103) (v := undef) rfl (by kernel_rfl) (by kernel_rfl) (by kernel_rfl) rfl (fun _ _ _ h => h) (Or.inr ⟨by rfl, rfl⟩) hHeld ?x172r
              try simp only [Act.put, List.setIfInBounds_toArray, List.set_cons_zero, List.set_cons_succ]
              refine wpH_take (i := 16) (some 104) (v := undef) rfl (by kernel_rfl) (by kernel_rfl) (by kernel_rfl) rfl (fun _ _ _ h => h) (Or.inr ⟨by rfl, rfl⟩) hHeld ?x173r
              try simp only [Act.put, List.setIfInBounds_toArray, List.set_cons_zero, List.set_cons_succ]
              refine wpH_take (i := 17) (some 105) (v := undef) rfl (by kernel_rfl) (by kernel_rfl) (by kernel_rfl) rfl (fun _ _ _ h => h) (Or.inr ⟨by rfl, rfl⟩) hHeld ?x174r
              try simp only [Act.put, List.setIfInBounds_toArray, List.set_cons_zero, List.set_cons_succ]
              refine wpH_take (i := 18) (some 106) (v := undef) rfl (by kernel_rfl) (by kernel_rfl) (by kernel_rfl) rfl (fun _ _ _ h => h) (Or.inr ⟨by rfl, rfl⟩) hHeld ?x175r
              try simp only [Act.put, List.setIfInBounds_toArray, List.set_cons_zero, List.set_cons_succ]
              refine wpH_take (i := 19) (some 107) (v := undef) rfl (by kernel_rfl) (by kernel_rfl) (by kernel_rfl) rfl (fun _ _ _ h => h) (Or.inr ⟨by rfl, rfl⟩) hHeld ?x176r
              try simp only [Act.put, List.setIfInBounds_toArray, List.set_cons_zero, List.set_cons_succ]
              refine wpH_take (i := 20) (some 108) (v := undef) rfl (by kernel_rfl) (by kernel_rfl) (by kernel_rfl) rfl (fun _ _ _ h => h) (Or.inr ⟨by rfl, rfl⟩) hHeld ?x177r
              try simp only [Act.put, List.setIfInBounds_toArray, List.set_cons_zero, List.set_cons_succ]
              refine wpH_take (i := 21) (some 109) (v := undef) rfl (by kernel_rfl) (by kernel_rfl) (by kernel_rfl) rfl (fun _ _ _ h => h) (Or.inr ⟨by rfl, rfl⟩) hHeld ?x178r
              try simp only [Act.put, List.setIfInBounds_toArray, List.set_cons_zero, List.set_cons_succ]
              refine wpH_take (i := 22) (some 110) (v := undef) rfl (by kernel_rfl) (by kernel_rfl) (by kernel_rfl) rfl (fun _ _ _ h => h) (Or.inr ⟨by rfl, rfl⟩) hHeld ?x179r
              try simp only [Act.put, List.setIfInBounds_toArray, List.set_cons_zero, List.set_cons_succ]
              refine wpH_take (i := 23) (some 111) (v := undef) rfl (by kernel_rfl) (by kernel_rfl) (by kernel_rfl) rfl (fun _ _ _ h => h) (Or.inr ⟨by rfl, rfl⟩) hHeld ?x180r
              try simp only [Act.put, List.setIfInBounds_toArray, List.set_cons_zero, List.set_cons_succ]
              refine wpH_take (i := 24) (some 112) (v := undef) rfl (by kernel_rfl) (by kernel_rfl) (by kernel_rfl) rfl (fun _ _ _ h => h) (Or.inr ⟨by rfl, rfl⟩) hHeld ?x181r
              try simp only [Act.put, List.setIfInBounds_toArray, List.set_cons_zero, List.set_cons_succ]
              refine wpH_take (i := 25) (some 113) (v := undef) rfl (by kernel_rfl) (by kernel_rfl) (by kernel_rfl) rfl (fun _ _ _ h => h) (Or.inr ⟨by rfl, rfl⟩) hHeld ?x182r
              try simp only [Act.put, List.setIfInBounds_toArray, List.set_cons_zero, List.set_cons_succ]
              refine wpH_take (i := 26) (some 114) (v := undef) rfl (by kernel_rfl) (by kernel_rfl) (by kernel_rfl) rfl (fun _ _ _ h => h) (Or.inr ⟨by rfl, rfl⟩) hHeld ?x183r
              try simp only [Act.put, List.setIfInBounds_toArray, List.set_cons_zero, List.set_cons_succ]
              refine wpH_take (i := 27) (some 115) (v := undef) rfl (by kernel_rfl) (by kernel_rfl) (by kernel_rfl) rfl (fun _ _ _ h => h) (Or.inr ⟨by rfl, rfl⟩) hHeld ?x184r
              try simp only [Act.put, List.setIfInBounds_toArray, List.set_cons_zero, List.set_cons_succ]
              refine wpH_take (i := 28) (some 116) (v := ?x185v) rfl (by kernel_rfl) (by kernel_rfl) (by kernel_rfl) rfl (fun _ _ _ h => h) (Or.inl ⟨by rfl, ?x185y⟩) hHeld ?x185r
              case x185y => (intro w hSw; (try dsimp only at hSw); go_simp; try with_reducible rfl)
              try simp only [Act.put, List.setIfInBounds_toArray, List.set_cons_zero, List.set_cons_succ]
              refine wpH_take (i := 29) (some 117) (v := ?x186v) rfl (by kernel_rfl) (by kernel_rfl) (by kernel_rfl) rfl (fun _ _ _ h => h) (Or.inl ⟨by rfl, ?x186y⟩) hHeld ?x186r
              case x186y => (intro w hSw; (try dsimp only at hSw); go_simp; try with_reducible rfl)
              try simp only [Act.put, List.setIfInBounds_toArray, List.set_cons_zero, List.set_cons_succ]
              refine wpAnyH_done (by kernel_rfl) ?_ _
              rw [HKX.out] at e0
              have x0 : (0 : Int) ≤ (kx : Int) := Int.natCast_nonneg _
              have x1 : (kx : Int) < (m : Int) := by omega
              have cA : w3.cell? ⟨w1.heap.size, kx, none⟩ = some (.int .i64 ((us.map Us.s ++ (gs.take i).map Gr.s).count (kx : Int) : Nat)) := OA3.out.cell (cntV_at hkm)
              have fA := OA3.out.frozen
              have hc0 : (us.map Us.s ++ (gs.take i).map Gr.s).count (kx : Int) ≤ 210 := by
                have h := List.count_le_length (a := (kx : Int)) (l := us.map Us.s ++ (gs.take i).map Gr.s)
                simp only [List.length_append, List.length_map, List.length_take] at h
                omega
              obtain ⟨cn, hcn⟩ : ∃ cn, (us.map Us.s ++ (gs.take i).map Gr.s).count (kx : Int) = cn := ⟨_, rfl⟩
              rw [hcn] at cA hc0
              have HCN := Lib.hid hcn
              have hc1 : (0 : Int) ≤ (cn : Int) := Int.natCast_nonneg _
              have hc2 : (cn : Int) ≤ 210 := by omega
              clear hcn hc0 hs0 hs1
              go_wp2_with fail
              go_roundw
              case rel =>
                have h9 := OA3.out.set kx (.int .i64 ((cn : Int) + 1))
                rw [← HCN.out, cntV_set hkm] at h9
                refine ⟨i + 1, d.s, by omega, by go_num, by rw [HT.out, HS.out, HV.out, decide_eq_true (show last < d.s by have h1 := HL0.out; have h2 := HKX.out; omega)]; simp, fun h => by omega, fun n h => ⟨d, by obtain rfl : n = i := (by omega); exact HD.out, rfl⟩, ?_, ?_, belowSet' BC.out _ _ _ (Nat.le_refl _)⟩
                · intro z hz
                  rw [take_snocG HD.out, List.map_append, ← List.append_assoc] at hz
                  rcases List.mem_append.1 hz with hz | hz
                  · exact HRR.out z (by simpa using hz)
                  · simp only [List.map_cons, List.map_nil, List.mem_singleton] at hz
                    rw [hz]; have := HKX.out; exact ⟨by omega, by omega⟩
                · rw [take_snocG HD.out, List.map_append, ← List.append_assoc, List.map_cons, List.map_nil, HKX.out]
                  rw [HCN.out] at h9
                  exact h9
              case measure => simp [intOf]; omega
            · obtain ⟨n, hn⟩ : ∃ n, i = n + 1 := ⟨i - 1, by omega⟩
              obtain ⟨pv, hpv, hl⟩ := HSS.out n hn
              obtain ⟨pv', b', off', hpv', e', _, _, dp, _, _, _, _⟩ := SG1.out.atG BE.out (i := n) (by omega)
              cases e'
              obtain rfl : pv = pv' := by rw [hpv] at hpv'; exact Option.some.inj hpv'
              have k3 : decide ((0 : Int) < (i : Int)) = true := decide_eq_true (by omega)
              have k4 : decide (0 < i) = true := decide_eq_true (by omega)
              have m0 : (0 : Int) ≤ (n : Int) := Int.natCast_nonneg _
              have m1 : (n : Int) < (gs.length : Int) := by omega
              have HL := Lib.hid hl
              have wm : IntKind.i64.wrap ((i : Int) - 1) = (n : Int) := by rw [IntWalk.i64_in _ (by omega)]; omega
              clear hpv hpv' hl hn h0
              by_cases h5 : d.s ≤ pv.s
              · have k5 : decide (d.s ≤ pv.s) = true := decide_eq_true h5
                have H3 := Lib.hid (show decide (last < d.s) = false from decide_eq_false (by have := HL.out; omega))
                clear h5 hs0 hs1
                go_wp2_with fail
                refine region_H 30 #[false, false, false, false, false, false, false, false, false, false, false, false, false, false, false, false, false, false, false, false, false, false, false, false, false, false, false, false, false, false] (by kernel_rfl) (by kernel_rfl) (fun w' => w'.cell? ⟨w.heap.size, 1, none⟩ = some (.slice (some ⟨b, off, none⟩) gs.length cg) ∧ w'.cell? ⟨w.heap.size + 1, 0, none⟩ = some (.int .i64 N) ∧ w'.cell? ⟨w.heap.size + 1, 1, none⟩ = some (.int .i64 (m : Int)) ∧ w'.cell? ⟨b, off + i * 5, none⟩ = some (.int .i64 d.s) ∧ w'.cell? ⟨b, off + i * 5 + 1, none⟩ = some (.int .i64 d.o) ∧ w'.cell? ⟨b, off + i * 5 + 2, none⟩ = some (.int .i64 d.p) ∧ w'.cell? ⟨b, off + i * 5 + 3, none⟩ = some (.int .i64 d.m) ∧ w'.cell? ⟨b, off + i * 5 + 4, none⟩ = some (.int .i64 d.u) ∧ w'.cell? ⟨b, off + n * 5, none⟩ = some (.int .i64 pv.s)) (by kernel_rfl) ?x187s (fun hHeld => ?x187r)
                case x187s => exact ⟨t1, y0, y1, d0, d1, d2, d3, d4, dp⟩
                refine wpH_take (i := 0) (some 88) (v := ?x188v) rfl (by kernel_rfl) (by kernel_rfl) (by kernel_rfl) rfl (fun _ _ _ h => h) (Or.inl ⟨by rfl, ?x188y⟩) hHeld ?x188r
                case x188y => (intro w hSw; (try dsimp only at hSw); go_simp; try with_reducible rfl)
                try simp only [Act.put, List.setIfInBounds_toArray, List.set_cons_zero, List.set_cons_succ]
                refine wpH_take (i := 1) (some 89) (v := ?x189v) rfl (by kernel_rfl) (by kernel_rfl) (by kernel_rfl) rfl (fun _ _ _ h => h) (Or.inl ⟨by rfl, ?x189y⟩) hHeld ?x189r
                case x189y => (intro w hSw; (try dsimp only at hSw); go_simp; try with_reducible rfl)
                try simp only [Act.put, List.setIfInBounds_toArray, List.set_cons_zero, List.set_cons_succ]
                refine wpH_take (i := 2) (some 90) (v := ?x190v) rfl (by kernel_rfl) (by kernel_rfl) (by kernel_rfl) rfl (fun _ _ _ h => h) (Or.inl ⟨by rfl, ?x190y⟩) hHeld ?x190r
                case x190y => (intro w hSw; (try dsimp only at hSw); go_simp; try with_reducible rfl)
                try simp only [Act.put, List.setIfInBounds_toArray, List.set_cons_zero, List.set_cons_succ]
                refine wpH_take (i := 3) (some 91) (v := ?x191v) rfl (by kernel_rfl) (by kernel_rfl) (by kernel_rfl) rfl (fun _ _ _ h => h) (Or.inl ⟨by rfl, ?x191y⟩) hHeld ?x191r
                case x191y => (intro w hSw; (try dsimp only at hSw); go_simp; try with_reducible rfl)
                try simp only [Act.put, List.setIfInBounds_toArray, List.set_cons_zero, List.set_cons_succ]
                refine wpH_take (i := 4) (some 92) (v := ?x192v) rfl (by kernel_rfl) (by kernel_rfl) (by kernel_rfl) rfl (fun _ _ _ h => h) (Or.inl ⟨by rfl, ?x192y⟩) hHeld ?x192r
                case x192y => (intro w hSw; (try dsimp only at hSw); go_simp; try with_reducible rfl)
                try simp only [Act.put, List.setIfInBounds_toArray, List.set_cons_zero, List.set_cons_succ]
                refine wpH_take (i := 5) (some 93) (v := ?x193v) rfl (by kernel_rfl) (by kernel_rfl) (by kernel_rfl) rfl (fun _ _ _ h => h) (Or.inl ⟨by rfl, ?x193y⟩) hHeld ?x193r
                case x193y => (intro w hSw; (try dsimp only at hSw); go_simp; try with_reducible rfl)
                try simp only [Act.put, List.setIfInBounds_toArray, List.set_cons_zero, List.set_cons_succ]
                refine wpH_one (i := 6) (by kernel_rfl) rfl (fun K hK => ?_)
                rw [if_pos (by rfl)]
                go_simp
                refine (rgval_lit d N (m : Int) true _ HV.out).mono ?_
                rintro e w3 ⟨rfl, hb⟩
                have BC := Lib.hid (BE.out.drew.trans (hb.mono BE.out.size))
                have OA3 := Lib.hid (OA.out.drew.below hb)
                have oT3 := Lib.hid (oTr.out.drew.below hb)
                have oL3 := Lib.hid (oLr.out.drew.below hb)
                obtain ⟨u0, u1, u2, fT3, zT3⟩ := own3 oT3.out
                obtain ⟨v0, v1, fL3, zL3⟩ := own2 oL3.out
                have e0 : w3.cell? ⟨b, off + i * 5, none⟩ = some (.int .i64 d.s) := (hb.cell (p := ⟨b, off + i * 5, none⟩) hbl).trans d0
                have e1 : w3.cell? ⟨b, off + i * 5 + 1, none⟩ = some (.int .i64 d.o) := (hb.cell (p := ⟨b, off + i * 5 + 1, none⟩) hbl).trans d1
                have e2 : w3.cell? ⟨b, off + i * 5 + 2, none⟩ = some (.int .i64 d.p) := (hb.cell (p := ⟨b, off + i * 5 + 2, none⟩) hbl).trans d2
                have e3 : w3.cell? ⟨b, off + i * 5 + 3, none⟩ = some (.int .i64 d.m) := (hb.cell (p := ⟨b, off + i * 5 + 3, none⟩) hbl).trans d3
                have e4 : w3.cell? ⟨b, off + i * 5 + 4, none⟩ = some (.int .i64 d.u) := (hb.cell (p := ⟨b, off + i * 5 + 4, none⟩) hbl).trans d4
                have ep : w3.cell? ⟨b, off + n * 5, none⟩ = some (.int .i64 pv.s) := (hb.cell (p := ⟨b, off + n * 5, none⟩) hbl).trans dp
                clear hb
                refine hK.out _ _ (⟨u1, v0, v1, e0, e1, e2, e3, e4, ep⟩) ?_
                clear hK K hHeld
                intro hHeld
                try simp only [Act.put, List.setIfInBounds_toArray, List.set_cons_zero, List.set_cons_succ]
                refine wpH_take (i := 7) (some 95) (v := ?x195v) rfl (by kernel_rfl) (by kernel_rfl) (by kernel_rfl) rfl (fun _ _ _ h => h) (Or.inl ⟨by rfl, ?x195y⟩) hHeld ?x195r
                case x195y => (intro w hSw; (try dsimp only at hSw); go_simp; try with_reducible rfl)
                try simp only [Act.put, List.setIfInBounds_toArray, List.set_cons_zero, List.set_cons_succ]
                refine wpH_take (i := 8) (some 96) (v := ?x196v) rfl (by kernel_rfl) (by kernel_rfl) (by kernel_rfl) rfl (fun _ _ _ h => h) (Or.inl ⟨by rfl, ?x196y⟩) hHeld ?x196r
                case x196y => (intro w hSw; (try dsimp only at hSw); go_simp; try with_reducible rfl)
                try simp only [Act.put, List.setIfInBounds_toArray, List.set_cons_zero, List.set_cons_succ]
                refine wpH_take (i := 9) (some 97) (v := ?x197v) rfl (by kernel_rfl) (by kernel_rfl) (by kernel_rfl) rfl (fun _ _ _ h => h) (Or.inl ⟨by rfl, ?x197y⟩) hHeld ?x197r
                case x197y => (intro w hSw; (try dsimp only at hSw); go_simp; try with_reducible rfl)
                try simp only [Act.put, List.setIfInBounds_toArray, List.set_cons_zero, List.set_cons_succ]
                refine wpH_take (i := 10) (some 98) (v := ?x198v) rfl (by kernel_rfl) (by kernel_rfl) (by kernel_rfl) rfl (fun _ _ _ h => h) (Or.inl ⟨by rfl, ?x198y⟩) hHeld ?x198r
                case x198y => (intro w hSw; (try dsimp only at hSw); go_simp; try with_reducible rfl)
                try simp only [Act.put, List.setIfInBounds_toArray, List.set_cons_zero, List.set_cons_succ]
                refine wpH_take (i := 11) (some 99) (v := ?x199v) rfl (by kernel_rfl) (by kernel_rfl) (by kernel_rfl) rfl (fun _ _ _ h => h) (Or.inl ⟨by rfl, ?x199y⟩) hHeld ?x199r
                case x199y => (intro w hSw; (try dsimp only at hSw); go_simp; try with_reducible rfl)
                try simp only [Act.put, List.setIfInBounds_toArray, List.set_cons_zero, List.set_cons_succ]
                refine wpH_take (i := 12) (some 100) (v := ?x200v) rfl (by kernel_rfl) (by kernel_rfl) (by kernel_rfl) rfl (fun _ _ _ h => h) (Or.inl ⟨by rfl, ?x200y⟩) hHeld ?x200r
                case x200y => (intro w hSw; (try dsimp only at hSw); go_simp; try with_reducible rfl)
                try simp only [Act.put, List.setIfInBounds_toArray, List.set_cons_zero, List.set_cons_succ]
                refine wpH_take (i := 13) (some 101) (v := ?x201v) rfl (by kernel_rfl) (by kernel_rfl) (by kernel_rfl) rfl (fun _ _ _ h => h) (Or.inl ⟨by rfl, ?x201y⟩) hHeld ?x201r
                case x201y => (intro w hSw; (try dsimp only at hSw); go_simp; try with_reducible rfl)
                try simp only [Act.put, List.setIfInBounds_toArray, List.set_cons_zero, List.set_cons_succ]
                refine wpH_take (i := 14) (some 102) (v := ?x202v) rfl (by kernel_rfl) (by kernel_rfl) (by kernel_rfl) rfl (fun _ _ _ h => h) (Or.inl ⟨by rfl, ?x202y⟩) hHeld ?x202r
                case x202y => (intro w hSw; (try dsimp only at hSw); go_simp; try with_reducible rfl)
                try simp only [Act.put, List.setIfInBounds_toArray, List.set_cons_zero, List.set_cons_succ]
                refine wpH_take (i := 15) (some 103) (v := ?x203v) rfl (by kernel_rfl) (by kernel_rfl) (by kernel_rfl) rfl (fun _ _ _ h => h) (Or.inl ⟨by rfl, ?x203y⟩) hHeld ?x203r
                case x203y => (intro w hSw; (try dsimp only at hSw); go_simp; try with_reducible rfl)
                try simp only [Act.put, List.setIfInBounds_toArray, List.set_cons_zero, List.set_cons_succ]
                refine wpH_take (i := 16) (some 104) (v := ?x204v) rfl (by kernel_rfl) (by kernel_rfl) (by kernel_rfl) rfl (fun _ _ _ h => h) (Or.inl ⟨by rfl, ?x204y⟩) hHeld ?x204r
                case x204y => (intro w hSw; (try dsimp only at hSw); go_simp; try with_reducible rfl)
                try simp only [Act.put, List.setIfInBounds_toArray, List.set_cons_zero, List.set_cons_succ]
                refine wpH_take (i := 17) (some 105) (v := ?x205v) rfl (by kernel_rfl) (by kernel_rfl) (by kernel_rfl) rfl (fun _ _ _ h => h) (Or.inl ⟨by rfl, ?x205y⟩) hHeld ?x205r
                case x205y => (intro w hSw; (try dsimp only at hSw); go_simp; try with_reducible rfl)
                try simp only [Act.put, List.setIfInBounds_toArray, List.set_cons_zero, List.set_cons_succ]
                refine wpH_take (i := 18) (some 106) (v := ?x206v) rfl (by kernel_rfl) (by kernel_rfl) (by kernel_rfl) rfl (fun _ _ _ h => h) (Or.inl ⟨by rfl, ?x206y⟩) hHeld ?x206r
                case x206y => (intro w hSw; (try dsimp only at hSw); go_simp; try with_reducible rfl)
                try simp only [Act.put, List.setIfInBounds_toArray, List.set_cons_zero, List.set_cons_succ]
                refine wpH_take (i := 19) (some 107) (v := ?x207v) rfl (by kernel_rfl) (by kernel_rfl) (by kernel_rfl) rfl (fun _ _ _ h => h) (Or.inl ⟨by rfl, ?x207y⟩) hHeld ?x207r
                case x207y => (intro w hSw; (try dsimp only at hSw); go_simp; try with_reducible rfl)
                try simp only [Act.put, List.setIfInBounds_toArray, List.set_cons_zero, List.set_cons_succ]
                refine wpH_take (i := 20) (some 108) (v := ?x208v) rfl (by kernel_rfl) (by kernel_rfl) (by kernel_rfl) rfl (fun _ _ _ h => h) (Or.inl ⟨by rfl, ?x208y⟩) hHeld ?x208r
                case x208y => (intro w hSw; (try dsimp only at hSw); go_simp; try with_reducible rfl)
                try simp only [Act.put, List.setIfInBounds_toArray, List.set_cons_zero, List.set_cons_succ]
                refine wpH_take (i := 21) (some 109) (v := ?x209v) rfl (by kernel_rfl) (by kernel_rfl) (by kernel_rfl) rfl (fun _ _ _ h => h) (Or.inl ⟨by rfl, ?x209y⟩) hHeld ?x209r
                case x209y => (intro w hSw; (try dsimp only at hSw); go_simp; try with_reducible rfl)
                try simp only [Act.put, List.setIfInBounds_toArray, List.set_cons_zero, List.set_cons_succ]
                refine wpH_take (i := 22) (some 110) (v := ?x210v) rfl (by kernel_rfl) (by kernel_rfl) (by kernel_rfl) rfl (fun _ _ _ h => h) (Or.inl ⟨by rfl, ?x210y⟩) hHeld ?x210r
                case x210y => (intro w hSw; (try dsimp only at hSw); go_simp; try with_reducible rfl)
                try simp only [Act.put, List.setIfInBounds_toArray, List.set_cons_zero, List.set_cons_succ]
                refine wpH_take (i := 23) (some 111) (v := ?x211v) rfl (by kernel_rfl) (by kernel_rfl) (by kernel_rfl) rfl (fun _ _ _ h => h) (Or.inl ⟨by rfl, ?x211y⟩) hHeld ?x211r
                case x211y => (intro w hSw; (try dsimp only at hSw); go_simp; try with_reducible rfl)
                try simp only [Act.put, List.setIfInBounds_toArray, List.set_cons_zero, List.set_cons_succ]
                refine wpH_take (i := 24) (some 112) (v := ?x212v) rfl (by kernel_rfl) (by kernel_rfl) (by kernel_rfl) rfl (fun _ _ _ h => h) (Or.inl ⟨by rfl, ?x212y⟩) hHeld ?x212r
                case x212y => (intro w hSw; (try dsimp only at hSw); go_simp; try with_reducible rfl)
                try simp only [Act.put, List.setIfInBounds_toArray, List.set_cons_zero, List.set_cons_succ]
                refine wpH_take (i := 25) (some 113) (v := ?x213v) rfl (by kernel_rfl) (by kernel_rfl) (by kernel_rfl) rfl (fun _ _ _ h => h) (Or.inl ⟨by rfl, ?x213y⟩) hHeld ?x213r
                case x213y => (intro w hSw; (try dsimp only at hSw); go_simp; try with_reducible rfl)
                try simp only [Act.put, List.setIfInBounds_toArray, List.set_cons_zero, List.set_cons_succ]
                refine wpH_take (i := 26) (some 114) (v := ?x214v) rfl (by kernel_rfl) (by kernel_rfl) (by kernel_rfl) rfl (fun _ _ _ h => h) (Or.inl ⟨by rfl, ?x214y⟩) hHeld ?x214r
                case x214y => (intro w hSw; (try dsimp only at hSw); go_simp; try with_reducible rfl)
                try simp only [Act.put, List.setIfInBounds_toArray, List.set_cons_zero, List.set_cons_succ]
                refine wpH_take (i := 27) (some 115) (v := ?x215v) rfl (by kernel_rfl) (by kernel_rfl) (by kernel_rfl) rfl (fun _ _ _ h => h) (Or.inl ⟨by rfl, ?x215y⟩) hHeld ?x215r
                case x215y => (intro w hSw; (try dsimp only at hSw); go_simp; try with_reducible rfl)
                try simp only [Act.put, List.setIfInBounds_toArray, List.set_cons_zero, List.set_cons_succ]
                refine wpH_take (i := 28) (some 116) (v := ?x216v) rfl (by kernel_rfl) (by kernel_rfl) (by kernel_rfl) rfl (fun _ _ _ h => h) (Or.inl ⟨by rfl, ?x216y⟩) hHeld ?x216r
                case x216y => (intro w hSw; (try dsimp only at hSw); go_simp; try with_reducible rfl)
                try simp only [Act.put, List.setIfInBounds_toArray, List.set_cons_zero, List.set_cons_succ]
                refine wpH_take (i := 29) (some 117) (v := ?x217v) rfl (by kernel_rfl) (by kernel_rfl) (by kernel_rfl) rfl (fun _ _ _ h => h) (Or.inl ⟨by rfl, ?x217y⟩) hHeld ?x217r
                case x217y => (intro w hSw; (try dsimp only at hSw); go_simp; try with_reducible rfl)
                try simp only [Act.put, List.setIfInBounds_toArray, List.set_cons_zero, List.set_cons_succ]
                refine wpAnyH_done (by kernel_rfl) ?_ _
                go_wp2_with fail
                go_ret
                exact ⟨ret_bool (by rw [HRES.out, HT.out, HS.out, H3.out]; simp), BB1.out.trans (BC.out.mono BB1.out.size)⟩
              · have k5 : decide (d.s ≤ pv.s) = false := decide_eq_false h5
                have H3 := Lib.hid (show last < d.s by have := HL.out; omega)
                clear h5
                go_wp2_with fail
                refine region_H 30 #[false, false, false, false, false, false, false, false, false, false, false, false, false, false, false, false, false, false, false, false, false, false, false, false, false, false, false, false, false, false] (by kernel_rfl) (by kernel_rfl) (fun w' => w'.cell? ⟨w.heap.size, 1, none⟩ = some (.slice (some ⟨b, off, none⟩) gs.length cg) ∧ w'.cell? ⟨w.heap.size + 1, 0, none⟩ = some (.int .i64 N) ∧ w'.cell? ⟨w.heap.size + 1, 1, none⟩ = some (.int .i64 (m : Int)) ∧ w'.cell? ⟨b, off + i * 5, none⟩ = some (.int .i64 d.s) ∧ w'.cell? ⟨b, off + i * 5 + 1, none⟩ = some (.int .i64 d.o) ∧ w'.cell? ⟨b, off + i * 5 + 2, none⟩ = some (.int .i64 d.p) ∧ w'.cell? ⟨b, off + i * 5 + 3, none⟩ = some (.int .i64 d.m) ∧ w'.cell? ⟨b, off + i * 5 + 4, none⟩ = some (.int .i64 d.u) ∧ w'.cell? ⟨b, off + n * 5, none⟩ = some (.int .i64 pv.s)) (by kernel_rfl) ?x218s (fun hHeld => ?x218r)
                case x218s => exact ⟨t1, y0, y1, d0, d1, d2, d3, d4, dp⟩
                refine wpH_take (i := 0) (some 88) (v := ?x219v) rfl (by kernel_rfl) (by kernel_rfl) (by kernel_rfl) rfl (fun _ _ _ h => h) (Or.inl ⟨by rfl, ?x219y⟩) hHeld ?x219r
                case x219y => (intro w hSw; (try dsimp only at hSw); go_simp; try with_reducible rfl)
                try simp only [Act.put, List.setIfInBounds_toArray, List.set_cons_zero, List.set_cons_succ]
                refine wpH_take (i := 1) (some 89) (v := ?x220v) rfl (by kernel_rfl) (by kernel_rfl) (by kernel_rfl) rfl (fun _ _ _ h => h) (Or.inl ⟨by rfl, ?x220y⟩) hHeld ?x220r
                case x220y => (intro w hSw; (try dsimp only at hSw); go_simp; try with_reducible rfl)
                try simp only [Act.put, List.setIfInBounds_toArray, List.set_cons_zero, List.set_cons_succ]
                refine wpH_take (i := 2) (some 90) (v := ?x221v) rfl (by kernel_rfl) (by kernel_rfl) (by kernel_rfl) rfl (fun _ _ _ h => h) (Or.inl ⟨by rfl, ?x221y⟩) hHeld ?x221r
                case x221y => (intro w hSw; (try dsimp only at hSw); go_simp; try with_reducible rfl)
                try simp only [Act.put, List.setIfInBounds_toArray, List.set_cons_zero, List.set_cons_succ]
                refine wpH_take (i := 3) (some 91) (v := ?x222v) rfl (by kernel_rfl) (by kernel_rfl) (by kernel_rfl) rfl (fun _ _ _ h => h) (Or.inl ⟨by rfl, ?x222y⟩) hHeld ?x222r
                case x222y => (intro w hSw; (try dsimp only at hSw); go_simp; try with_reducible rfl)
                try simp only [Act.put, List.setIfInBounds_toArray, List.set_cons_zero, List.set_cons_succ]
                refine wpH_take (i := 4) (some 92) (v := ?x223v) rfl (by kernel_rfl) (by kernel_rfl) (by kernel_rfl) rfl (fun _ _ _ h => h) (Or.inl ⟨by rfl, ?x223y⟩) hHeld ?x223r
                case x223y => (intro w hSw; (try dsimp only at hSw); go_simp; try with_reducible rfl)
                try simp only [Act.put, List.setIfInBounds_toArray, List.set_cons_zero, List.set_cons_succ]
                refine wpH_take (i := 5) (some 93) (v := ?x224v) rfl (by kernel_rfl) (by kernel_rfl) (by kernel_rfl) rfl (fun _ _ _ h => h) (Or.inl ⟨by rfl, ?x224y⟩) hHeld ?x224r
                case x224y => (intro w hSw; (try dsimp only at hSw); go_simp; try with_reducible rfl)
                try simp only [Act.put, List.setIfInBounds_toArray, List.set_cons_zero, List.set_cons_succ]
                refine wpH_one (i := 6) (by kernel_rfl) rfl (fun K hK => ?_)
                rw [if_pos (by rfl)]
                go_simp
                refine (rgval_lit d N (m : Int) true _ HV.out).mono ?_
                rintro e w3 ⟨rfl, hb⟩
                have BC := Lib.hid (BE.out.drew.trans (hb.mono BE.out.size))
                have OA3 := Lib.hid (OA.out.drew.below hb)
                have oT3 := Lib.hid (oTr.out.drew.below hb)
                have oL3 := Lib.hid (oLr.out.drew.below hb)
                obtain ⟨u0, u1, u2, fT3, zT3⟩ := own3 oT3.out
                obtain ⟨v0, v1, fL3, zL3⟩ := own2 oL3.out
                have e0 : w3.cell? ⟨b, off + i * 5, none⟩ = some (.int .i64 d.s) := (hb.cell (p := ⟨b, off + i * 5, none⟩) hbl).trans d0
                have e1 : w3.cell? ⟨b, off + i * 5 + 1, none⟩ = some (.int .i64 d.o) := (hb.cell (p := ⟨b, off + i * 5 + 1, none⟩) hbl).trans d1
                have e2 : w3.cell? ⟨b, off + i * 5 + 2, none⟩ = some (.int .i64 d.p) := (hb.cell (p := ⟨b, off + i * 5 + 2, none⟩) hbl).trans d2
                have e3 : w3.cell? ⟨b, off + i * 5 + 3, none⟩ = some (.int .i64 d.m) := (hb.cell (p := ⟨b, off + i * 5 + 3, none⟩) hbl).trans d3
                have e4 : w3.cell? ⟨b, off + i * 5 + 4, none⟩ = some (.int .i64 d.u) := (hb.cell (p := ⟨b, off + i * 5 + 4, none⟩) hbl).trans d4
                have ep : w3.cell? ⟨b, off + n * 5, none⟩ = some (.int .i64 pv.s) := (hb.cell (p := ⟨b, off + n * 5, none⟩) hbl).trans dp
                clear hb
                refine hK.out _ _ (⟨u1, v0, v1, e0, e1, e2, e3, e4, ep⟩) ?_
                clear hK K hHeld
                intro hHeld
                try simp only [Act.put, List.setIfInBounds_toArray, List.set_cons_zero, List.set_cons_succ]
                refine wpH_take (i := 7) (some 95) (v := ?x226v) rfl (by kernel_rfl) (by kernel_rfl) (by kernel_rfl) rfl (fun _ _ _ h => h) (Or.inl ⟨by rfl, ?x226y⟩) hHeld ?x226r
                case x226y => (intro w hSw; (try dsimp only at hSw); go_simp; try with_reducible rfl)
                try simp only [Act.put, List.setIfInBounds_toArray, List.set_cons_zero, List.set_cons_succ]
                refine wpH_take (i := 8) (some 96) (v := ?x227v) rfl (by kernel_rfl) (by kernel_rfl) (by kernel_rfl) rfl (fun _ _ _ h => h) (Or.inl ⟨by rfl, ?x227y⟩) hHeld ?x227r
                case x227y => (intro w hSw; (try dsimp only at hSw); go_simp; try with_reducible rfl)
                try simp only [Act.put, List.setIfInBounds_toArray, List.set_cons_zero, List.set_cons_succ]
                refine wpH_take (i := 9) (some 97) (v := ?x228v) rfl (by kernel_rfl) (by kernel_rfl) (by kernel_rfl) rfl (fun _ _ _ h => h) (Or.inl ⟨by rfl, ?x228y⟩) hHeld ?x228r
                case x228y => (intro w hSw; (try dsimp only at hSw); go_simp; try with_reducible rfl)
                try simp only [Act.put, List.setIfInBounds_toArray, List.set_cons_zero, List.set_cons_succ]
                refine wpH_take (i := 10) (some 98) (v := ?x229v) rfl (by kernel_rfl) (by kernel_rfl) (by kernel_rfl) rfl (fun _ _ _ h => h) (Or.inl ⟨by rfl, ?x229y⟩) hHeld ?x229r
                case x229y => (intro w hSw; (try dsimp only at hSw); go_simp; try with_reducible rfl)
                try simp only [Act.put, List.setIfInBounds_toArray, List.set_cons_zero, List.set_cons_succ]
                refine wpH_take (i := 11) (some 99) (v := ?x230v) rfl (by kernel_rfl) (by kernel_rfl) (by kernel_rfl) rfl (fun _ _ _ h => h) (Or.inl ⟨by rfl, ?x230y⟩) hHeld ?x230r
                case x230y => (intro w hSw; (try dsimp only at hSw); go_simp; try with_reducible rfl)
                try simp only [Act.put, List.setIfInBounds_toArray, List.set_cons_zero, List.set_cons_succ]
                refine wpH_take (i := 12) (some 100) (v := ?x231v) rfl (by kernel_rfl) (by kernel_rfl) (by kernel_rfl) rfl (fun _ _ _ h => h) (Or.inl ⟨by rfl, ?x231y⟩) hHeld ?x231r
                case x231y => (intro w hSw; (try dsimp only at hSw); go_simp; try with_reducible rfl)
                try simp only [Act.put, List.setIfInBounds_toArray, List.set_cons_zero, List.set_cons_succ]
                refine wpH_take (i := 13) (some 101) (v := ?x232v) rfl (by kernel_rfl) (by kernel_rfl) (by kernel_rfl) rfl (fun _ _ _ h => h) (Or.inl ⟨by rfl, ?x232y⟩) hHeld ?x232r
                case x232y => (intro w hSw; (try dsimp only at hSw); go_simp; try with_reducible rfl)
                try simp only [Act.put, List.setIfInBounds_toArray, List.set_cons_zero, List.set_cons_succ]
                refine wpH_take (i := 14) (some 102) (v := ?x233v) rfl (by kernel_rfl) (by kernel_rfl) (by kernel_rfl) rfl (fun _ _ _ h => h) (Or.inl ⟨by rfl, ?x233y⟩) hHeld ?x233r
                case x233y => (intro w hSw; (try dsimp only at hSw); go_simp; try with_reducible rfl)
                try simp only [Act.put, List.setIfInBounds_toArray, List.set_cons_zero, List.set_cons_succ]
                refine wpH_take (i := 15) (some 103) (v := ?x234v) rfl (by kernel_rfl) (by kernel_rfl) (by kernel_rfl) rfl (fun _ _ _ h => h) (Or.inl ⟨by rfl, ?x234y⟩) hHeld ?x234r
                case x234y => (intro w hSw; (try dsimp only at hSw); go_simp; try with_reducible rfl)
                try simp only [Act.put, List.setIfInBounds_toArray, List.set_cons_zero, List.set_cons_succ]
                refine wpH_take (i := 16) (some 104) (v := ?x235v) rfl (by kernel_rfl) (by kernel_rfl) (by kernel_rfl) rfl (fun _ _ _ h => h) (Or.inl ⟨by rfl, ?x235y⟩) hHeld ?x235r
                case x235y => (intro w hSw; (try dsimp only at hSw); go_simp; try with_reducible rfl)
                try simp only [Act.put, List.setIfInBounds_toArray, List.set_cons_zero, List.set_cons_succ]
                refine wpH_take (i := 17) (some 105) (v := ?x236v) rfl (by kernel_rfl) (by kernel_rfl) (by kernel_rfl) rfl (fun _ _ _ h => h) (Or.inl ⟨by rfl, ?x236y⟩) hHeld ?x236r
                case x236y => (intro w hSw; (try dsimp only at hSw); go_simp; try with_reducible rfl)
                try simp only [Act.put, List.setIfInBounds_toArray, List.set_cons_zero, List.set_cons_succ]
                refine wpH_take (i := 18) (some 106) (v := ?x237v) rfl (by kernel_rfl) (by kernel_rfl) (by kernel_rfl) rfl (fun _ _ _ h => h) (Or.inl ⟨by rfl, ?x237y⟩) hHeld ?x237r
                case x237y => (intro w hSw; (try dsimp only at hSw); go_simp; try with_reducible rfl)
                try simp only [Act.put, List.setIfInBounds_toArray, List.set_cons_zero, List.set_cons_succ]
                refine wpH_take (i := 19) (some 107) (v := ?x238v) rfl (by kernel_rfl) (by kernel_rfl) (by kernel_rfl) rfl (fun _ _ _ h => h) (Or.inl ⟨by rfl, ?x238y⟩) hHeld ?x238r
                case x238y => (intro w hSw; (try dsimp only at hSw); go_simp; try with_reducible rfl)
                try simp only [Act.put, List.setIfInBounds_toArray, List.set_cons_zero, List.set_cons_succ]
                refine wpH_take (i := 20) (some 108) (v := ?x239v) rfl (by kernel_rfl) (by kernel_rfl) (by kernel_rfl) rfl (fun _ _ _ h => h) (Or.inl ⟨by rfl, ?x239y⟩) hHeld ?x239r
                case x239y => (intro w hSw; (try dsimp only at hSw); go_simp; try with_reducible rfl)
                try simp only [Act.put, List.setIfInBounds_toArray, List.set_cons_zero, List.set_cons_succ]
                refine wpH_take (i := 21) (some 109) (v := ?x240v) rfl (by kernel_rfl) (by kernel_rfl) (by kernel_rfl) rfl (fun _ _ _ h => h) (Or.inl ⟨by rfl, ?x240y⟩) hHeld ?x240r
                case x240y => (intro w hSw; (try dsimp only at hSw); go_simp; try with_reducible rfl)
                try simp only [Act.put, List.setIfInBounds_toArray, List.set_cons_zero, List.set_cons_succ]
                refine wpH_take (i := 22) (some 110) (v := ?x241v) rfl (by kernel_rfl) (by kernel_rfl) (by kernel_rfl) rfl (fun _ _ _ h => h) (Or.inl ⟨by rfl, ?x241y⟩) hHeld ?x241r
                case x241y => (intro w hSw; (try dsimp only at hSw); go_simp; try with_reducible rfl)
                try simp only [Act.put, List.setIfInBounds_toArray, List.set_cons_zero, List.set_cons_succ]
                refine wpH_take (i := 23) (some 111) (v := ?x242v) rfl (by kernel_rfl) (by kernel_rfl) (by kernel_rfl) rfl (fun _ _ _ h => h) (Or.inl ⟨by rfl, ?x242y⟩) hHeld ?x242r
                case x242y => (intro w hSw; (try dsimp only at hSw); go_simp; try with_reducible rfl)
                try simp only [Act.put, List.setIfInBounds_toArray, List.set_cons_zero, List.set_cons_succ]
                refine wpH_take (i := 24) (some 112) (v := ?x243v) rfl (by kernel_rfl) (by kernel_rfl) (by kernel_rfl) rfl (fun _ _ _ h => h) (Or.inl ⟨by rfl, ?x243y⟩) hHeld ?x243r
                case x243y => (intro w hSw; (try dsimp only at hSw); go_simp; try with_reducible rfl)
                try simp only [Act.put, List.setIfInBounds_toArray, List.set_cons_zero, List.set_cons_succ]
                refine wpH_take (i := 25) (some 113) (v := ?x244v) rfl (by kernel_rfl) (by kernel_rfl) (by kernel_rfl) rfl (fun _ _ _ h => h) (Or.inl ⟨by rfl, ?x244y⟩) hHeld ?x244r
                case x244y => (intro w hSw; (try dsimp only at hSw); go_simp; try with_reducible rfl)
                try simp only [Act.put, List.setIfInBounds_toArray, List.set_cons_zero, List.set_cons_succ]
                refine wpH_take (i := 26) (some 114) (v := ?x245v) rfl (by kernel_rfl) (by kernel_rfl) (by kernel_rfl) rfl (fun _ _ _ h => h) (Or.inl ⟨by rfl, ?x245y⟩) hHeld ?x245r
                case x245y => (intro w hSw; (try dsimp only at hSw); go_simp; try with_reducible rfl)
                try simp only [Act.put, List.setIfInBounds_toArray, List.set_cons_zero, List.set_cons_succ]
                refine wpH_take (i := 27) (some 115) (v := ?x246v) rfl (by kernel_rfl) (by kernel_rfl) (by kernel_rfl) rfl (fun _ _ _ h => h) (Or.inl ⟨by rfl, ?x246y⟩) hHeld ?x246r
                case x246y => (intro w hSw; (try dsimp only at hSw); go_simp; try with_reducible rfl)
                try simp only [Act.put, List.setIfInBounds_toArray, List.set_cons_zero, List.set_cons_succ]
                refine wpH_take (i := 28) (some 116) (v := ?x247v) rfl (by kernel_rfl) (by kernel_rfl) (by kernel_rfl) rfl (fun _ _ _ h => h) (Or.inl ⟨by rfl, ?x247y⟩) hHeld ?x247r
                case x247y => (intro w hSw; (try dsimp only at hSw); go_simp; try with_reducible rfl)
                try simp only [Act.put, List.setIfInBounds_toArray, List.set_cons_zero, List.set_cons_succ]
                refine wpH_take (i := 29) (some 117) (v := ?x248v) rfl (by kernel_rfl) (by kernel_rfl) (by kernel_rfl) rfl (fun _ _ _ h => h) (Or.inl ⟨by rfl, ?x248y⟩) hHeld ?x248r
                case x248y => (intro w hSw; (try dsimp only at hSw); go_simp; try with_reducible rfl)
                try simp only [Act.put, List.setIfInBounds_toArray, List.set_cons_zero, List.set_cons_succ]
                refine wpAnyH_done (by kernel_rfl) ?_ _
                clear wm k3 k4 k5 ep dp m0 m1
                rw [HKX.out] at e0
                have x0 : (0 : Int) ≤ (kx : Int) := Int.natCast_nonneg _
                have x1 : (kx : Int) < (m : Int) := by omega
                have cA : w3.cell? ⟨w1.heap.size, kx, none⟩ = some (.int .i64 ((us.map Us.s ++ (gs.take i).map Gr.s).count (kx : Int) : Nat)) := OA3.out.cell (cntV_at hkm)
                have fA := OA3.out.frozen
                have hc0 : (us.map Us.s ++ (gs.take i).map Gr.s).count (kx : Int) ≤ 210 := by
                  have h := List.count_le_length (a := (kx : Int)) (l := us.map Us.s ++ (gs.take i).map Gr.s)
                  simp only [List.length_append, List.length_map, List.length_take] at h
                  omega
                obtain ⟨cn, hcn⟩ : ∃ cn, (us.map Us.s ++ (gs.take i).map Gr.s).count (kx : Int) = cn := ⟨_, rfl⟩
                rw [hcn] at cA hc0
                have HCN := Lib.hid hcn
                have hc1 : (0 : Int) ≤ (cn : Int) := Int.natCast_nonneg _
                have hc2 : (cn : Int) ≤ 210 := by omega
                clear hcn hc0 hs0 hs1
                go_wp2_with fail
                go_roundw
                case rel =>
                  have h9 := OA3.out.set kx (.int .i64 ((cn : Int) + 1))
                  rw [← HCN.out, cntV_set hkm] at h9
                  refine ⟨i + 1, d.s, by omega, by go_num, by rw [HT.out, HS.out, HV.out, decide_eq_true (show last < d.s by exact H3.out)]; simp, fun h => by omega, fun n h => ⟨d, by obtain rfl : n = i := (by omega); exact HD.out, rfl⟩, ?_, ?_, belowSet' BC.out _ _ _ (Nat.le_refl _)⟩
                  · intro z hz
                    rw [take_snocG HD.out, List.map_append, ← List.append_assoc] at hz
                    rcases List.mem_append.1 hz with hz | hz
                    · exact HRR.out z (by simpa using hz)
                    · simp only [List.map_cons, List.map_nil, List.mem_singleton] at hz
                      rw [hz]; have := HKX.out; exact ⟨by omega, by omega⟩
                  · rw [take_snocG HD.out, List.map_append, ← List.append_assoc, List.map_cons, List.map_nil, HKX.out]
                    rw [HCN.out] at h9
                    exact h9
                case measure => simp [intOf]; omega
        · obtain rfl : i = gs.length := by omega
          have HsndG := Lib.hid (show sndG N (m : Int) gs = true by rw [HT.out]; exact sndF_end (Nat.le_refl _))
          have HRG := HRR
          rw [List.take_length] at HRG OA
          rw [HsndG.out, Bool.true_and] at HRES
          clear t0 t1 t2 fT zT y0 y1 fL zL oTr oLr
          have oTr := Lib.hid (OT1.out.below BE.out)
          obtain ⟨t0, t1, t2, fT, zT⟩ := own3 oTr.out
          go_wp2_with fail
          go_loopw [8] (fun ii wr => ∃ (i : Nat) (last : Int), i ≤ ks.length ∧ ii = .int .i64 i ∧ sndA N (m : Int) ks = sndF (akB N (m : Int)) Ak.s last (ks.drop i) ∧ (i = 0 → last = -1) ∧ (∀ n, i = n + 1 → ∃ pv, ks[n]? = some pv ∧ Ak.s pv = last) ∧ (∀ z ∈ us.map Us.s ++ gs.map Gr.s ++ (ks.take i).map Ak.s, 0 ≤ z ∧ z < (m : Int)) ∧ Own wr w1.heap.size (cntV m (us.map Us.s ++ gs.map Gr.s ++ (ks.take i).map Ak.s)) 3 ∧ Below w1.heap.size w1 wr) (fun i _ => ks.length - (intOf i).toNat)
          case atStart => exact ⟨0, -1, by omega, rfl, rfl, fun _ => rfl, fun n h => by omega, by simpa using HRG.out, by simpa using OA.out, BE.out⟩
          case round =>
            clear hlt hi j0 BE OA HT HZ HSS HRR
            obtain ⟨i, last, hi, rfl, hT, hz, hs, hr, hoa, bel⟩ := hrel
            have HT := Lib.hid hT
            have HZ := Lib.hid hz
            have HSS := Lib.hid hs
            have HRR := Lib.hid hr
            have OA := Lib.hid hoa
            have BE := Lib.hid bel
            clear hT hz hs hr hoa bel
            have j0 : (0 : Int) ≤ (i : Int) := Int.natCast_nonneg _
            have oTr := Lib.hid (OT1.out.below BE.out)
            have oLr := Lib.hid (OL1.out.below BE.out)
            obtain ⟨t0, t1, t2, fT, zT⟩ := own3 oTr.out
            obtain ⟨y0, y1, fL, zL⟩ := own2 oLr.out
            by_cases hlt : i < ks.length
            · obtain ⟨d, b, off, hd, rfl, hbl, _, d0, d1, d2⟩ := SA1.out.atA BE.out hlt
              have j1 : (i : Int) < (ks.length : Int) := by omega
              have HD := Lib.hid hd
              have HS := Lib.hid (sndF_step (ok := akB N (m : Int)) (sl := Ak.s) (last := last) hd)
              clear hd
              cases hv : akB N (m : Int) d with
              | false =>
                have HV := Lib.hid hv
                clear hv
                go_wp2_with fail
                refine region_H 37 #[false, false, false, false, false, false, false, false, false, false, false, false, false, false, false, false, false, false, false, false, false, false, false, false, false, false, false, false, false, false, false, false, false, false, false, false, false] (by kernel_rfl) (by kernel_rfl) (fun w' => w'.cell? ⟨w.heap.size, 2, none⟩ = some (.slice (some ⟨b, off, none⟩) ks.length ca) ∧ w'.cell? ⟨w.heap.size + 1, 0, none⟩ = some (.int .i64 N) ∧ w'.cell? ⟨w.heap.size + 1, 1, none⟩ = some (.int .i64 (m : Int)) ∧ w'.cell? ⟨b, off + i * 3, none⟩ = some (.int .i64 d.s) ∧ w'.cell? ⟨b, off + i * 3 + 1, none⟩ = some (.int .i64 d.o) ∧ w'.cell? ⟨b, off + i * 3 + 2, none⟩ = some (.int .i64 d.p)) (by kernel_rfl) ?x249s (fun hHeld => ?x249r)
                case x249s => exact ⟨t2, y0, y1, d0, d1, d2⟩
                refine wpH_take (i := 0) (some 137) (v := ?x250v) rfl (by kernel_rfl) (by kernel_rfl) (by kernel_rfl) rfl (fun _ _ _ h => h) (Or.inl ⟨by rfl, ?x250y⟩) hHeld ?x250r
                case x250y => (intro w hSw; (try dsimp only at hSw); go_simp; try with_reducible rfl)
                try simp only [Act.put, List.setIfInBounds_toArray, List.set_cons_zero, List.set_cons_succ]
                refine wpH_take (i := 1) (some 138) (v := ?x251v) rfl (by kernel_rfl) (by kernel_rfl) (by kernel_rfl) rfl (fun _ _ _ h => h) (Or.inl ⟨by rfl, ?x251y⟩) hHeld ?x251r
                case x251y => (intro w hSw; (try dsimp only at hSw); go_simp; try with_reducible rfl)
                try simp only [Act.put, List.setIfInBounds_toArray, List.set_cons_zero, List.set_cons_succ]
                refine wpH_take (i := 2) (some 139) (v := ?x252v) rfl (by kernel_rfl) (by kernel_rfl) (by kernel_rfl) rfl (fun _ _ _ h => h) (Or.inl ⟨by rfl, ?x252y⟩) hHeld ?x252r
                case x252y => (intro w hSw; (try dsimp only at hSw); go_simp; try with_reducible rfl)
                try simp only [Act.put, List.setIfInBounds_toArray, List.set_cons_zero, List.set_cons_succ]
                refine wpH_take (i := 3) (some 140) (v := ?x253v) rfl (by kernel_rfl) (by kernel_rfl) (by kernel_rfl) rfl (fun _ _ _ h => h) (Or.inl ⟨by rfl, ?x253y⟩) hHeld ?x253r
                case x253y => (intro w hSw; (try dsimp only at hSw); go_simp; try with_reducible rfl)
                try simp only [Act.put, List.setIfInBounds_toArray, List.set_cons_zero, List.set_cons_succ]
                refine wpH_take (i := 4) (some 141) (v := ?x254v) rfl (by kernel_rfl) (by kernel_rfl) (by kernel_rfl) rfl (fun _ _ _ h => h) (Or.inl ⟨by rfl, ?x254y⟩) hHeld ?x254r
                case x254y => (intro w hSw; (try dsimp only at hSw); go_simp; try with_reducible rfl)
                try simp only [Act.put, List.setIfInBounds_toArray, List.set_cons_zero, List.set_cons_succ]
                refine wpH_take (i := 5) (some 142) (v := ?x255v) rfl (by kernel_rfl) (by kernel_rfl) (by kernel_rfl) rfl (fun _ _ _ h => h) (Or.inl ⟨by rfl, ?x255y⟩) hHeld ?x255r
                case x255y => (intro w hSw; (try dsimp only at hSw); go_simp; try with_reducible rfl)
                try simp only [Act.put, List.setIfInBounds_toArray, List.set_cons_zero, List.set_cons_succ]
                refine wpH_take (i := 6) (some 143) (v := ?x256v) rfl (by kernel_rfl) (by kernel_rfl) (by kernel_rfl) rfl (fun _ _ _ h => h) (Or.inl ⟨by rfl, ?x256y⟩) hHeld ?x256r
                case x256y => (intro w hSw; (try dsimp only at hSw); go_simp; try with_reducible rfl)
                try simp only [Act.put, List.setIfInBounds_toArray, List.set_cons_zero, List.set_cons_succ]
                refine wpH_take (i := 7) (some 144) (v := ?x257v) rfl (by kernel_rfl) (by kernel_rfl) (by kernel_rfl) rfl (fun _ _ _ h => h) (Or.inl ⟨by rfl, ?x257y⟩) hHeld ?x257r
                case x257y => (intro w hSw; (try dsimp only at hSw); go_simp; try with_reducible rfl)
                try simp only [Act.put, List.setIfInBounds_toArray, List.set_cons_zero, List.set_cons_succ]
                refine wpH_take (i := 8) (some 145) (v := ?x258v) rfl (by kernel_rfl) (by kernel_rfl) (by kernel_rfl) rfl (fun _ _ _ h => h) (Or.inl ⟨by rfl, ?x258y⟩) hHeld ?x258r
                case x258y => (intro w hSw; (try dsimp only at hSw); go_simp; try with_reducible rfl)
                try simp only [Act.put, List.setIfInBounds_toArray, List.set_cons_zero, List.set_cons_succ]
                refine wpH_take (i := 9) (some 146) (v := ?x259v) rfl (by kernel_rfl) (by kernel_rfl) (by kernel_rfl) rfl (fun _ _ _ h => h) (Or.inl ⟨by rfl, ?x259y⟩) hHeld ?x259r
                case x259y => (intro w hSw; (try dsimp only at hSw); go_simp; try with_reducible rfl)
                try simp only [Act.put, List.setIfInBounds_toArray, List.set_cons_zero, List.set_cons_succ]
                refine wpH_take (i := 10) (some 147) (v := ?x260v) rfl (by kernel_rfl) (by kernel_rfl) (by kernel_rfl) rfl (fun _ _ _ h => h) (Or.inl ⟨by rfl, ?x260y⟩) hHeld ?x260r
                case x260y => (intro w hSw; (try dsimp only at hSw); go_simp; try with_reducible rfl)
                try simp only [Act.put, List.setIfInBounds_toArray, List.set_cons_zero, List.set_cons_succ]
                refine wpH_take (i := 11) (some 148) (v := ?x261v) rfl (by kernel_rfl) (by kernel_rfl) (by kernel_rfl) rfl (fun _ _ _ h => h) (Or.inl ⟨by rfl, ?x261y⟩) hHeld ?x261r
                case x261y => (intro w hSw; (try dsimp only at hSw); go_simp; try with_reducible rfl)
                try simp only [Act.put, List.setIfInBounds_toArray, List.set_cons_zero, List.set_cons_succ]
                refine wpH_take (i := 12) (some 149) (v := ?x262v) rfl (by kernel_rfl) (by kernel_rfl) (by kernel_rfl) rfl (fun _ _ _ h => h) (Or.inl ⟨by rfl, ?x262y⟩) hHeld ?x262r
                case x262y => (intro w hSw; (try dsimp only at hSw); go_simp; try with_reducible rfl)
                try simp only [Act.put, List.setIfInBounds_toArray, List.set_cons_zero, List.set_cons_succ]
                refine wpH_one (i := 13) (by kernel_rfl) rfl (fun K hK => ?_)
                rw [if_pos (by rfl)]
                go_simp
                refine (rcell_lit d.s d.o d.p N (m : Int) false _ HV.out).mono ?_
                rintro e w3 ⟨rfl, hb⟩
                have BC := Lib.hid (BE.out.drew.trans (hb.mono BE.out.size))
                have OA3 := Lib.hid (OA.out.drew.below hb)
                have oT3 := Lib.hid (oTr.out.drew.below hb)
                have oL3 := Lib.hid (oLr.out.drew.below hb)
                obtain ⟨u0, u1, u2, fT3, zT3⟩ := own3 oT3.out
                obtain ⟨v0, v1, fL3, zL3⟩ := own2 oL3.out
                have e0 : w3.cell? ⟨b, off + i * 3, none⟩ = some (.int .i64 d.s) := (hb.cell (p := ⟨b, off + i * 3, none⟩) hbl).trans d0
                have e1 : w3.cell? ⟨b, off + i * 3 + 1, none⟩ = some (.int .i64 d.o) := (hb.cell (p := ⟨b, off + i * 3 + 1, none⟩) hbl).trans d1
                have e2 : w3.cell? ⟨b, off + i * 3 + 2, none⟩ = some (.int .i64 d.p) := (hb.cell (p := ⟨b, off + i * 3 + 2, none⟩) hbl).trans d2
                clear hb
                refine hK.out _ _ (⟨u2, v0, v1, e0, e1, e2⟩) ?_
                clear hK K hHeld
                intro hHeld
                try simp only [Act.put, List.setIfInBounds_toArray, List.set_cons_zero, List.set_cons_succ]
                refine wpH_take (i := 14) (some 151) (v := ?x264v) rfl (by kernel_rfl) (by kernel_rfl) (by kernel_rfl) rfl (fun _ _ _ h => h) (Or.inl ⟨by rfl, ?x264y⟩) hHeld ?x264r
                case x264y => (intro w hSw; (try dsimp only at hSw); go_simp; try with_reducible rfl)
                try simp only [Act.put, List.setIfInBounds_toArray, List.set_cons_zero, List.set_cons_succ]
                refine wpH_take (i := 15) (some 152) (v := ?x265v) rfl (by kernel_rfl) (by kernel_rfl) (by kernel_rfl) rfl (fun _ _ _ h => h) (Or.inl ⟨by rfl, ?x265y⟩) hHeld ?x265r
                case x265y => (intro w hSw; (try dsimp only at hSw); go_simp; try with_reducible rfl)
                try simp only [Act.put, List.setIfInBounds_toArray, List.set_cons_zero, List.set_cons_succ]
                refine wpH_take (i := 16) (some 153) (v := undef) rfl (by kernel_rfl) (by kernel_rfl) (by kernel_rfl) rfl (fun _ _ _ h => h) (Or.inr ⟨by rfl, rfl⟩) hHeld ?x266r
                try simp only [Act.put, List.setIfInBounds_toArray, List.set_cons_zero, List.set_cons_succ]
                refine wpH_take (i := 17) (some 154) (v := undef) rfl (by kernel_rfl) (by kernel_rfl) (by kernel_rfl) rfl (fun _ _ _ h => h) (Or.inr ⟨by rfl, rfl⟩) hHeld ?x267r
                try simp only [Act.put, List.setIfInBounds_toArray, List.set_cons_zero, List.set_cons_succ]
                refine wpH_take (i := 18) (some 155) (v := undef) rfl (by kernel_rfl) (by kernel_rfl) (by kernel_rfl) rfl (fun _ _ _ h => h) (Or.inr ⟨by rfl, rfl⟩) hHeld ?x268r
                try simp only [Act.put, List.setIfInBounds_toArray, List.set_cons_zero, List.set_cons_succ]
                refine wpH_take (i := 19) (some 156) (v := undef) rfl (by kernel_rfl) (by kernel_rfl) (by kernel_rfl) rfl (fun _ _ _ h => h) (Or.inr ⟨by rfl, rfl⟩) hHeld ?x269r
                try simp only [Act.put, List.setIfInBounds_toArray, List.set_cons_zero, List.set_cons_succ]
                refine wpH_take (i := 20) (some 157) (v := undef) rfl (by kernel_rfl) (by kernel_rfl) (by kernel_rfl) rfl (fun _ _ _ h => h) (Or.inr ⟨by rfl, rfl⟩) hHeld ?x270r
                try simp only [Act.put, List.setIfInBounds_toArray, List.set_cons_zero, List.set_cons_succ]
                refine wpH_take (i := 21) (some 158) (v := undef) rfl (by kernel_rfl) (by kernel_rfl) (by kernel_rfl) rfl (fun _ _ _ h => h) (Or.inr ⟨by rfl, rfl⟩) hHeld ?x271r
                try simp only [Act.put, List.setIfInBounds_toArray, List.set_cons_zero, List.set_cons_succ]
                refine wpH_take (i := 22) (some 159) (v := undef) rfl (by kernel_rfl) (by kernel_rfl) (by kernel_rfl) rfl (fun _ _ _ h => h) (Or.inr ⟨by rfl, rfl⟩) hHeld ?x272r
                try simp only [Act.put, List.setIfInBounds_toArray, List.set_cons_zero, List.set_cons_succ]
                refine wpH_take (i := 23) (some 160) (v := undef) rfl (by kernel_rfl) (by kernel_rfl) (by kernel_rfl) rfl (fun _ _ _ h => h) (Or.inr ⟨by rfl, rfl⟩) hHeld ?x273r
                try simp only [Act.put, List.setIfInBounds_toArray, List.set_cons_zero, List.set_cons_succ]
                refine wpH_take (i := 24) (some 161) (v := undef) rfl (by kernel_rfl) (by kernel_rfl) (by kernel_rfl) rfl (fun _ _ _ h => h) (Or.inr ⟨by rfl, rfl⟩) hHeld ?x274r
                try simp only [Act.put, List.setIfInBounds_toArray, List.set_cons_zero, List.set_cons_succ]
                refine wpH_take (i := 25) (some 162) (v := undef) rfl (by kernel_rfl) (by kernel_rfl) (by kernel_rfl) rfl (fun _ _ _ h => h) (Or.inr ⟨by rfl, rfl⟩) hHeld ?x275r
                try simp only [Act.put, List.setIfInBounds_toArray, List.set_cons_zero, List.set_cons_succ]
                refine wpH_take (i := 26) (some 163) (v := undef) rfl (by kernel_rfl) (by kernel_rfl) (by kernel_rfl) rfl (fun _ _ _ h => h) (Or.inr ⟨by rfl, rfl⟩) hHeld ?x276r
                try simp only [Act.put, List.setIfInBounds_toArray, List.set_cons_zero, List.set_cons_succ]
                refine wpH_take (i := 27) (some 164) (v := undef) rfl (by kernel_rfl) (by kernel_rfl) (by kernel_rfl) rfl (fun _ _ _ h => h) (Or.inr ⟨by rfl, rfl⟩) hHeld ?x277r
                try simp only [Act.put, List.setIfInBounds_toArray, List.set_cons_zero, List.set_cons_succ]
                refine wpH_take (i := 28) (some 165) (v := undef) rfl (by kernel_rfl) (by kernel_rfl) (by kernel_rfl) rfl (fun _ _ _ h => h) (Or.inr ⟨by rfl, rfl⟩) hHeld ?x278r
                try simp only [Act.put, List.setIfInBounds_toArray, List.set_cons_zero, List.set_cons_succ]
                refine wpH_take (i := 29) (some 166) (v := undef) rfl (by kernel_rfl) (by kernel_rfl) (by kernel_rfl) rfl (fun _ _ _ h => h) (Or.inr ⟨by rfl, rfl⟩) hHeld ?x279r
                try simp only [Act.put, List.setIfInBounds_toArray, List.set_cons_zero, List.set_cons_succ]
                refine wpH_take (i := 30) (some 167) (v := undef) rfl (by kernel_rfl) (by kernel_rfl) (by kernel_rfl) rfl (fun _ _ _ h => h) (Or.inr ⟨by rfl, rfl⟩) hHeld ?x280r
                try simp only [Act.put, List.setIfInBounds_toArray, List.set_cons_zero, List.set_cons_succ]
                refine wpH_take (i := 31) (some 168) (v := undef) rfl (by kernel_rfl) (by kernel_rfl) (by kernel_rfl) rfl (fun _ _ _ h => h) (Or.inr ⟨by rfl, rfl⟩) hHeld ?x281r
                try simp only [Act.put, List.setIfInBounds_toArray, List.set_cons_zero, List.set_cons_succ]
                refine wpH_take (i := 32) (some 169) (v := undef) rfl (by kernel_rfl) (by kernel_rfl) (by kernel_rfl) rfl (fun _ _ _ h => h) (Or.inr ⟨by rfl, rfl⟩) hHeld ?x282r
                try simp only [Act.put, List.setIfInBounds_toArray, List.set_cons_zero, List.set_cons_succ]
                refine wpH_take (i := 33) (some 170) (v := undef) rfl (by kernel_rfl) (by kernel_rfl) (by kernel_rfl) rfl (fun _ _ _ h => h) (Or.inr ⟨by rfl, rfl⟩) hHeld ?x283r
                try simp only [Act.put, List.setIfInBounds_toArray, List.set_cons_zero, List.set_cons_succ]
                refine wpH_take (i := 34) (some 171) (v := undef) rfl (by kernel_rfl) (by kernel_rfl) (by kernel_rfl) rfl (fun _ _ _ h => h) (Or.inr ⟨by rfl, rfl⟩) hHeld ?x284r
                try simp only [Act.put, List.setIfInBounds_toArray, List.set_cons_zero, List.set_cons_succ]
                refine wpH_take (i := 35) (some 172) (v := undef) rfl (by kernel_rfl) (by kernel_rfl) (by kernel_rfl) rfl (fun _ _ _ h => h) (Or.inr ⟨by rfl, rfl⟩) hHeld ?x285r
                try simp only [Act.put, List.setIfInBounds_toArray, List.set_cons_zero, List.set_cons_succ]
                refine wpH_take (i := 36) (some 173) (v := ?x286v) rfl (by kernel_rfl) (by kernel_rfl) (by kernel_rfl) rfl (fun _ _ _ h => h) (Or.inl ⟨by rfl, ?x286y⟩) hHeld ?x286r
                case x286y => (intro w hSw; (try dsimp only at hSw); go_simp; try with_reducible rfl)
                try simp only [Act.put, List.setIfInBounds_toArray, List.set_cons_zero, List.set_cons_succ]
                refine wpAnyH_done (by kernel_rfl) ?_ _
                go_wp2_with fail
                go_ret
                exact ⟨ret_bool (by rw [HRES.out, HT.out, HS.out, HV.out]; simp), BB1.out.trans (BC.out.mono BB1.out.size)⟩
              | true =>
                have HV := Lib.hid hv
                have hsl := a_slot hv
                obtain ⟨hs0, hs1⟩ := hsl
                obtain ⟨kx, hkx⟩ : ∃ kx : Nat, d.s = (kx : Int) := ⟨d.s.toNat, by omega⟩
                have HKX := Lib.hid hkx
                have hkm : kx < m := by omega
                clear hv hkx
                by_cases h0 : i = 0
                · have k3 : decide ((0 : Int) < (i : Int)) = false := decide_eq_false (by omega)
                  have k4 : decide (0 < i) = false := decide_eq_false (by omega)
                  have HL0 := Lib.hid (HZ.out h0)
                  have H00 := Lib.hid h0
                  clear h0
                  go_wp2_with fail
                  refine region_H 37 #[false, false, false, false, false, false, false, false, false, false, false, false, false, false, false, false, false, false, false, false, false, false, false, false, false, false, false, false, false, false, false, false, false, false, false, false, false] (by kernel_rfl) (by kernel_rfl) (fun w' => w'.cell? ⟨w.heap.size, 2, none⟩ = some (.slice (some ⟨b, off, none⟩) ks.length ca) ∧ w'.cell? ⟨w.heap.size + 1, 0, none⟩ = some (.int .i64 N) ∧ w'.cell? ⟨w.heap.size + 1, 1, none⟩ = some (.int .i64 (m : Int)) ∧ w'.cell? ⟨b, off + i * 3, none⟩ = some (.int .i64 d.s) ∧ w'.cell? ⟨b, off + i * 3 + 1, none⟩ = some (.int .i64 d.o) ∧ w'.cell? ⟨b, off + i * 3 + 2, none⟩ = some (.int .i64 d.p)) (by kernel_rfl) ?x287s (fun hHeld => ?x287r)
                  case x287s => exact ⟨t2, y0, y1, d0, d1, d2⟩
                  refine wpH_take (i := 0) (some 137) (v := ?x288v) rfl (by kernel_rfl) (by kernel_rfl) (by kernel_rfl) rfl (fun _ _ _ h => h) (Or.inl ⟨by rfl, ?x288y⟩) hHeld ?x288r
                  case x288y => (intro w hSw; (try dsimp only at hSw); go_simp; try with_reducible rfl)
                  try simp only [Act.put, List.setIfInBounds_toArray, List.set_cons_zero, List.set_cons_succ]
                  refine wpH_take (i := 1) (some 138) (v := ?x289v) rfl (by kernel_rfl) (by kernel_rfl) (by kernel_rfl) rfl (fun _ _ _ h => h) (Or.inl ⟨by rfl, ?x289y⟩) hHeld ?x289r
                  case x289y => (intro w hSw; (try dsimp only at hSw); go_simp; try with_reducible rfl)
                  try simp only [Act.put, List.setIfInBounds_toArray, List.set_cons_zero, List.set_cons_succ]
                  refine wpH_take (i := 2) (some 139) (v := ?x290v) rfl (by kernel_rfl) (by kernel_rfl) (by kernel_rfl) rfl (fun _ _ _ h => h) (Or.inl ⟨by rfl, ?x290y⟩) hHeld ?x290r
                  case x290y => (intro w hSw; (try dsimp only at hSw); go_simp; try with_reducible rfl)
                  try simp only [Act.put, List.setIfInBounds_toArray, List.set_cons_zero, List.set_cons_succ]
                  refine wpH_take (i := 3) (some 140) (v := ?x291v) rfl (by kernel_rfl) (by kernel_rfl) (by kernel_rfl) rfl (fun _ _ _ h => h) (Or.inl ⟨by rfl, ?x291y⟩) hHeld ?x291r
                  case x291y => (intro w hSw; (try dsimp only at hSw); go_simp; try with_reducible rfl)
                  try simp only [Act.put, List.setIfInBounds_toArray, List.set_cons_zero, List.set_cons_succ]
                  refine wpH_take (i := 4) (some 141) (v := ?x292v) rfl (by kernel_rfl) (by kernel_rfl) (by kernel_rfl) rfl (fun _ _ _ h => h) (Or.inl ⟨by rfl, ?x292y⟩) hHeld ?x292r
                  case x292y => (intro w hSw; (try dsimp only at hSw); go_simp; try with_reducible rfl)
                  try simp only [Act.put, List.setIfInBounds_toArray, List.set_cons_zero, List.set_cons_succ]
                  refine wpH_take (i := 5) (some 142) (v := ?x293v) rfl (by kernel_rfl) (by kernel_rfl) (by kernel_rfl) rfl (fun _ _ _ h => h) (Or.inl ⟨by rfl, ?x293y⟩) hHeld ?x293r
                  case x293y => (intro w hSw; (try dsimp only at hSw); go_simp; try with_reducible rfl)
                  try simp only [Act.put, List.setIfInBounds_toArray, List.set_cons_zero, List.set_cons_succ]
                  refine wpH_take (i := 6) (some 143) (v := ?x294v) rfl (by kernel_rfl) (by kernel_rfl) (by kernel_rfl) rfl (fun _ _ _ h => h) (Or.inl ⟨by rfl, ?x294y⟩) hHeld ?x294r
                  case x294y => (intro w hSw; (try dsimp only at hSw); go_simp; try with_reducible rfl)
                  try simp only [Act.put, List.setIfInBounds_toArray, List.set_cons_zero, List.set_cons_succ]
                  refine wpH_take (i := 7) (some 144) (v := ?x295v) rfl (by kernel_rfl) (by kernel_rfl) (by kernel_rfl) rfl (fun _ _ _ h => h) (Or.inl ⟨by rfl, ?x295y⟩) hHeld ?x295r
                  case x295y => (intro w hSw; (try dsimp only at hSw); go_simp; try with_reducible rfl)
                  try simp only [Act.put, List.setIfInBounds_toArray, List.set_cons_zero, List.set_cons_succ]
                  refine wpH_take (i := 8) (some 145) (v := ?x296v) rfl (by kernel_rfl) (by kernel_rfl) (by kernel_rfl) rfl (fun _ _ _ h => h) (Or.inl ⟨by rfl, ?x296y⟩) hHeld ?x296r
                  case x296y => (intro w hSw; (try dsimp only at hSw); go_simp; try with_reducible rfl)
                  try simp only [Act.put, List.setIfInBounds_toArray, List.set_cons_zero, List.set_cons_succ]
                  refine wpH_take (i := 9) (some 146) (v := ?x297v) rfl (by kernel_rfl) (by kernel_rfl) (by kernel_rfl) rfl (fun _ _ _ h => h) (Or.inl ⟨by rfl, ?x297y⟩) hHeld ?x297r
                  case x297y => (intro w hSw; (try dsimp only at hSw); go_simp; try with_reducible rfl)
                  try simp only [Act.put, List.setIfInBounds_toArray, List.set_cons_zero, List.set_cons_succ]
                  refine wpH_take (i := 10) (some 147) (v := ?x298v) rfl (by kernel_rfl) (by kernel_rfl) (by kernel_rfl) rfl (fun _ _ _ h => h) (Or.inl ⟨by rfl, ?x298y⟩) hHeld ?x298r
                  case x298y => (intro w hSw; (try dsimp only at hSw); go_simp; try with_reducible rfl)
                  try simp only [Act.put, List.setIfInBounds_toArray, List.set_cons_zero, List.set_cons_succ]
                  refine wpH_take (i := 11) (some 148) (v := ?x299v) rfl (by kernel_rfl) (by kernel_rfl) (by kernel_rfl) rfl (fun _ _ _ h => h) (Or.inl ⟨by rfl, ?x299y⟩) hHeld ?x299r
                  case x299y => (intro w hSw; (try dsimp only at hSw); go_simp; try with_reducible rfl)
                  try simp only [Act.put, List.setIfInBounds_toArray, List.set_cons_zero, List.set_cons_succ]
                  refine wpH_take (i := 12) (some 149) (v := ?x300v) rfl (by kernel_rfl) (by kernel_rfl) (by kernel_rfl) rfl (fun _ _ _ h => h) (Or.inl ⟨by rfl, ?x300y⟩) hHeld ?x300r
                  case x300y => (intro w hSw; (try dsimp only at hSw); go_simp; try with_reducible rfl)
                  try simp only [Act.put, List.setIfInBounds_toArray, List.set_cons_zero, List.set_cons_succ]
                  refine wpH_one (i := 13) (by kernel_rfl) rfl (fun K hK => ?_)
                  rw [if_pos (by rfl)]
                  go_simp
                  refine (rcell_lit d.s d.o d.p N (m : Int) true _ HV.out).mono ?_
                  rintro e w3 ⟨rfl, hb⟩
                  have BC := Lib.hid (BE.out.drew.trans (hb.mono BE.out.size))
                  have OA3 := Lib.hid (OA.out.drew.below hb)
                  have oT3 := Lib.hid (oTr.out.drew.below hb)
                  have oL3 := Lib.hid (oLr.out.drew.below hb)
                  obtain ⟨u0, u1, u2, fT3, zT3⟩ := own3 oT3.out
                  obtain ⟨v0, v1, fL3, zL3⟩ := own2 oL3.out
                  have e0 : w3.cell? ⟨b, off + i * 3, none⟩ = some (.int .i64 d.s) := (hb.cell (p := ⟨b, off + i * 3, none⟩) hbl).trans d0
                  have e1 : w3.cell? ⟨b, off + i * 3 + 1, none⟩ = some (.int .i64 d.o) := (hb.cell (p := ⟨b, off + i * 3 + 1, none⟩) hbl).trans d1
                  have e2 : w3.cell? ⟨b, off + i * 3 + 2, none⟩ = some (.int .i64 d.p) := (hb.cell (p := ⟨b, off + i * 3 + 2, none⟩) hbl).trans d2
                  clear hb
                  refine hK.out _ _ (⟨u2, v0, v1, e0, e1, e2⟩) ?_
                  clear hK K hHeld
                  intro hHeld
                  try simp only [Act.put, List.setIfInBounds_toArray, List.set_cons_zero, List.set_cons_succ]
                  refine wpH_take (i := 14) (some 151) (v := ?x302v) rfl (by kernel_rfl) (by kernel_rfl) (by kernel_rfl) rfl (fun _ _ _ h => h) (Or.inl ⟨by rfl, ?x302y⟩) hHeld ?x302r
                  case x302y => (intro w hSw; (try dsimp only at hSw); go_simp; try with_reducible rfl)
                  try simp only [Act.put, List.setIfInBounds_toArray, List.set_cons_zero, List.set_cons_succ]
                  refine wpH_take (i := 15) (some 152) (v := ?x303v) rfl (by kernel_rfl) (by kernel_rfl) (by kernel_rfl) rfl (fun _ _ _ h => h) (Or.inl ⟨by rfl, ?x303y⟩) hHeld ?x303r
                  case x303y => (intro w hSw; (try dsimp only at hSw); go_simp; try with_reducible rfl)
                  try simp only [Act.put, List.setIfInBounds_toArray, List.set_cons_zero, List.set_cons_succ]
                  refine wpH_take (i := 16) (some 153) (v := ?x304v) rfl (by kernel_rfl) (by kernel_rfl) (by kernel_rfl) rfl (fun _ _ _ h => h) (Or.inl ⟨by rfl, ?x304y⟩) hHeld ?x304r
                  case x304y => (intro w hSw; (try dsimp only at hSw); go_simp; try with_reducible rfl)
                  try simp only [Act.put, List.setIfInBounds_toArray, List.set_cons_zero, List.set_cons_succ]
                  refine wpH_take (i := 17) (some 154) (v := ?x305v) rfl (by kernel_rfl) (by kernel_rfl) (by kernel_rfl) rfl (fun _ _ _ h => h) (Or.inl ⟨by rfl, ?x305y⟩) hHeld ?x305r
                  case x305y => (intro w hSw; (try dsimp only at hSw); go_simp; try with_reducible rfl)
                  try simp only [Act.put, List.setIfInBounds_toArray, List.set_cons_zero, List.set_cons_succ]
                  refine wpH_take (i := 18) (some 155) (v := ?x306v) rfl (by kernel_rfl) (by kernel_rfl) (by kernel_rfl) rfl (fun _ _ _ h => h) (Or.inl ⟨by rfl, ?x306y⟩) hHeld ?x306r
                  case x306y => (intro w hSw; (try dsimp only at hSw); go_simp; try with_reducible rfl)
                  try simp only [Act.put, List.setIfInBounds_toArray, List.set_cons_zero, List.set_cons_succ]
                  refine wpH_take (i := 19) (some 156) (v := undef) rfl (by kernel_rfl) (by kernel_rfl) (by kernel_rfl) rfl (fun _ _ _ h => h) (Or.inr ⟨by rfl, rfl⟩) hHeld ?x307r
                  try simp only [Act.put, List.setIfInBounds_toArray, List.set_cons_zero, List.set_cons_succ]
                  refine wpH_take (i := 20) (some 157) (v := undef) rfl (by kernel_rfl) (by kernel_rfl) (by kernel_rfl) rfl (fun _ _ _ h => h) (Or.inr ⟨by rfl, rfl⟩) hHeld ?x308r
                  try simp only [Act.put, List.setIfInBounds_toArray, List.set_cons_zero, List.set_cons_succ]
                  refine wpH_take (i := 21) (some 158) (v := undef) rfl (by kernel_rfl) (by kernel_rfl) (by kernel_rfl) rfl (fun _ _ _ h => h) (Or.inr ⟨by rfl, rfl⟩) hHeld ?x309r
                  try simp only [Act.put, List.setIfInBounds_toArray, List.set_cons_zero, List.set_cons_succ]
                  refine wpH_take (i := 22) (some 159) (v := undef) rfl (by kernel_rfl) (by kernel_rfl) (by kernel_rfl) rfl (fun _ _ _ h => h) (Or.inr ⟨by rfl, rfl⟩) hHeld ?x310r
                  try simp only [Act.put, List.setIfInBounds_toArray, List.set_cons_zero, List.set_cons_succ]
                  refine wpH_take (i := 23) (some 160) (v := undef) rfl (by kernel_rfl) (by kernel_rfl) (by kernel_rfl) rfl (fun _ _ _ h => h) (Or.inr ⟨by rfl, rfl⟩) hHeld ?x311r
                  try simp only [Act.put, List.setIfInBounds_toArray, List.set_cons_zero, List.set_cons_succ]
                  refine wpH_take (i := 24) (some 161) (v := undef) rfl (by kernel_rfl) (by kernel_rfl) (by kernel_rfl) rfl (fun _ _ _ h => h) (Or.inr ⟨by rfl, rfl⟩) hHeld ?x312r
                  try simp only [Act.put, List.setIfInBounds_toArray, List.set_cons_zero, List.set_cons_succ]
                  refine wpH_take (i := 25) (some 162) (v := undef) rfl (by kernel_rfl) (by kernel_rfl) (by kernel_rfl) rfl (fun _ _ _ h => h) (Or.inr ⟨by rfl, rfl⟩) hHeld ?x313r
                  try simp only [Act.put, List.setIfInBounds_toArray, List.set_cons_zero, List.set_cons_succ]
                  refine wpH_take (i := 26) (some 163) (v := undef) rfl (by kernel_rfl) (by kernel_rfl) (by kernel_rfl) rfl (fun _ _ _ h => h) (Or.inr ⟨by rfl, rfl⟩) hHeld ?x314r
                  try simp only [Act.put, List.setIfInBounds_toArray, List.set_cons_zero, List.set_cons_succ]
                  refine wpH_take (i := 27) (some 164) (v := undef) rfl (by kernel_rfl) (by kernel_rfl) (by kernel_rfl) rfl (fun _ _ _ h => h) (Or.inr ⟨by rfl, rfl⟩) hHeld ?x315r
                  try simp only [Act.put, List.setIfInBounds_toArray, List.set_cons_zero, List.set_cons_succ]
                  refine wpH_take (i := 28) (some 165) (v := undef) rfl (by kernel_rfl) (by kernel_rfl) (by kernel_rfl) rfl (fun _ _ _ h => h) (Or.inr ⟨by rfl, rfl⟩) hHeld ?x316r
                  try simp only [Act.put, List.setIfInBounds_toArray, List.set_cons_zero, List.set_cons_succ]
                  refine wpH_take (i := 29) (some 166) (v := undef) rfl (by kernel_rfl) (by kernel_rfl) (by kernel_rfl) rfl (fun _ _ _ h => h) (Or.inr ⟨by rfl, rfl⟩) hHeld ?x317r
                  try simp only [Act.put, List.setIfInBounds_toArray, List.set_cons_zero, List.set_cons_succ]
                  refine wpH_take (i := 30) (some 167) (v := undef) rfl (by kernel_rfl) (by kernel_rfl) (by kernel_rfl) rfl (fun _ _ _ h => h) (Or.inr ⟨by rfl, rfl⟩) hHeld ?x318r
                  try simp only [Act.put, List.setIfInBounds_toArray, List.set_cons_zero, List.set_cons_succ]
                  refine wpH_take (i := 31) (some 168) (v := undef) rfl (by kernel_rfl) (by kernel_rfl) (by kernel_rfl) rfl (fun _ _ _ h => h) (Or.inr ⟨by rfl, rfl⟩) hHeld ?x319r
                  try simp only [Act.put, List.setIfInBounds_toArray, List.set_cons_zero, List.set_cons_succ]
                  refine wpH_take (i := 32) (some 169) (v := undef) rfl (by kernel_rfl) (by kernel_rfl) (by kernel_rfl) rfl (fun _ _ _ h => h) (Or.inr ⟨by rfl, rfl⟩) hHeld ?x320r
                  try simp only [Act.put, List.setIfInBounds_toArray, List.set_cons_zero, List.set_cons_succ]
                  refine wpH_take (i := 33) (some 170) (v := undef) rfl (by kernel_rfl) (by kernel_rfl) (by kernel_rfl) rfl (fun _ _ _ h => h) (Or.inr ⟨by rfl, rfl⟩) hHeld ?x321r
                  try simp only [Act.put, List.setIfInBounds_toArray, List.set_cons_zero, List.set_cons_succ]
                  refine wpH_take (i := 34) (some 171) (v := undef) rfl (by kernel_rfl) (by kernel_rfl) (by kernel_rfl) rfl (fun _ _ _ h => h) (Or.inr ⟨by rfl, rfl⟩) hHeld ?x322r
                  try simp only [Act.put, List.setIfInBounds_toArray, List.set_cons_zero, List.set_cons_succ]
                  refine wpH_take (i := 35) (some 172) (v := ?x323v) rfl (by kernel_rfl) (by kernel_rfl) (by kernel_rfl) rfl (fun _ _ _ h => h) (Or.inl ⟨by rfl, ?x323y⟩) hHeld ?x323r
                  case x323y => (intro w hSw; (try dsimp only at hSw); go_simp; try with_reducible rfl)
                  try simp only [Act.put, List.setIfInBounds_toArray, List.set_cons_zero, List.set_cons_succ]
                  refine wpH_take (i := 36) (some 173) (v := ?x324v) rfl (by kernel_rfl) (by kernel_rfl) (by kernel_rfl) rfl (fun _ _ _ h => h) (Or.inl ⟨by rfl, ?x324y⟩) hHeld ?x324r
                  case x324y => (intro w hSw; (try dsimp only at hSw); go_simp; try with_reducible rfl)
                  try simp only [Act.put, List.setIfInBounds_toArray, List.set_cons_zero, List.set_cons_succ]
                  refine wpAnyH_done (by kernel_rfl) ?_ _
                  rw [HKX.out] at e0
                  have x0 : (0 : Int) ≤ (kx : Int) := Int.natCast_nonneg _
                  have x1 : (kx : Int) < (m : Int) := by omega
                  have cA : w3.cell? ⟨w1.heap.size, kx, none⟩ = some (.int .i64 ((us.map Us.s ++ gs.map Gr.s ++ (ks.take i).map Ak.s).count (kx : Int) : Nat)) := OA3.out.cell (cntV_at hkm)
                  have fA := OA3.out.frozen
                  have hc0 : (us.map Us.s ++ gs.map Gr.s ++ (ks.take i).map Ak.s).count (kx : Int) ≤ 210 := by
                    have h := List.count_le_length (a := (kx : Int)) (l := us.map Us.s ++ gs.map Gr.s ++ (ks.take i).map Ak.s)
                    simp only [List.length_append, List.length_map, List.length_take] at h
                    omega
                  obtain ⟨cn, hcn⟩ : ∃ cn, (us.map Us.s ++ gs.map Gr.s ++ (ks.take i).map Ak.s).count (kx : Int) = cn := ⟨_, rfl⟩
                  rw [hcn] at cA hc0
                  have HCN := Lib.hid hcn
                  have hc1 : (0 : Int) ≤ (cn : Int) := Int.natCast_nonneg _
                  have hc2 : (cn : Int) ≤ 210 := by omega
                  clear hcn hc0 hs0 hs1
                  go_wp2_with fail
                  go_roundw
                  case rel =>
                    have h9 := OA3.out.set kx (.int .i64 ((cn : Int) + 1))
                    rw [← HCN.out, cntV_set hkm] at h9
                    refine ⟨i + 1, d.s, by omega, by go_num, by rw [HT.out, HS.out, HV.out, decide_eq_true (show last < d.s by have h1 := HL0.out; have h2 := HKX.out; omega)]; simp, fun h => by omega, fun n h => ⟨d, by obtain rfl : n = i := (by omega); exact HD.out, rfl⟩, ?_, ?_, belowSet' BC.out _ _ _ (Nat.le_refl _)⟩
                    · intro z hz
                      rw [take_snocG HD.out, List.map_append, ← List.append_assoc] at hz
                      rcases List.mem_append.1 hz with hz | hz
                      · exact HRR.out z (by simpa using hz)
                      · simp only [List.map_cons, List.map_nil, List.mem_singleton] at hz
                        rw [hz]; have := HKX.out; exact ⟨by omega, by omega⟩
                    · rw [take_snocG HD.out, List.map_append, ← List.append_assoc, List.map_cons, List.map_nil, HKX.out]
                      rw [HCN.out] at h9
                      exact h9
                  case measure => simp [intOf]; omega
                · obtain ⟨n, hn⟩ : ∃ n, i = n + 1 := ⟨i - 1, by omega⟩
                  obtain ⟨pv, hpv, hl⟩ := HSS.out n hn
                  obtain ⟨pv', b', off', hpv', e', _, _, dp, _, _⟩ := SA1.out.atA BE.out (i := n) (by omega)
                  cases e'
                  obtain rfl : pv = pv' := by rw [hpv] at hpv'; exact Option.some.inj hpv'
                  have k3 : decide ((0 : Int) < (i : Int)) = true := decide_eq_true (by omega)
                  have k4 : decide (0 < i) = true := decide_eq_true (by omega)
                  have m0 : (0 : Int) ≤ (n : Int) := Int.natCast_nonneg _
                  have m1 : (n : Int) < (ks.length : Int) := by omega
                  have HL := Lib.hid hl
                  have wm : IntKind.i64.wrap ((i : Int) - 1) = (n : Int) := by rw [IntWalk.i64_in _ (by omega)]; omega
                  clear hpv hpv' hl hn h0
                  by_cases h5 : d.s ≤ pv.s
                  · have k5 : decide (d.s ≤ pv.s) = true := decide_eq_true h5
                    have H3 := Lib.hid (show decide (last < d.s) = false from decide_eq_false (by have := HL.out; omega))
                    clear h5 hs0 hs1
                    go_wp2_with fail
                    refine region_H 37 #[false, false, false, false, false, false, false, false, false, false, false, false, false, false, false, false, false, false, false, false, false, false, false, false, false, false, false, false, false, false, false, false, false, false, false, false, false] (by kernel_rfl) (by kernel_rfl) (fun w' => w'.cell? ⟨w.heap.size, 2, none⟩ = some (.slice (some ⟨b, off, none⟩) ks.length ca) ∧ w'.cell? ⟨w.heap.size + 1, 0, none⟩ = some (.int .i64 N) ∧ w'.cell? ⟨w.heap.size + 1, 1, none⟩ = some (.int .i64 (m : Int)) ∧ w'.cell? ⟨b, off + i * 3, none⟩ = some (.int .i64 d.s) ∧ w'.cell? ⟨b, off + i * 3 + 1, none⟩ = some (.int .i64 d.o) ∧ w'.cell? ⟨b, off + i * 3 + 2, none⟩ = some (.int .i64 d.p) ∧ w'.cell? ⟨b, off + n * 3, none⟩ = some (.int .i64 pv.s)) (by kernel_rfl) ?x325s (fun hHeld => ?x325r)
                    case x325s => exact ⟨t2, y0, y1, d0, d1, d2, dp⟩
                    refine wpH_take (i := 0) (some 137) (v := ?x326v) rfl (by kernel_rfl) (by kernel_rfl) (by kernel_rfl) rfl (fun _ _ _ h => h) (Or.inl ⟨by rfl, ?x326y⟩) hHeld ?x326r
                    case x326y => (intro w hSw; (try dsimp only at hSw); go_simp; try with_reducible rfl)
                    try simp only [Act.put, List.setIfInBounds_toArray, List.set_cons_zero, List.set_cons_succ]
                    refine wpH_take (i := 1) (some 138) (v := ?x327v) rfl (by kernel_rfl) (by kernel_rfl) (by kernel_rfl) rfl (fun _ _ _ h => h) (Or.inl ⟨by rfl, ?x327y⟩) hHeld ?x327r
                    case x327y => (intro w hSw; (try dsimp only at hSw); go_simp; try with_reducible rfl)
                    try simp only [Act.put, List.setIfInBounds_toArray, List.set_cons_zero, List.set_cons_succ]
                    refine wpH_take (i := 2) (some 139) (v := ?x328v) rfl (by kernel_rfl) (by kernel_rfl) (by kernel_rfl) rfl (fun _ _ _ h => h) (Or.inl ⟨by rfl, ?x328y⟩) hHeld ?x328r
                    case x328y => (intro w hSw; (try dsimp only at hSw); go_simp; try with_reducible rfl)
                    try simp only [Act.put, List.setIfInBounds_toArray, List.set_cons_zero, List.set_cons_succ]
                    refine wpH_take (i := 3) (some 140) (v := ?x329v) rfl (by kernel_rfl) (by kernel_rfl) (by kernel_rfl) rfl (fun _ _ _ h => h) (Or.inl ⟨by rfl, ?x329y⟩) hHeld ?x329r
                    case x329y => (intro w hSw; (try dsimp only at hSw); go_simp; try with_reducible rfl)
                    try simp only [Act.put, List.setIfInBounds_toArray, List.set_cons_zero, List.set_cons_succ]
                    refine wpH_take (i := 4) (some 141) (v := ?x330v) rfl (by kernel_rfl) (by kernel_rfl) (by kernel_rfl) rfl (fun _ _ _ h => h) (Or.inl ⟨by rfl, ?x330y⟩) hHeld ?x330r
                    case x330y => (intro w hSw; (try dsimp only at hSw); go_simp; try with_reducible rfl)
                    try simp only [Act.put, List.setIfInBounds_toArray, List.set_cons_zero, List.set_cons_succ]
                    refine wpH_take (i := 5) (some 142) (v := ?x331v) rfl (by kernel_rfl) (by kernel_rfl) (by kernel_rfl) rfl (fun _ _ _ h => h) (Or.inl ⟨by rfl, ?x331y⟩) hHeld ?x331r
                    case x331y => (intro w hSw; (try dsimp only at hSw); go_simp; try with_reducible rfl)
                    try simp only [Act.put, List.setIfInBounds_toArray, List.set_cons_zero, List.set_cons_succ]
                    refine wpH_take (i := 6) (some 143) (v := ?x332v) rfl (by kernel_rfl) (by kernel_rfl) (by kernel_rfl) rfl (fun _ _ _ h => h) (Or.inl ⟨by rfl, ?x332y⟩) hHeld ?x332r
                    case x332y => (intro w hSw; (try dsimp only at hSw); go_simp; try with_reducible rfl)
                    try simp only [Act.put, List.setIfInBounds_toArray, List.set_cons_zero, List.set_cons_succ]
                    refine wpH_take (i := 7) (some 144) (v := ?x333v) rfl (by kernel_rfl) (by kernel_rfl) (by kernel_rfl) rfl (fun _ _ _ h => h) (Or.inl ⟨by rfl, ?x333y⟩) hHeld ?x333r
                    case x333y => (intro w hSw; (try dsimp only at hSw); go_simp; try with_reducible rfl)
                    try simp only [Act.put, List.setIfInBounds_toArray, List.set_cons_zero, List.set_cons_succ]
                    refine wpH_take (i := 8) (some 145) (v := ?x334v) rfl (by kernel_rfl) (by kernel_rfl) (by kernel_rfl) rfl (fun _ _ _ h => h) (Or.inl ⟨by rfl, ?x334y⟩) hHeld ?x334r
                    case x334y => (intro w hSw; (try dsimp only at hSw); go_simp; try with_reducible rfl)
                    try simp only [Act.put, List.setIfInBounds_toArray, List.set_cons_zero, List.set_cons_succ]
                    refine wpH_take (i := 9) (some 146) (v := ?x335v) rfl (by kernel_rfl) (by kernel_rfl) (by kernel_rfl) rfl (fun _ _ _ h => h) (Or.inl ⟨by rfl, ?x335y⟩) hHeld ?x335r
                    case x335y => (intro w hSw; (try dsimp only at hSw); go_simp; try with_reducible rfl)
                    try simp only [Act.put, List.setIfInBounds_toArray, List.set_cons_zero, List.set_cons_succ]
                    refine wpH_take (i := 10) (some 147) (v := ?x336v) rfl (by kernel_rfl) (by kernel_rfl) (by kernel_rfl) rfl (fun _ _ _ h => h) (Or.inl ⟨by rfl, ?x336y⟩) hHeld ?x336r
                    case x336y => (intro w hSw; (try dsimp only at hSw); go_simp; try with_reducible rfl)
                    try simp only [Act.put, List.setIfInBounds_toArray, List.set_cons_zero, List.set_cons_succ]
                    refine wpH_take (i := 11) (some 148) (v := ?x337v) rfl (by kernel_rfl) (by kernel_rfl) (by kernel_rfl) rfl (fun _ _ _ h => h) (Or.inl ⟨by rfl, ?x337y⟩) hHeld ?x337r
                    case x337y => (intro w hSw; (try dsimp only at hSw); go_simp; try with_reducible rfl)
                    try simp only [Act.put, List.setIfInBounds_toArray, List.set_cons_zero, List.set_cons_succ]
                    refine wpH_take (i := 12) (some 149) (v := ?x338v) rfl (by kernel_rfl) (by kernel_rfl) (by kernel_rfl) rfl (fun _ _ _ h => h) (Or.inl ⟨by rfl, ?x338y⟩) hHeld ?x338r
                    case x338y => (intro w hSw; (try dsimp only at hSw); go_simp; try with_reducible rfl)
                    try simp only [Act.put, List.setIfInBounds_toArray, List.set_cons_zero, List.set_cons_succ]
                    refine wpH_one (i := 13) (by kernel_rfl) rfl (fun K hK => ?_)
                    rw [if_pos (by rfl)]
                    go_simp
                    refine (rcell_lit d.s d.o d.p N (m : Int) true _ HV.out).mono ?_
                    rintro e w3 ⟨rfl, hb⟩
                    have BC := Lib.hid (BE.out.drew.trans (hb.mono BE.out.size))
                    have OA3 := Lib.hid (OA.out.drew.below hb)
                    have oT3 := Lib.hid (oTr.out.drew.below hb)
                    have oL3 := Lib.hid (oLr.out.drew.below hb)
                    obtain ⟨u0, u1, u2, fT3, zT3⟩ := own3 oT3.out
                    obtain ⟨v0, v1, fL3, zL3⟩ := own2 oL3.out
                    have e0 : w3.cell? ⟨b, off + i * 3, none⟩ = some (.int .i64 d.s) := (hb.cell (p := ⟨b, off + i * 3, none⟩) hbl).trans d0
                    have e1 : w3.cell? ⟨b, off + i * 3 + 1, none⟩ = some (.int .i64 d.o) := (hb.cell (p := ⟨b, off + i * 3 + 1, none⟩) hbl).trans d1
                    have e2 : w3.cell? ⟨b, off + i * 3 + 2, none⟩ = some (.int .i64 d.p) := (hb.cell (p := ⟨b, off + i * 3 + 2, none⟩) hbl).trans d2
                    have ep : w3.cell? ⟨b, off + n * 3, none⟩ = some (.int .i64 pv.s) := (hb.cell (p := ⟨b, off + n * 3, none⟩) hbl).trans dp
                    clear hb
                    refine hK.out _ _ (⟨u2, v0, v1, e0, e1, e2, ep⟩) ?_
                    clear hK K hHeld
                    intro hHeld
                    try simp only [Act.put, List.setIfInBounds_toArray, List.set_cons_zero, List.set_cons_succ]
                    refine wpH_take (i := 14) (some 151) (v := ?x340v) rfl (by kernel_rfl) (by kernel_rfl) (by kernel_rfl) rfl (fun _ _ _ h => h) (Or.inl ⟨by rfl, ?x340y⟩) hHeld ?x340r
                    case x340y => (intro w hSw; (try dsimp only at hSw); go_simp; try with_reducible rfl)
                    try simp only [Act.put, List.setIfInBounds_toArray, List.set_cons_zero, List.set_cons_succ]
                    refine wpH_take (i := 15) (some 152) (v := ?x341v) rfl (by kernel_rfl) (by kernel_rfl) (by kernel_rfl) rfl (fun _ _ _ h => h) (Or.inl ⟨by rfl, ?x341y⟩) hHeld ?x341r
                    case x341y => (intro w hSw; (try dsimp only at hSw); go_simp; try with_reducible rfl)
                    try simp only [Act.put, List.setIfInBounds_toArray, List.set_cons_zero, List.set_cons_succ]
                    refine wpH_take (i := 16) (some 153) (v := ?x342v) rfl (by kernel_rfl) (by kernel_rfl) (by kernel_rfl) rfl (fun _ _ _ h => h) (Or.inl ⟨by rfl, ?x342y⟩) hHeld ?x342r
                    case x342y => (intro w hSw; (try dsimp only at hSw); go_simp; try with_reducible rfl)
                    try simp only [Act.put, List.setIfInBounds_toArray, List.set_cons_zero, List.set_cons_succ]
                    refine wpH_take (i := 17) (some 154) (v := ?x343v) rfl (by kernel_rfl) (by kernel_rfl) (by kernel_rfl) rfl (fun _ _ _ h => h) (Or.inl ⟨by rfl, ?x343y⟩) hHeld ?x343r
                    case x343y => (intro w hSw; (try dsimp only at hSw); go_simp; try with_reducible rfl)
                    try simp only [Act.put, List.setIfInBounds_toArray, List.set_cons_zero, List.set_cons_succ]
                    refine wpH_take (i := 18) (some 155) (v := ?x344v) rfl (by kernel_rfl) (by kernel_rfl) (by kernel_rfl) rfl (fun _ _ _ h => h) (Or.inl ⟨by rfl, ?x344y⟩) hHeld ?x344r
                    case x344y => (intro w hSw; (try dsimp only at hSw); go_simp; try with_reducible rfl)
                    try simp only [Act.put, List.setIfInBounds_toArray, List.set_cons_zero, List.set_cons_succ]
                    refine wpH_take (i := 19) (some 156) (v := ?x345v) rfl (by kernel_rfl) (by kernel_rfl) (by kernel_rfl) rfl (fun _ _ _ h => h) (Or.inl ⟨by rfl, ?x345y⟩) hHeld ?x345r
                    case x345y => (intro w hSw; (try dsimp only at hSw); go_simp; try with_reducible rfl)
                    try simp only [Act.put, List.setIfInBounds_toArray, List.set_cons_zero, List.set_cons_succ]
                    refine wpH_take (i := 20) (some 157) (v := ?x346v) rfl (by kernel_rfl) (by kernel_rfl) (by kernel_rfl) rfl (fun _ _ _ h => h) (Or.inl ⟨by rfl, ?x346y⟩) hHeld ?x346r
                    case x346y => (intro w hSw; (try dsimp only at hSw); go_simp; try with_reducible rfl)
                    try simp only [Act.put, List.setIfInBounds_toArray, List.set_cons_zero, List.set_cons_succ]
                    refine wpH_take (i := 21) (some 158) (v := ?x347v) rfl (by kernel_rfl) (by kernel_rfl) (by kernel_rfl) rfl (fun _ _ _ h => h) (Or.inl ⟨by rfl, ?x347y⟩) hHeld ?x347r
                    case x347y => (intro w hSw; (try dsimp only at hSw); go_simp; try with_reducible rfl)
                    try simp only [Act.put, List.setIfInBounds_toArray, List.set_cons_zero, List.set_cons_succ]
                    refine wpH_take (i := 22) (some 159) (v := ?x348v) rfl (by kernel_rfl) (by kernel_rfl) (by kernel_rfl) rfl (fun _ _ _ h => h) (Or.inl ⟨by rfl, ?x348y⟩) hHeld ?x348r
                    case x348y => (intro w hSw; (try dsimp only at hSw); go_simp; try with_reducible rfl)
                    try simp only [Act.put, List.setIfInBounds_toArray, List.set_cons_zero, List.set_cons_succ]
                    refine wpH_take (i := 23) (some 160) (v := ?x349v) rfl (by kernel_rfl) (by kernel_rfl) (by kernel_rfl) rfl (fun _ _ _ h => h) (Or.inl ⟨by rfl, ?x349y⟩) hHeld ?x349r
                    case x349y => (intro w hSw; (try dsimp only at hSw); go_simp; try with_reducible rfl)
                    try simp only [Act.put, List.setIfInBounds_toArray, List.set_cons_zero, List.set_cons_succ]
                    refine wpH_take (i := 24) (some 161) (v := ?x350v) rfl (by kernel_rfl) (by kernel_rfl) (by kernel_rfl) rfl (fun _ _ _ h => h) (Or.inl ⟨by rfl, ?x350y⟩) hHeld ?x350r
                    case x350y => (intro w hSw; (try dsimp only at hSw); go_simp; try with_reducible rfl)
                    try simp only [Act.put, List.setIfInBounds_toArray, List.set_cons_zero, List.set_cons_succ]
                    refine wpH_take (i := 25) (some 162) (v := ?x351v) rfl (by kernel_rfl) (by kernel_rfl) (by kernel_rfl) rfl (fun _ _ _ h => h) (Or.inl ⟨by rfl, ?x351y⟩) hHeld ?x351r
                    case x351y => (intro w hSw; (try dsimp only at hSw); go_simp; try with_reducible rfl)
                    try simp only [Act.put, List.setIfInBounds_toArray, List.set_cons_zero, List.set_cons_succ]
                    refine wpH_take (i := 26) (some 163) (v := ?x352v) rfl (by kernel_rfl) (by kernel_rfl) (by kernel_rfl) rfl (fun _ _ _ h => h) (Or.inl ⟨by rfl, ?x352y⟩) hHeld ?x352r
                    case x352y => (intro w hSw; (try dsimp only at hSw); go_simp; try with_reducible rfl)
                    try simp only [Act.put, List.setIfInBounds_toArray, List.set_cons_zero, List.set_cons_succ]
                    refine wpH_take (i := 27) (some 164) (v := ?x353v) rfl (by kernel_rfl) (by kernel_rfl) (by kernel_rfl) rfl (fun _ _ _ h => h) (Or.inl ⟨by rfl, ?x353y⟩) hHeld ?x353r
                    case x353y => (intro w hSw; (try dsimp only at hSw); go_simp; try with_reducible rfl)
                    try simp only [Act.put, List.setIfInBounds_toArray, List.set_cons_zero, List.set_cons_succ]
                    refine wpH_take (i := 28) (some 165) (v := ?x354v) rfl (by kernel_rfl) (by kernel_rfl) (by kernel_rfl) rfl (fun _ _ _ h => h) (Or.inl ⟨by rfl, ?x354y⟩) hHeld ?x354r
                    case x354y => (intro w hSw; (try dsimp only at hSw); go_simp; try with_reducible rfl)
                    try simp only [Act.put, List.setIfInBounds_toArray, List.set_cons_zero, List.set_cons_succ]
                    refine wpH_take (i := 29) (some 166) (v := ?x355v) rfl (by kernel_rfl) (by kernel_rfl) (by kernel_rfl) rfl (fun _ _ _ h => h) (Or.inl ⟨by rfl, ?x355y⟩) hHeld ?x355r
                    case x355y => (intro w hSw; (try dsimp only at hSw); go_simp; try with_reducible rfl)
                    try simp only [Act.put, List.setIfInBounds_toArray, List.set_cons_zero, List.set_cons_succ]
                    refine wpH_take (i := 30) (some 167) (v := ?x356v) rfl (by kernel_rfl) (by kernel_rfl) (by kernel_rfl) rfl (fun _ _ _ h => h) (Or.inl ⟨by rfl, ?x356y⟩) hHeld ?x356r
                    case x356y => (intro w hSw; (try dsimp only at hSw); go_simp; try with_reducible rfl)
                    try simp only [Act.put, List.setIfInBounds_toArray, List.set_cons_zero, List.set_cons_succ]
                    refine wpH_take (i := 31) (some 168) (v := ?x357v) rfl (by kernel_rfl) (by kernel_rfl) (by kernel_rfl) rfl (fun _ _ _ h => h) (Or.inl ⟨by rfl, ?x357y⟩) hHeld ?x357r
                    case x357y => (intro w hSw; (try dsimp only at hSw); go_simp; try with_reducible rfl)
                    try simp only [Act.put, List.setIfInBounds_toArray, List.set_cons_zero, List.set_cons_succ]
                    refine wpH_take (i := 32) (some 169) (v := ?x358v) rfl (by kernel_rfl) (by kernel_rfl) (by kernel_rfl) rfl (fun _ _ _ h => h) (Or.inl ⟨by rfl, ?x358y⟩) hHeld ?x358r
                    case x358y => (intro w hSw; (try dsimp only at hSw); go_simp; try with_reducible rfl)
                    try simp only [Act.put, List.setIfInBounds_toArray, List.set_cons_zero, List.set_cons_succ]
                    refine wpH_take (i := 33) (some 170) (v := ?x359v) rfl (by kernel_rfl) (by kernel_rfl) (by kernel_rfl) rfl (fun _ _ _ h => h) (Or.inl ⟨by rfl, ?x359y⟩) hHeld ?x359r
                    case x359y => (intro w hSw; (try dsimp only at hSw); go_simp; try with_reducible rfl)
                    try simp only [Act.put, List.setIfInBounds_toArray, List.set_cons_zero, List.set_cons_succ]
                    refine wpH_take (i := 34) (some 171) (v := ?x360v) rfl (by kernel_rfl) (by kernel_rfl) (by kernel_rfl) rfl (fun _ _ _ h => h) (Or.inl ⟨by rfl, ?x360y⟩) hHeld ?x360r
                    case x360y => (intro w hSw; (try dsimp only at hSw); go_simp; try with_reducible rfl)
                    try simp only [Act.put, List.setIfInBounds_toArray, List.set_cons_zero, List.set_cons_succ]
                    refine wpH_take (i := 35) (some 172) (v := ?x361v) rfl (by kernel_rfl) (by kernel_rfl) (by kernel_rfl) rfl (fun _ _ _ h => h) (Or.inl ⟨by rfl, ?x361y⟩) hHeld ?x361r
                    case x361y => (intro w hSw; (try dsimp only at hSw); go_simp; try with_reducible rfl)
                    try simp only [Act.put, List.setIfInBounds_toArray, List.set_cons_zero, List.set_cons_succ]
                    refine wpH_take (i := 36) (some 173) (v := ?x362v) rfl (by kernel_rfl) (by kernel_rfl) (by kernel_rfl) rfl (fun _ _ _ h => h) (Or.inl ⟨by rfl, ?x362y⟩) hHeld ?x362r
                    case x362y => (intro w hSw; (try dsimp only at hSw); go_simp; try with_reducible rfl)
                    try simp only [Act.put, List.setIfInBounds_toArray, List.set_cons_zero, List.set_cons_succ]
                    refine wpAnyH_done (by kernel_rfl) ?_ _
                    go_wp2_with fail
                    go_ret
                    exact ⟨ret_bool (by rw [HRES.out, HT.out, HS.out, H3.out]; simp), BB1.out.trans (BC.out.mono BB1.out.size)⟩
                  · have k5 : decide (d.s ≤ pv.s) = false := decide_eq_false h5
                    have H3 := Lib.hid (show last < d.s by have := HL.out; omega)
                    clear h5
                    go_wp2_with fail
                    refine region_H 37 #[false, false, false, false, false, false, false, false, false, false, false, false, false, false, false, false, false, false, false, false, false, false, false, false, false, false, false, false, false, false, false, false, false, false, false, false, false] (by kernel_rfl) (by kernel_rfl) (fun w' => w'.cell? ⟨w.heap.size, 2, none⟩ = some (.slice (some ⟨b, off, none⟩) ks.length ca) ∧ w'.cell? ⟨w.heap.size + 1, 0, none⟩ = some (.int .i64 N) ∧ w'.cell? ⟨w.heap.size + 1, 1, none⟩ = some (.int .i64 (m : Int)) ∧ w'.cell? ⟨b, off + i * 3, none⟩ = some (.int .i64 d.s) ∧ w'.cell? ⟨b, off + i * 3 + 1, none⟩ = some (.int .i64 d.o) ∧ w'.cell? ⟨b, off + i * 3 + 2, none⟩ = some (.int .i64 d.p) ∧ w'.cell? ⟨b, off + n * 3, none⟩ = some (.int .i64 pv.s)) (by kernel_rfl) ?x363s (fun hHeld => ?x363r)
                    case x363s => exact ⟨t2, y0, y1, d0, d1, d2, dp⟩
                    refine wpH_take (i := 0) (some 137) (v := ?x364v) rfl (by kernel_rfl) (by kernel_rfl) (by kernel_rfl) rfl (fun _ _ _ h => h) (Or.inl ⟨by rfl, ?x364y⟩) hHeld ?x364r
                    case x364y => (intro w hSw; (try dsimp only at hSw); go_simp; try with_reducible rfl)
                    try simp only [Act.put, List.setIfInBounds_toArray, List.set_cons_zero, List.set_cons_succ]
                    refine wpH_take (i := 1) (some 138) (v := ?x365v) rfl (by kernel_rfl) (by kernel_rfl) (by kernel_rfl) rfl (fun _ _ _ h => h) (Or.inl ⟨by rfl, ?x365y⟩) hHeld ?x365r
                    case x365y => (intro w hSw; (try dsimp only at hSw); go_simp; try with_reducible rfl)
                    try simp only [Act.put, List.setIfInBounds_toArray, List.set_cons_zero, List.set_cons_succ]
                    refine wpH_take (i := 2) (some 139) (v := ?x366v) rfl (by kernel_rfl) (by kernel_rfl) (by kernel_rfl) rfl (fun _ _ _ h => h) (Or.inl ⟨by rfl, ?x366y⟩) hHeld ?x366r
                    case x366y => (intro w hSw; (try dsimp only at hSw); go_simp; try with_reducible rfl)
                    try simp only [Act.put, List.setIfInBounds_toArray, List.set_cons_zero, List.set_cons_succ]
                    refine wpH_take (i := 3) (some 140) (v := ?x367v) rfl (by kernel_rfl) (by kernel_rfl) (by kernel_rfl) rfl (fun _ _ _ h => h) (Or.inl ⟨by rfl, ?x367y⟩) hHeld ?x367r
                    case x367y => (intro w hSw; (try dsimp only at hSw); go_simp; try with_reducible rfl)
                    try simp only [Act.put, List.setIfInBounds_toArray, List.set_cons_zero, List.set_cons_succ]
                    refine wpH_take (i := 4) (some 141) (v := ?x368v) rfl (by kernel_rfl) (by kernel_rfl) (by kernel_rfl) rfl (fun _ _ _ h => h) (Or.inl ⟨by rfl, ?x368y⟩) hHeld ?x368r
                    case x368y => (intro w hSw; (try dsimp only at hSw); go_simp; try with_reducible rfl)
                    try simp only [Act.put, List.setIfInBounds_toArray, List.set_cons_zero, List.set_cons_succ]
                    refine wpH_take (i := 5) (some 142) (v := ?x369v) rfl (by kernel_rfl) (by kernel_rfl) (by kernel_rfl) rfl (fun _ _ _ h => h) (Or.inl ⟨by rfl, ?x369y⟩) hHeld ?x369r
                    case x369y => (intro w hSw; (try dsimp only at hSw); go_simp; try with_reducible rfl)
                    try simp only [Act.put, List.setIfInBounds_toArray, List.set_cons_zero, List.set_cons_succ]
                    refine wpH_take (i := 6) (some 143) (v := ?x370v) rfl (by kernel_rfl) (by kernel_rfl) (by kernel_rfl) rfl (fun _ _ _ h => h) (Or.inl ⟨by rfl, ?x370y⟩) hHeld ?x370r
                    case x370y => (intro w hSw; (try dsimp only at hSw); go_simp; try with_reducible rfl)
                    try simp only [Act.put, List.setIfInBounds_toArray, List.set_cons_zero, List.set_cons_succ]
                    refine wpH_take (i := 7) (some 144) (v := ?x371v) rfl (by kernel_rfl) (by kernel_rfl) (by kernel_rfl) rfl (fun _ _ _ h => h) (Or.inl ⟨by rfl, ?x371y⟩) hHeld ?x371r
                    case x371y => (intro w hSw; (try dsimp only at hSw); go_simp; try with_reducible rfl)
                    try simp only [Act.put, List.setIfInBounds_toArray, List.set_cons_zero, List.set_cons_succ]
                    refine wpH_take (i := 8) (some 145) (v := ?x372v) rfl (by kernel_rfl) (by kernel_rfl) (by kernel_rfl) rfl (fun _ _ _ h => h) (Or.inl ⟨by rfl, ?x372y⟩) hHeld ?x372r
                    case x372y => (intro w hSw; (try dsimp only at hSw); go_simp; try with_reducible rfl)
                    try simp only [Act.put, List.setIfInBounds_toArray, List.set_cons_zero, List.set_cons_succ]
                    refine wpH_take (i := 9) (some 146) (v := ?x373v) rfl (by kernel_rfl) (by kernel_rfl) (by kernel_rfl) rfl (fun _ _ _ h => h) (Or.inl ⟨by rfl, ?x373y⟩) hHeld ?x373r
                    case x373y => (intro w hSw; (try dsimp only at hSw); go_simp; try with_reducible rfl)
                    try simp only [Act.put, List.setIfInBounds_toArray, List.set_cons_zero, List.set_cons_succ]
                    refine wpH_take (i := 10) (some 147) (v := ?x374v) rfl (by kernel_rfl) (by kernel_rfl) (by kernel_rfl) rfl (fun _ _ _ h => h) (Or.inl ⟨by rfl, ?x374y⟩) hHeld ?x374r
                    case x374y => (intro w hSw; (try dsimp only at hSw); go_simp; try with_reducible rfl)
                    try simp only [Act.put, List.setIfInBounds_toArray, List.set_cons_zero, List.set_cons_succ]
                    refine wpH_take (i := 11) (some 148) (v := ?x375v) rfl (by kernel_rfl) (by kernel_rfl) (by kernel_rfl) rfl (fun _ _ _ h => h) (Or.inl ⟨by rfl, ?x375y⟩) hHeld ?x375r
                    case x375y => (intro w hSw; (try dsimp only at hSw); go_simp; try with_reducible rfl)
                    try simp only [Act.put, List.setIfInBounds_toArray, List.set_cons_zero, List.set_cons_succ]
                    refine wpH_take (i := 12) (some 149) (v := ?x376v) rfl (by kernel_rfl) (by kernel_rfl) (by kernel_rfl) rfl (fun _ _ _ h => h) (Or.inl ⟨by rfl, ?x376y⟩) hHeld ?x376r
                    case x376y => (intro w hSw; (try dsimp only at hSw); go_simp; try with_reducible rfl)
                    try simp only [Act.put, List.setIfInBounds_toArray, List.set_cons_zero, List.set_cons_succ]
                    refine wpH_one (i := 13) (by kernel_rfl) rfl (fun K hK => ?_)
                    rw [if_pos (by rfl)]
                    go_simp
                    refine (rcell_lit d.s d.o d.p N (m : Int) true _ HV.out).mono ?_
                    rintro e w3 ⟨rfl, hb⟩
                    have BC := Lib.hid (BE.out.drew.trans (hb.mono BE.out.size))
                    have OA3 := Lib.hid (OA.out.drew.below hb)
                    have oT3 := Lib.hid (oTr.out.drew.below hb)
                    have oL3 := Lib.hid (oLr.out.drew.below hb)
                    obtain ⟨u0, u1, u2, fT3, zT3⟩ := own3 oT3.out
                    obtain ⟨v0, v1, fL3, zL3⟩ := own2 oL3.out
                    have e0 : w3.cell? ⟨b, off + i * 3, none⟩ = some (.int .i64 d.s) := (hb.cell (p := ⟨b, off + i * 3, none⟩) hbl).trans d0
                    have e1 : w3.cell? ⟨b, off + i * 3 + 1, none⟩ = some (.int .i64 d.o) := (hb.cell (p := ⟨b, off + i * 3 + 1, none⟩) hbl).trans d1
                    have e2 : w3.cell? ⟨b, off + i * 3 + 2, none⟩ = some (.int .i64 d.p) := (hb.cell (p := ⟨b, off + i * 3 + 2, none⟩) hbl).trans d2
                    have ep : w3.cell? ⟨b, off + n * 3, none⟩ = some (.int .i64 pv.s) := (hb.cell (p := ⟨b, off + n * 3, none⟩) hbl).trans dp
                    clear hb
                    refine hK.out _ _ (⟨u2, v0, v1, e0, e1, e2, ep⟩) ?_
                    clear hK K hHeld
                    intro hHeld
                    try simp only [Act.put, List.setIfInBounds_toArray, List.set_cons_zero, List.set_cons_succ]
                    refine wpH_take (i := 14) (some 151) (v := ?x378v) rfl (by kernel_rfl) (by kernel_rfl) (by kernel_rfl) rfl (fun _ _ _ h => h) (Or.inl ⟨by rfl, ?x378y⟩) hHeld ?x378r
                    case x378y => (intro w hSw; (try dsimp only at hSw); go_simp; try with_reducible rfl)
                    try simp only [Act.put, List.setIfInBounds_toArray, List.set_cons_zero, List.set_cons_succ]
                    refine wpH_take (i := 15) (some 152) (v := ?x379v) rfl (by kernel_rfl) (by kernel_rfl) (by kernel_rfl) rfl (fun _ _ _ h => h) (Or.inl ⟨by rfl, ?x379y⟩) hHeld ?x379r
                    case x379y => (intro w hSw; (try dsimp only at hSw); go_simp; try with_reducible rfl)
                    try simp only [Act.put, List.setIfInBounds_toArray, List.set_cons_zero, List.set_cons_succ]
                    refine wpH_take (i := 16) (some 153) (v := ?x380v) rfl (by kernel_rfl) (by kernel_rfl) (by kernel_rfl) rfl (fun _ _ _ h => h) (Or.inl ⟨by rfl, ?x380y⟩) hHeld ?x380r
                    case x380y => (intro w hSw; (try dsimp only at hSw); go_simp; try with_reducible rfl)
                    try simp only [Act.put, List.setIfInBounds_toArray, List.set_cons_zero, List.set_cons_succ]
                    refine wpH_take (i := 17) (some 154) (v := ?x381v) rfl (by kernel_rfl) (by kernel_rfl) (by kernel_rfl) rfl (fun _ _ _ h => h) (Or.inl ⟨by rfl, ?x381y⟩) hHeld ?x381r
                    case x381y => (intro w hSw; (try dsimp only at hSw); go_simp; try with_reducible rfl)
                    try simp only [Act.put, List.setIfInBounds_toArray, List.set_cons_zero, List.set_cons_succ]
                    refine wpH_take (i := 18) (some 155) (v := ?x382v) rfl (by kernel_rfl) (by kernel_rfl) (by kernel_rfl) rfl (fun _ _ _ h => h) (Or.inl ⟨by rfl, ?x382y⟩) hHeld ?x382r
                    case x382y => (intro w hSw; (try dsimp only at hSw); go_simp; try with_reducible rfl)
                    try simp only [Act.put, List.setIfInBounds_toArray, List.set_cons_zero, List.set_cons_succ]
                    refine wpH_take (i := 19) (some 156) (v := ?x383v) rfl (by kernel_rfl) (by kernel_rfl) (by kernel_rfl) rfl (fun _ _ _ h => h) (Or.inl ⟨by rfl, ?x383y⟩) hHeld ?x383r
                    case x383y => (intro w hSw; (try dsimp only at hSw); go_simp; try with_reducible rfl)
                    try simp only [Act.put, List.setIfInBounds_toArray, List.set_cons_zero, List.set_cons_succ]
                    refine wpH_take (i := 20) (some 157) (v := ?x384v) rfl (by kernel_rfl) (by kernel_rfl) (by kernel_rfl) rfl (fun _ _ _ h => h) (Or.inl ⟨by rfl, ?x384y⟩) hHeld ?x384r
                    case x384y => (intro w hSw; (try dsimp only at hSw); go_simp; try with_reducible rfl)
                    try simp only [Act.put, List.setIfInBounds_toArray, List.set_cons_zero, List.set_cons_succ]
                    refine wpH_take (i := 21) (some 158) (v := ?x385v) rfl (by kernel_rfl) (by kernel_rfl) (by kernel_rfl) rfl (fun _ _ _ h => h) (Or.inl ⟨by rfl, ?x385y⟩) hHeld ?x385r
                    case x385y => (intro w hSw; (try dsimp only at hSw); go_simp; try with_reducible rfl)
                    try simp only [Act.put, List.setIfInBounds_toArray, List.set_cons_zero, List.set_cons_succ]
                    refine wpH_take (i := 22) (some 159) (v := ?x386v) rfl (by kernel_rfl) (by kernel_rfl) (by kernel_rfl) rfl (fun _ _ _ h => h) (Or.inl ⟨by rfl, ?x386y⟩) hHeld ?x386r
                    case x386y => (intro w hSw; (try dsimp only at hSw); go_simp; try with_reducible rfl)
                    try simp only [Act.put, List.setIfInBounds_toArray, List.set_cons_zero, List.set_cons_succ]
                    refine wpH_take (i := 23) (some 160) (v := ?x387v) rfl (by kernel_rfl) (by kernel_rfl) (by kernel_rfl) rfl (fun _ _ _ h => h) (Or.inl ⟨by rfl, ?x387y⟩) hHeld ?x387r
                    case x387y => (intro w hSw; (try dsimp only at hSw); go_simp; try with_reducible rfl)
                    try simp only [Act.put, List.setIfInBounds_toArray, List.set_cons_zero, List.set_cons_succ]
                    refine wpH_take (i := 24) (some 161) (v := ?x388v) rfl (by kernel_rfl) (by kernel_rfl) (by kernel_rfl) rfl (fun _ _ _ h => h) (Or.inl ⟨by rfl, ?x388y⟩) hHeld ?x388r
                    case x388y => (intro w hSw; (try dsimp only at hSw); go_simp; try with_reducible rfl)
                    try simp only [Act.put, List.setIfInBounds_toArray, List.set_cons_zero, List.set_cons_succ]
                    refine wpH_take (i := 25) (some 162) (v := ?x389v) rfl (by kernel_rfl) (by kernel_rfl) (by kernel_rfl) rfl (fun _ _ _ h => h) (Or.inl ⟨by rfl, ?x389y⟩) hHeld ?x389r
                    case x389y => (intro w hSw; (try dsimp only at hSw); go_simp; try with_reducible rfl)
                    try simp only [Act.put, List.setIfInBounds_toArray, List.set_cons_zero, List.set_cons_succ]
                    refine wpH_take (i := 26) (some 163) (v := ?x390v) rfl (by kernel_rfl) (by kernel_rfl) (by kernel_rfl) rfl (fun _ _ _ h => h) (Or.inl ⟨by rfl, ?x390y⟩) hHeld ?x390r
                    case x390y => (intro w hSw; (try dsimp only at hSw); go_simp; try with_reducible rfl)
                    try simp only [Act.put, List.setIfInBounds_toArray, List.set_cons_zero, List.set_cons_succ]
                    refine wpH_take (i := 27) (some 164) (v := ?x391v) rfl (by kernel_rfl) (by kernel_rfl) (by kernel_rfl) rfl (fun _ _ _ h => h) (Or.inl ⟨by rfl, ?x391y⟩) hHeld ?x391r
                    case x391y => (intro w hSw; (try dsimp only at hSw); go_simp; try with_reducible rfl)
                    try simp only [Act.put, List.setIfInBounds_toArray, List.set_cons_zero, List.set_cons_succ]
                    refine wpH_take (i := 28) (some 165) (v := ?x392v) rfl (by kernel_rfl) (by kernel_rfl) (by kernel_rfl) rfl (fun _ _ _ h => h) (Or.inl ⟨by rfl, ?x392y⟩) hHeld ?x392r
                    case x392y => (intro w hSw; (try dsimp only at hSw); go_simp; try with_reducible rfl)
                    try simp only [Act.put, List.setIfInBounds_toArray, List.set_cons_zero, List.set_cons_succ]
                    refine wpH_take (i := 29) (some 166) (v := ?x393v) rfl (by kernel_rfl) (by kernel_rfl) (by kernel_rfl) rfl (fun _ _ _ h => h) (Or.inl ⟨by rfl, ?x393y⟩) hHeld ?x393r
                    case x393y => (intro w hSw; (try dsimp only at hSw); go_simp; try with_reducible rfl)
                    try simp only [Act.put, List.setIfInBounds_toArray, List.set_cons_zero, List.set_cons_succ]
                    refine wpH_take (i := 30) (some 167) (v := ?x394v) rfl (by kernel_rfl) (by kernel_rfl) (by kernel_rfl) rfl (fun _ _ _ h => h) (Or.inl ⟨by rfl, ?x394y⟩) hHeld ?x394r
                    case x394y => (intro w hSw; (try dsimp only at hSw); go_simp; try with_reducible rfl)
                    try simp only [Act.put, List.setIfInBounds_toArray, List.set_cons_zero, List.set_cons_succ]
                    refine wpH_take (i := 31) (some 168) (v := ?x395v) rfl (by kernel_rfl) (by kernel_rfl) (by kernel_rfl) rfl (fun _ _ _ h => h) (Or.inl ⟨by rfl, ?x395y⟩) hHeld ?x395r
                    case x395y => (intro w hSw; (try dsimp only at hSw); go_simp; try with_reducible rfl)
                    try simp only [Act.put, List.setIfInBounds_toArray, List.set_cons_zero, List.set_cons_succ]
                    refine wpH_take (i := 32) (some 169) (v := ?x396v) rfl (by kernel_rfl) (by kernel_rfl) (by kernel_rfl) rfl (fun _ _ _ h => h) (Or.inl ⟨by rfl, ?x396y⟩) hHeld ?x396r
                    case x396y => (intro w hSw; (try dsimp only at hSw); go_simp; try with_reducible rfl)
                    try simp only [Act.put, List.setIfInBounds_toArray, List.set_cons_zero, List.set_cons_succ]
                    refine wpH_take (i := 33) (some 170) (v := ?x397v) rfl (by kernel_rfl) (by kernel_rfl) (by kernel_rfl) rfl (fun _ _ _ h => h) (Or.inl ⟨by rfl, ?x397y⟩) hHeld ?x397r
                    case x397y => (intro w hSw; (try dsimp only at hSw); go_simp; try with_reducible rfl)
                    try simp only [Act.put, List.setIfInBounds_toArray, List.set_cons_zero, List.set_cons_succ]
                    refine wpH_take (i := 34) (some 171) (v := ?x398v) rfl (by kernel_rfl) (by kernel_rfl) (by kernel_rfl) rfl (fun _ _ _ h => h) (Or.inl ⟨by rfl, ?x398y⟩) hHeld ?x398r
                    case x398y => (intro w hSw; (try dsimp only at hSw); go_simp; try with_reducible rfl)
                    try simp only [Act.put, List.setIfInBounds_toArray, List.set_cons_zero, List.set_cons_succ]
                    refine wpH_take (i := 35) (some 172) (v := ?x399v) rfl (by kernel_rfl) (by kernel_rfl) (by kernel_rfl) rfl (fun _ _ _ h => h) (Or.inl ⟨by rfl, ?x399y⟩) hHeld ?x399r
                    case x399y => (intro w hSw; (try dsimp only at hSw); go_simp; try with_reducible rfl)
                    try simp only [Act.put, List.setIfInBounds_toArray, List.set_cons_zero, List.set_cons_succ]
                    refine wpH_take (i := 36) (some 173) (v := ?x400v) rfl (by kernel_rfl) (by kernel_rfl) (by kernel_rfl) rfl (fun _ _ _ h => h) (Or.inl ⟨by rfl, ?x400y⟩) hHeld ?x400r
                    case x400y => (intro w hSw; (try dsimp only at hSw); go_simp; try with_reducible rfl)
                    try simp only [Act.put, List.setIfInBounds_toArray, List.set_cons_zero, List.set_cons_succ]
                    refine wpAnyH_done (by kernel_rfl) ?_ _
                    clear wm k3 k4 k5 ep dp m0 m1
                    rw [HKX.out] at e0
                    have x0 : (0 : Int) ≤ (kx : Int) := Int.natCast_nonneg _
                    have x1 : (kx : Int) < (m : Int) := by omega
                    have cA : w3.cell? ⟨w1.heap.size, kx, none⟩ = some (.int .i64 ((us.map Us.s ++ gs.map Gr.s ++ (ks.take i).map Ak.s).count (kx : Int) : Nat)) := OA3.out.cell (cntV_at hkm)
                    have fA := OA3.out.frozen
                    have hc0 : (us.map Us.s ++ gs.map Gr.s ++ (ks.take i).map Ak.s).count (kx : Int) ≤ 210 := by
                      have h := List.count_le_length (a := (kx : Int)) (l := us.map Us.s ++ gs.map Gr.s ++ (ks.take i).map Ak.s)
                      simp only [List.length_append, List.length_map, List.length_take] at h
                      omega
                    obtain ⟨cn, hcn⟩ : ∃ cn, (us.map Us.s ++ gs.map Gr.s ++ (ks.take i).map Ak.s).count (kx : Int) = cn := ⟨_, rfl⟩
                    rw [hcn] at cA hc0
                    have HCN := Lib.hid hcn
                    have hc1 : (0 : Int) ≤ (cn : Int) := Int.natCast_nonneg _
                    have hc2 : (cn : Int) ≤ 210 := by omega
                    clear hcn hc0 hs0 hs1
                    go_wp2_with fail
                    go_roundw
                    case rel =>
                      have h9 := OA3.out.set kx (.int .i64 ((cn : Int) + 1))
                      rw [← HCN.out, cntV_set hkm] at h9
                      refine ⟨i + 1, d.s, by omega, by go_num, by rw [HT.out, HS.out, HV.out, decide_eq_true (show last < d.s by exact H3.out)]; simp, fun h => by omega, fun n h => ⟨d, by obtain rfl : n = i := (by omega); exact HD.out, rfl⟩, ?_, ?_, belowSet' BC.out _ _ _ (Nat.le_refl _)⟩
                      · intro z hz
                        rw [take_snocG HD.out, List.map_append, ← List.append_assoc] at hz
                        rcases List.mem_append.1 hz with hz | hz
                        · exact HRR.out z (by simpa using hz)
                        · simp only [List.map_cons, List.map_nil, List.mem_singleton] at hz
                          rw [hz]; have := HKX.out; exact ⟨by omega, by omega⟩
                      · rw [take_snocG HD.out, List.map_append, ← List.append_assoc, List.map_cons, List.map_nil, HKX.out]
                        rw [HCN.out] at h9
                        exact h9
                    case measure => simp [intOf]; omega
            · obtain rfl : i = ks.length := by omega
              have HsndA := Lib.hid (show sndA N (m : Int) ks = true by rw [HT.out]; exact sndF_end (Nat.le_refl _))
              have HRA := HRR
              rw [List.take_length] at HRA OA
              rw [HsndA.out, Bool.true_and] at HRES
              clear t0 t1 t2 fT zT y0 y1 fL zL oTr oLr
              have oTr := Lib.hid (OT1.out.below BE.out)
              obtain ⟨t0, t1, t2, fT, zT⟩ := own3 oTr.out
              go_wp2_with fail
              obtain ⟨KS, hKS⟩ : ∃ KS, us.map Us.s ++ gs.map Gr.s ++ ks.map Ak.s = KS := ⟨_, rfl⟩
              have HR1 := Lib.hid (show RES = decide KS.Nodup by rw [HRES.out, ← hKS]; rfl)
              rw [hKS] at OA HRA
              have fA := OA.out.frozen
              clear hKS hlt hi j0 HT HZ HSS HRR HRU HRG HRES
              go_loop [9] (fun ii => ∃ (i : Nat), i ≤ m ∧ ii = .int .i64 i ∧ (∀ j, j < i → KS.count (j : Int) ≤ 1)) (fun i => m - (intOf i).toNat)
              case atStart => exact ⟨0, by omega, rfl, fun j h => by omega⟩
              case round =>
                obtain ⟨i, hi, rfl, hcn⟩ := hrel
                have HCN := Lib.hid hcn
                clear hcn
                have j0 : (0 : Int) ≤ (i : Int) := Int.natCast_nonneg _
                by_cases hlt : i < m
                · have j1 : (i : Int) < (m : Int) := by omega
                  have cA : wr.cell? ⟨w1.heap.size, i, none⟩ = some (.int .i64 (KS.count (i : Int) : Nat)) := OA.out.cell (cntV_at hlt)
                  obtain ⟨cn, hcn⟩ : ∃ cn, KS.count (i : Int) = cn := ⟨_, rfl⟩
                  rw [hcn] at cA
                  have HC := Lib.hid hcn
                  clear hcn
                  by_cases h1 : (1 : Int) < (cn : Int)
                  · have k1 : decide ((1 : Int) < (cn : Int)) = true := decide_eq_true h1
                    have k2 : decide (1 < cn) = true := decide_eq_true (by omega)
                    have H1 := Lib.hid h1
                    clear h1
                    go_wp2_with fail
                    go_ret
                    exact ⟨ret_bool (by rw [HR1.out, decide_eq_false (fun h => by have h2 := (nodup_count KS).1 h (i : Int); have h3 := HC.out; have h4 := H1.out; omega)]), BB1.out.trans (BE.out.mono BB1.out.size)⟩
                  · have k1 : decide ((1 : Int) < (cn : Int)) = false := decide_eq_false h1
                    have k2 : decide (1 < cn) = false := decide_eq_false (by omega)
                    have H1 := Lib.hid h1
                    clear h1
                    go_wp2_with fail
                    go_round
                    case rel => exact ⟨i + 1, by omega, by go_num, fun j hj => by
                      by_cases e : j = i
                      · rw [e, HC.out]; have := H1.out; omega
                      · exact HCN.out j (by omega)⟩
                    case measure => simp [intOf]; omega
                · obtain rfl : i = m := by omega
                  go_wp2_with fail
                  go_ret
                  exact ⟨ret_bool (by rw [HR1.out, decide_eq_true ((nodup_count KS).2 fun a => by
                    by_cases ha : a ∈ KS
                    · obtain ⟨h1, h2⟩ := HRA.out a ha
                      have := HCN.out a.toNat (by omega)
                      rwa [show ((a.toNat : Nat) : Int) = a by omega] at this
                    · rw [List.count_eq_zero.2 ha]; omega)]), BB1.out.trans (BE.out.mono BB1.out.size)⟩

theorem rvalid_any (vu vg va : Value) (us : List Us) (gs : List Gr) (ks : List Ak) (N D : Int) (w : World) (su : SlU w vu us) (sg : SlG w vg gs) (sa : SlA w va ks) (u70 : us.length ≤ 70) (g70 : gs.length ≤ 70) (k70 : ks.length ≤ 70) : Calls Try.prog 18 #[.agg #[vu, vg, va], .agg #[.int .i64 N, .int .i64 D]] w fun e w' => e = .returned (.bool (vldT N D us gs ks)) ∧ Below w.heap.size w w' := by
  cases hl : layB N D with
  | false => rw [vldT, hl]; exact rvld_t0 vu vg va us gs ks N D w su sg sa u70 g70 k70 hl
  | true =>
    cases L0 : decide (24 < (us.length : Int) + (gs.length : Int)) with
    | true =>
      have h := of_decide_eq_true L0
      have e : lenB us gs ks = false := by rw [← Bool.not_eq_true]; simp only [lenB, Bool.and_eq_true, decide_eq_true_eq]; omega
      rw [vldT, hl, e]; exact rvld_t1 vu vg va us gs ks N D w su sg sa u70 g70 k70 hl L0
    | false =>
      cases L1 : decide (24 < (ks.length : Int)) with
      | true =>
        have h := of_decide_eq_true L1
        have e : lenB us gs ks = false := by rw [← Bool.not_eq_true]; simp only [lenB, Bool.and_eq_true, decide_eq_true_eq]; omega
        rw [vldT, hl, e]; exact rvld_t2 vu vg va us gs ks N D w su sg sa u70 g70 k70 hl L0 L1
      | false =>
        have h4 := of_decide_eq_false L0
        have h5 := of_decide_eq_false L1
        have e : lenB us gs ks = true := by simp only [lenB, Bool.and_eq_true, decide_eq_true_eq]; omega
        rw [vldT, hl, e, Bool.true_and, Bool.true_and]; exact rvld_ok vu vg va us gs ks N D w su sg sa u70 g70 k70 hl L0 L1
theorem rvalid_lit (vu vg va : Value) (us : List Us) (gs : List Gr) (ks : List Ak) (N D : Int) (w : World) (su : SlU w vu us) (sg : SlG w vg gs) (sa : SlA w va ks) (u70 : us.length ≤ 70) (g70 : gs.length ≤ 70) (k70 : ks.length ≤ 70) (x : Bool) (h : vldT N D us gs ks = x) : Calls Try.prog 18 #[.agg #[vu, vg, va], .agg #[.int .i64 N, .int .i64 D]] w fun e w' => e = .returned (.bool x) ∧ Below w.heap.size w w' := by
  rw [← h]; exact rvalid_any vu vg va us gs ks N D w su sg sa u70 g70 k70

end Go.Proofs.Ytdmadnoijhmbcaa

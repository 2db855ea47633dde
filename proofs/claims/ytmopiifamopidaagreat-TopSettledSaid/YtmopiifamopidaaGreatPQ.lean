/- What the reference Valid returns, for slices of at most 70 entries. No condition but those named. -/
import Derived.Test.YtmopiifamopidaaGreatPF
import Derived.Laws.MakeOwn
import Derived.Test.YtmopiifamopidaaGreatPA
set_option linter.unusedVariables false
set_option linter.unusedSimpArgs false
section
namespace Go.Proofs.YtmopiifamopidaaGreat
open Go.RowKit
def cntV (m : Nat) (ks : List Int) : List Value := (List.range m).map fun (j : Nat) => Value.int .i64 (ks.count (j : Int) : Nat)
theorem cntV_at {m : Nat} {ks : List Int} {j : Nat} (h : j < m) : (cntV m ks)[j]? = some (.int .i64 (ks.count (j : Int))) := by
 rw [cntV, List.getElem?_map, List.getElem?_range h]; rfl
theorem cntV_set {m : Nat} {ks : List Int} {j : Nat} (h : j < m) : (cntV m ks).set j (.int .i64 ((ks.count (j : Int) : Int) + 1)) = cntV m (ks ++ [(j : Int)]) := by
 apply List.ext_getElem?
 intro i
 rw [List.getElem?_set]
 by_cases e : j = i
 ·subst e
  have hl : j < (cntV m ks).length := by rw [cntV, List.length_map, List.length_range]; exact h
  rw [if_pos rfl, if_pos hl, cntV_at h, List.count_append]
  simp
 ·rw [if_neg e]
  by_cases hi : i < m
  ·rw [cntV_at hi, cntV_at hi, List.count_append, List.count_eq_zero.2 (show (i : Int) ∉ [(j : Int)] by simp; omega)]
   simp
  ·rw [List.getElem?_eq_none (by rw [cntV, List.length_map, List.length_range]; omega), List.getElem?_eq_none (by rw [cntV, List.length_map, List.length_range]; omega)]
theorem info_int : (Tryz.prog.info? 3).map (fun i => (i.zero, i.size, i.bytes)) = some (some (.int .i64 0), 1, 8) := by kernel_rfl
theorem rmake (m : Nat) (hm : m ≤ 60) (w : World) : (Instr.makeSlice 29 (.int .i64 (m : Int)) (.int .i64 (m : Int))).run Tryz.prog w = .ok (.slice (some ⟨w.heap.size, 0, none⟩) m m) (w.alloc (.cells (cntV m []).toArray 3)) := by
 obtain ⟨i0, hi, hz, hs0, hb0⟩ := info_parts info_int
 have h := run_make w 29 3 i0 (.int .i64 0) (by kernel_rfl) hi hz .i64 .i64 (m : Int) (m : Int) (by omega) (by omega) (by rw [hb0]; omega) (by omega)
 rw [h]
 have e : madeCells (Value.cells (.int .i64 0)) (((m : Int)).toNat * i0.size) = (cntV m []).toArray := by
  rw [hs0, show Value.cells (.int .i64 0) = #[.int .i64 0] from rfl]
  apply Array.ext'
  rw [toList_madeCells_one]
  refine (List.eq_replicate_iff.2 ⟨by simp [cntV], fun b hb => ?_⟩).symm
  simp only [cntV, List.count_nil, List.mem_map] at hb
  obtain ⟨j, _, rfl⟩ := hb
  rfl
 rw [e]
 simp
set_option maxRecDepth 100000 in
set_option maxHeartbeats 2000000 in
theorem rvld_t0 (vu vg va : Value) (us : List Us) (gs : List Gr) (ks : List Ak) (N D : Int) (w : World) (su : SlU w vu us) (sg : SlG w vg gs) (sa : SlA w va ks) (u70 : us.length ≤ 70) (g70 : gs.length ≤ 70) (k70 : ks.length ≤ 70) (hl : layB N D = false) : Calls Tryz.prog 9 #[.agg #[vu, vg, va], .agg #[.int .i64 N, .int .i64 D]] w fun e w' => e = .returned (.bool false) ∧ Below w.heap.size w w' := by
 obtain ⟨pu, cu, e0, hlu, hcu, _⟩ := su.form us.length rfl
 subst e0
 obtain ⟨pg, cg, e0, hlg, hcg, _⟩ := sg.form gs.length rfl
 subst e0
 obtain ⟨pa, ca, e0, hla, hca, _⟩ := sa.form ks.length rfl
 subst e0
 have SU := Lib.hid su
 have SG := Lib.hid sg
 have SA := Lib.hid sa
 clear su sg sa
 have iu0 : (0 : Int) ≤ (us.length : Int) := Int.natCast_nonneg _
 have ig0 : (0 : Int) ≤ (gs.length : Int) := Int.natCast_nonneg _
 have ia0 : (0 : Int) ≤ (ks.length : Int) := Int.natCast_nonneg _
 have iu : (us.length : Int) ≤ 70 := by omega
 have ig : (gs.length : Int) ≤ 70 := by omega
 have ia : (ks.length : Int) ≤ 70 := by omega
 have HL := Lib.hid hl
 clear hl
 go_enter Tryz.func9, Tryz.ntmps9
 go_wp2_with fail
 refine (rlay_lit N D false _ HL.out).mono ?_
 rintro e w1 ⟨rfl, hb⟩
 have oT : Own w1 w.heap.size [.slice pu us.length cu, .slice pg gs.length cg, .slice pa ks.length ca] 43 := ((own_at _ _ rfl).alloc _).below hb
 have oL : Own w1 (w.heap.size + 1) [.int .i64 N, .int .i64 D] 31 := (own_at _ _ (by simp)).below hb
 have bel := belowTo (((Below.refl w.heap.size w).alloc (by simp) _).alloc (by simp) _) hb (by simp; omega)
 clear hb
 obtain ⟨cT0, cT1, cT2, fT, zT⟩ := own3 oT
 obtain ⟨cL0, cL1, fL, zL⟩ := own2 oL
 go_wp2_with fail
 go_ret
 exact ⟨rfl, bel⟩
set_option maxRecDepth 100000 in
set_option maxHeartbeats 2000000 in
theorem rvld_t1 (vu vg va : Value) (us : List Us) (gs : List Gr) (ks : List Ak) (N D : Int) (w : World) (su : SlU w vu us) (sg : SlG w vg gs) (sa : SlA w va ks) (u70 : us.length ≤ 70) (g70 : gs.length ≤ 70) (k70 : ks.length ≤ 70) (hl : layB N D = true) (L0 : decide (24 < (us.length : Int) + (gs.length : Int)) = true) : Calls Tryz.prog 9 #[.agg #[vu, vg, va], .agg #[.int .i64 N, .int .i64 D]] w fun e w' => e = .returned (.bool false) ∧ Below w.heap.size w w' := by
 obtain ⟨pu, cu, e0, hlu, hcu, _⟩ := su.form us.length rfl
 subst e0
 obtain ⟨pg, cg, e0, hlg, hcg, _⟩ := sg.form gs.length rfl
 subst e0
 obtain ⟨pa, ca, e0, hla, hca, _⟩ := sa.form ks.length rfl
 subst e0
 have SU := Lib.hid su
 have SG := Lib.hid sg
 have SA := Lib.hid sa
 clear su sg sa
 have iu0 : (0 : Int) ≤ (us.length : Int) := Int.natCast_nonneg _
 have ig0 : (0 : Int) ≤ (gs.length : Int) := Int.natCast_nonneg _
 have ia0 : (0 : Int) ≤ (ks.length : Int) := Int.natCast_nonneg _
 have iu : (us.length : Int) ≤ 70 := by omega
 have ig : (gs.length : Int) ≤ 70 := by omega
 have ia : (ks.length : Int) ≤ 70 := by omega
 have HL := Lib.hid hl
 clear hl
 go_enter Tryz.func9, Tryz.ntmps9
 go_wp2_with fail
 refine (rlay_lit N D true _ HL.out).mono ?_
 rintro e w1 ⟨rfl, hb⟩
 have oT : Own w1 w.heap.size [.slice pu us.length cu, .slice pg gs.length cg, .slice pa ks.length ca] 43 := ((own_at _ _ rfl).alloc _).below hb
 have oL : Own w1 (w.heap.size + 1) [.int .i64 N, .int .i64 D] 31 := (own_at _ _ (by simp)).below hb
 have bel := belowTo (((Below.refl w.heap.size w).alloc (by simp) _).alloc (by simp) _) hb (by simp; omega)
 clear hb
 obtain ⟨cT0, cT1, cT2, fT, zT⟩ := own3 oT
 obtain ⟨cL0, cL1, fL, zL⟩ := own2 oL
 go_wp2_with fail
 go_ret
 exact ⟨rfl, bel⟩
set_option maxRecDepth 100000 in
set_option maxHeartbeats 2000000 in
theorem rvld_t2 (vu vg va : Value) (us : List Us) (gs : List Gr) (ks : List Ak) (N D : Int) (w : World) (su : SlU w vu us) (sg : SlG w vg gs) (sa : SlA w va ks) (u70 : us.length ≤ 70) (g70 : gs.length ≤ 70) (k70 : ks.length ≤ 70) (hl : layB N D = true) (L0 : decide (24 < (us.length : Int) + (gs.length : Int)) = false) (L1 : decide (24 < (ks.length : Int)) = true) : Calls Tryz.prog 9 #[.agg #[vu, vg, va], .agg #[.int .i64 N, .int .i64 D]] w fun e w' => e = .returned (.bool false) ∧ Below w.heap.size w w' := by
 obtain ⟨pu, cu, e0, hlu, hcu, _⟩ := su.form us.length rfl
 subst e0
 obtain ⟨pg, cg, e0, hlg, hcg, _⟩ := sg.form gs.length rfl
 subst e0
 obtain ⟨pa, ca, e0, hla, hca, _⟩ := sa.form ks.length rfl
 subst e0
 have SU := Lib.hid su
 have SG := Lib.hid sg
 have SA := Lib.hid sa
 clear su sg sa
 have iu0 : (0 : Int) ≤ (us.length : Int) := Int.natCast_nonneg _
 have ig0 : (0 : Int) ≤ (gs.length : Int) := Int.natCast_nonneg _
 have ia0 : (0 : Int) ≤ (ks.length : Int) := Int.natCast_nonneg _
 have iu : (us.length : Int) ≤ 70 := by omega
 have ig : (gs.length : Int) ≤ 70 := by omega
 have ia : (ks.length : Int) ≤ 70 := by omega
 have HL := Lib.hid hl
 clear hl
 go_enter Tryz.func9, Tryz.ntmps9
 go_wp2_with fail
 refine (rlay_lit N D true _ HL.out).mono ?_
 rintro e w1 ⟨rfl, hb⟩
 have oT : Own w1 w.heap.size [.slice pu us.length cu, .slice pg gs.length cg, .slice pa ks.length ca] 43 := ((own_at _ _ rfl).alloc _).below hb
 have oL : Own w1 (w.heap.size + 1) [.int .i64 N, .int .i64 D] 31 := (own_at _ _ (by simp)).below hb
 have bel := belowTo (((Below.refl w.heap.size w).alloc (by simp) _).alloc (by simp) _) hb (by simp; omega)
 clear hb
 obtain ⟨cT0, cT1, cT2, fT, zT⟩ := own3 oT
 obtain ⟨cL0, cL1, fL, zL⟩ := own2 oL
 go_wp2_with fail
 go_ret
 exact ⟨rfl, bel⟩
set_option maxRecDepth 100000 in
set_option maxHeartbeats 2000000 in
theorem rvld_ok (vu vg va : Value) (us : List Us) (gs : List Gr) (ks : List Ak) (N D : Int) (w : World) (su : SlU w vu us) (sg : SlG w vg gs) (sa : SlA w va ks) (u70 : us.length ≤ 70) (g70 : gs.length ≤ 70) (k70 : ks.length ≤ 70) (hl : layB N D = true) (L0 : decide (24 < (us.length : Int) + (gs.length : Int)) = false) (L1 : decide (24 < (ks.length : Int)) = false) : Calls Tryz.prog 9 #[.agg #[vu, vg, va], .agg #[.int .i64 N, .int .i64 D]] w fun e w' => e = .returned (.bool (sndU N D us && (sndG N D gs && (sndA N D ks && oneB us gs ks)))) ∧ Below w.heap.size w w' := by
 have hl' := layB_iff.1 hl
 obtain ⟨m, rfl⟩ : ∃ m : Nat, D = (m : Int) := ⟨D.toNat, by omega⟩
 have hm60 : m ≤ 60 := by omega
 have hm1 : 1 ≤ m := by omega
 obtain ⟨RES, hres⟩ : ∃ RES, (sndU N (m : Int) us && (sndG N (m : Int) gs && (sndA N (m : Int) ks && oneB us gs ks))) = RES := ⟨_, rfl⟩
 rw [hres]
 have HRES := Lib.hid hres.symm
 have hmk := rmake m hm60
 have i0' : (0 : Int) ≤ (m : Int) := Int.natCast_nonneg _
 have i1' : (m : Int) ≤ 60 := by omega
 clear hl' hres
 obtain ⟨pu, cu, e0, hlu, hcu, _⟩ := su.form us.length rfl
 subst e0
 obtain ⟨pg, cg, e0, hlg, hcg, _⟩ := sg.form gs.length rfl
 subst e0
 obtain ⟨pa, ca, e0, hla, hca, _⟩ := sa.form ks.length rfl
 subst e0
 have SU := Lib.hid su
 have SG := Lib.hid sg
 have SA := Lib.hid sa
 clear su sg sa
 have iu0 : (0 : Int) ≤ (us.length : Int) := Int.natCast_nonneg _
 have ig0 : (0 : Int) ≤ (gs.length : Int) := Int.natCast_nonneg _
 have ia0 : (0 : Int) ≤ (ks.length : Int) := Int.natCast_nonneg _
 have iu : (us.length : Int) ≤ 70 := by omega
 have ig : (gs.length : Int) ≤ 70 := by omega
 have ia : (ks.length : Int) ≤ 70 := by omega
 have HL := Lib.hid hl
 clear hl
 go_enter Tryz.func9, Tryz.ntmps9
 go_wp2_with fail
 refine (rlay_lit N (m : Int) true _ HL.out).mono ?_
 rintro e w1 ⟨rfl, hb⟩
 have oT : Own w1 w.heap.size [.slice pu us.length cu, .slice pg gs.length cg, .slice pa ks.length ca] 43 := ((own_at _ _ rfl).alloc _).below hb
 have oL : Own w1 (w.heap.size + 1) [.int .i64 N, .int .i64 (m : Int)] 31 := (own_at _ _ (by simp)).below hb
 have bel := belowTo (((Below.refl w.heap.size w).alloc (by simp) _).alloc (by simp) _) hb (by simp; omega)
 clear hb
 obtain ⟨cT0, cT1, cT2, fT, zT⟩ := own3 oT
 obtain ⟨cL0, cL1, fL, zL⟩ := own2 oL
 have OT1 := Lib.hid oT
 have OL1 := Lib.hid oL
 have SU1 := Lib.hid (SU.out.below bel)
 have SG1 := Lib.hid (SG.out.below bel)
 have SA1 := Lib.hid (SA.out.below bel)
 have BB1 := Lib.hid bel
 have OA0 := Lib.hid (own_at (w := w1) (cntV m []) 3 rfl)
 have B0 := Lib.hid (belowNew w1 (.cells (cntV m []).toArray 3))
 clear SU SG SA oT oL bel
 go_wp2_with fail
 clear cT0 cT1 cT2 fT zT cL0 cL1 fL zL
 go_loopw [6] (fun ii wr => ∃ (i : Nat) (last : Int), i ≤ us.length ∧ ii = .int .i64 i ∧ sndU N (m : Int) us = sndF (usB N (m : Int)) Us.s last (us.drop i) ∧ (i = 0 → last = -1) ∧ (∀ n, i = n + 1 → ∃ pv, us[n]? = some pv ∧ Us.s pv = last) ∧ (∀ z ∈ (us.take i).map Us.s, 0 ≤ z ∧ z < (m : Int)) ∧ Own wr w1.heap.size (cntV m ((us.take i).map Us.s)) 3 ∧ Below w1.heap.size w1 wr) (fun i _ => us.length - (intOf i).toNat)
 case atStart => exact ⟨0, -1, by omega, rfl, rfl, fun _ => rfl, fun n h => by omega, by simp, OA0.out, B0.out⟩
 case round =>
  obtain ⟨i, last, hi, rfl, hT, hz, hs, hr, hoa, bel⟩ := hrel
  have HT := Lib.hid hT
  have HZ := Lib.hid hz
  have HSS := Lib.hid hs
  have HRR := Lib.hid hr
  have OA := Lib.hid hoa
  have BE := Lib.hid bel
  clear hT hz hs hr hoa bel
  have j0 : (0 : Int) ≤ (i : Int) := Int.natCast_nonneg _
  have oTr := Lib.hid (OT1.out.below BE.out)
  have oLr := Lib.hid (OL1.out.below BE.out)
  obtain ⟨t0, t1, t2, fT, zT⟩ := own3 oTr.out
  obtain ⟨y0, y1, fL, zL⟩ := own2 oLr.out
  by_cases hlt : i < us.length
  ·obtain ⟨d, b, off, hd, rfl, hbl, _, d0, d1, d2, d3⟩ := SU1.out.atU BE.out hlt
   have j1 : (i : Int) < (us.length : Int) := by omega
   have HD := Lib.hid hd
   have HS := Lib.hid (sndF_step (ok := usB N (m : Int)) (sl := Us.s) (last := last) hd)
   clear hd
   cases hv : usB N (m : Int) d with
   | false =>
    have HV := Lib.hid hv
    clear hv
    go_wp2_with fail
    refine region_H 30 #[false, false, false, false, false, false, false, false, false, false, false, false, false, false, false, false, false, false, false, false, false, false, false, false, false, false, false, false, false, false] (by kernel_rfl) (by kernel_rfl) (fun w' => w'.cell? ⟨w.heap.size, 0, none⟩ = some (.slice (some ⟨b, off, none⟩) us.length cu) ∧ w'.cell? ⟨w.heap.size + 1, 0, none⟩ = some (.int .i64 N) ∧ w'.cell? ⟨w.heap.size + 1, 1, none⟩ = some (.int .i64 (m : Int)) ∧ w'.cell? ⟨b, off + i * 4, none⟩ = some (.int .i64 d.s) ∧ w'.cell? ⟨b, off + i * 4 + 1, none⟩ = some (.int .i64 d.o) ∧ w'.cell? ⟨b, off + i * 4 + 2, none⟩ = some (.int .i64 d.p) ∧ w'.cell? ⟨b, off + i * 4 + 3, none⟩ = some (.int .i64 d.m)) (by kernel_rfl) ?x1s (fun hHeld => ?x1r)
    case x1s => exact ⟨t0, y0, y1, d0, d1, d2, d3⟩
    refine tH 0 39 ?_
    refine tH 1 40 ?_
    refine tH 2 41 ?_
    refine tH 3 42 ?_
    refine tH 4 43 ?_
    refine tH 5 44 ?_
    refine wpH_one (i := 6) (by kernel_rfl) rfl (fun K hK => ?_)
    rw [if_pos (by rfl)]
    go_simp
    refine (ruval_lit d N (m : Int) false _ HV.out).mono ?_
    rintro e w3 ⟨rfl, hb⟩
    have BC := Lib.hid (BE.out.drew.trans (hb.mono BE.out.size))
    have OA3 := Lib.hid (OA.out.drew.below hb)
    have oT3 := Lib.hid (oTr.out.drew.below hb)
    have oL3 := Lib.hid (oLr.out.drew.below hb)
    obtain ⟨u0, u1, u2, fT3, zT3⟩ := own3 oT3.out
    obtain ⟨v0, v1, fL3, zL3⟩ := own2 oL3.out
    have e0 : w3.cell? ⟨b, off + i * 4, none⟩ = some (.int .i64 d.s) := (hb.cell (p := ⟨b, off + i * 4, none⟩) hbl).trans d0
    have e1 : w3.cell? ⟨b, off + i * 4 + 1, none⟩ = some (.int .i64 d.o) := (hb.cell (p := ⟨b, off + i * 4 + 1, none⟩) hbl).trans d1
    have e2 : w3.cell? ⟨b, off + i * 4 + 2, none⟩ = some (.int .i64 d.p) := (hb.cell (p := ⟨b, off + i * 4 + 2, none⟩) hbl).trans d2
    have e3 : w3.cell? ⟨b, off + i * 4 + 3, none⟩ = some (.int .i64 d.m) := (hb.cell (p := ⟨b, off + i * 4 + 3, none⟩) hbl).trans d3
    clear hb
    refine hK.out _ _ (⟨u0, v0, v1, e0, e1, e2, e3⟩) ?_
    clear hK K hHeld
    intro hHeld
    try simp only [Act.put, List.setIfInBounds_toArray, List.set_cons_zero, List.set_cons_succ]
    refine tH 7 46 ?_
    refine tH 8 47 ?_
    refine nH 9 48 ?_
    refine nH 10 49 ?_
    refine nH 11 50 ?_
    refine nH 12 51 ?_
    refine nH 13 52 ?_
    refine nH 14 53 ?_
    refine nH 15 54 ?_
    refine nH 16 55 ?_
    refine nH 17 56 ?_
    refine nH 18 57 ?_
    refine nH 19 58 ?_
    refine nH 20 59 ?_
    refine nH 21 60 ?_
    refine nH 22 61 ?_
    refine nH 23 62 ?_
    refine nH 24 63 ?_
    refine nH 25 64 ?_
    refine nH 26 65 ?_
    refine nH 27 66 ?_
    refine nH 28 67 ?_
    refine tH 29 68 ?_
    refine wpAnyH_done (by kernel_rfl) ?_ _
    go_wp2_with fail
    go_ret
    exact ⟨ret_bool (by rw [HRES.out, HT.out, HS.out, HV.out]; simp), BB1.out.trans (BC.out.mono BB1.out.size)⟩
   | true =>
    have HV := Lib.hid hv
    have hsl := u_slot hv
    obtain ⟨hs0, hs1⟩ := hsl
    obtain ⟨kx, hkx⟩ : ∃ kx : Nat, d.s = (kx : Int) := ⟨d.s.toNat, by omega⟩
    have HKX := Lib.hid hkx
    have hkm : kx < m := by omega
    clear hv hkx
    by_cases h0 : i = 0
    ·have k3 : decide ((0 : Int) < (i : Int)) = false := decide_eq_false (by omega)
     have k4 : decide (0 < i) = false := decide_eq_false (by omega)
     have HL0 := Lib.hid (HZ.out h0)
     have H00 := Lib.hid h0
     clear h0
     go_wp2_with fail
     refine region_H 30 #[false, false, false, false, false, false, false, false, false, false, false, false, false, false, false, false, false, false, false, false, false, false, false, false, false, false, false, false, false, false] (by kernel_rfl) (by kernel_rfl) (fun w' => w'.cell? ⟨w.heap.size, 0, none⟩ = some (.slice (some ⟨b, off, none⟩) us.length cu) ∧ w'.cell? ⟨w.heap.size + 1, 0, none⟩ = some (.int .i64 N) ∧ w'.cell? ⟨w.heap.size + 1, 1, none⟩ = some (.int .i64 (m : Int)) ∧ w'.cell? ⟨b, off + i * 4, none⟩ = some (.int .i64 d.s) ∧ w'.cell? ⟨b, off + i * 4 + 1, none⟩ = some (.int .i64 d.o) ∧ w'.cell? ⟨b, off + i * 4 + 2, none⟩ = some (.int .i64 d.p) ∧ w'.cell? ⟨b, off + i * 4 + 3, none⟩ = some (.int .i64 d.m)) (by kernel_rfl) ?x32s (fun hHeld => ?x32r)
     case x32s => exact ⟨t0, y0, y1, d0, d1, d2, d3⟩
     refine tH 0 39 ?_
     refine tH 1 40 ?_
     refine tH 2 41 ?_
     refine tH 3 42 ?_
     refine tH 4 43 ?_
     refine tH 5 44 ?_
     refine wpH_one (i := 6) (by kernel_rfl) rfl (fun K hK => ?_)
     rw [if_pos (by rfl)]
     go_simp
     refine (ruval_lit d N (m : Int) true _ HV.out).mono ?_
     rintro e w3 ⟨rfl, hb⟩
     have BC := Lib.hid (BE.out.drew.trans (hb.mono BE.out.size))
     have OA3 := Lib.hid (OA.out.drew.below hb)
     have oT3 := Lib.hid (oTr.out.drew.below hb)
     have oL3 := Lib.hid (oLr.out.drew.below hb)
     obtain ⟨u0, u1, u2, fT3, zT3⟩ := own3 oT3.out
     obtain ⟨v0, v1, fL3, zL3⟩ := own2 oL3.out
     have e0 : w3.cell? ⟨b, off + i * 4, none⟩ = some (.int .i64 d.s) := (hb.cell (p := ⟨b, off + i * 4, none⟩) hbl).trans d0
     have e1 : w3.cell? ⟨b, off + i * 4 + 1, none⟩ = some (.int .i64 d.o) := (hb.cell (p := ⟨b, off + i * 4 + 1, none⟩) hbl).trans d1
     have e2 : w3.cell? ⟨b, off + i * 4 + 2, none⟩ = some (.int .i64 d.p) := (hb.cell (p := ⟨b, off + i * 4 + 2, none⟩) hbl).trans d2
     have e3 : w3.cell? ⟨b, off + i * 4 + 3, none⟩ = some (.int .i64 d.m) := (hb.cell (p := ⟨b, off + i * 4 + 3, none⟩) hbl).trans d3
     clear hb
     refine hK.out _ _ (⟨u0, v0, v1, e0, e1, e2, e3⟩) ?_
     clear hK K hHeld
     intro hHeld
     try simp only [Act.put, List.setIfInBounds_toArray, List.set_cons_zero, List.set_cons_succ]
     refine tH 7 46 ?_
     refine tH 8 47 ?_
     refine tH 9 48 ?_
     refine tH 10 49 ?_
     refine tH 11 50 ?_
     refine nH 12 51 ?_
     refine nH 13 52 ?_
     refine nH 14 53 ?_
     refine nH 15 54 ?_
     refine nH 16 55 ?_
     refine nH 17 56 ?_
     refine nH 18 57 ?_
     refine nH 19 58 ?_
     refine nH 20 59 ?_
     refine nH 21 60 ?_
     refine nH 22 61 ?_
     refine nH 23 62 ?_
     refine nH 24 63 ?_
     refine nH 25 64 ?_
     refine nH 26 65 ?_
     refine nH 27 66 ?_
     refine tH 28 67 ?_
     refine tH 29 68 ?_
     refine wpAnyH_done (by kernel_rfl) ?_ _
     rw [HKX.out] at e0
     have x0 : (0 : Int) ≤ (kx : Int) := Int.natCast_nonneg _
     have x1 : (kx : Int) < (m : Int) := by omega
     have cA : w3.cell? ⟨w1.heap.size, kx, none⟩ = some (.int .i64 (((us.take i).map Us.s).count (kx : Int) : Nat)) := OA3.out.cell (cntV_at hkm)
     have fA := OA3.out.frozen
     have hc0 : ((us.take i).map Us.s).count (kx : Int) ≤ 210 := by
      have h := List.count_le_length (a := (kx : Int)) (l := (us.take i).map Us.s)
      simp only [List.length_append, List.length_map, List.length_take] at h
      omega
     obtain ⟨cn, hcn⟩ : ∃ cn, ((us.take i).map Us.s).count (kx : Int) = cn := ⟨_, rfl⟩
     rw [hcn] at cA hc0
     have HCN := Lib.hid hcn
     have hc1 : (0 : Int) ≤ (cn : Int) := Int.natCast_nonneg _
     have hc2 : (cn : Int) ≤ 210 := by omega
     clear hcn hc0 hs0 hs1
     go_wp2_with fail
     go_roundw
     case rel =>
      have h9 := OA3.out.set kx (.int .i64 ((cn : Int) + 1))
      rw [← HCN.out, cntV_set hkm] at h9
      refine ⟨i + 1, d.s, by omega, by go_num, by rw [HT.out, HS.out, HV.out, decide_eq_true (show last < d.s by have h1 := HL0.out; have h2 := HKX.out; omega)]; simp, fun h => by omega, fun n h => ⟨d, by obtain rfl : n = i := (by omega); exact HD.out, rfl⟩, ?_, ?_, belowSet' BC.out _ _ _ (Nat.le_refl _)⟩
      ·intro z hz
       rw [take_snocG HD.out, List.map_append] at hz
       rcases List.mem_append.1 hz with hz | hz
       ·exact HRR.out z hz
       ·simp only [List.map_cons, List.map_nil, List.mem_singleton] at hz
        rw [hz]; have := HKX.out; exact ⟨by omega, by omega⟩
      ·rw [take_snocG HD.out, List.map_append, List.map_cons, List.map_nil, HKX.out]
       rw [HCN.out] at h9
       exact h9
     case measure => simp [intOf]; omega
    ·obtain ⟨n, hn⟩ : ∃ n, i = n + 1 := ⟨i - 1, by omega⟩
     obtain ⟨pv, hpv, hl⟩ := HSS.out n hn
     obtain ⟨pv', b', off', hpv', e', _, _, dp, _, _, _⟩ := SU1.out.atU BE.out (i := n) (by omega)
     cases e'
     obtain rfl : pv = pv' := by rw [hpv] at hpv'; exact Option.some.inj hpv'
     have k3 : decide ((0 : Int) < (i : Int)) = true := decide_eq_true (by omega)
     have k4 : decide (0 < i) = true := decide_eq_true (by omega)
     have m0 : (0 : Int) ≤ (n : Int) := Int.natCast_nonneg _
     have m1 : (n : Int) < (us.length : Int) := by omega
     have HL := Lib.hid hl
     have wm : IntKind.i64.wrap ((i : Int) - 1) = (n : Int) := by rw [IntWalk.i64_in _ (by omega)]; omega
     clear hpv hpv' hl hn h0
     by_cases h5 : d.s ≤ pv.s
     ·have k5 : decide (d.s ≤ pv.s) = true := decide_eq_true h5
      have H3 := Lib.hid (show decide (last < d.s) = false from decide_eq_false (by have := HL.out; omega))
      clear h5 hs0 hs1
      go_wp2_with fail
      refine region_H 30 #[false, false, false, false, false, false, false, false, false, false, false, false, false, false, false, false, false, false, false, false, false, false, false, false, false, false, false, false, false, false] (by kernel_rfl) (by kernel_rfl) (fun w' => w'.cell? ⟨w.heap.size, 0, none⟩ = some (.slice (some ⟨b, off, none⟩) us.length cu) ∧ w'.cell? ⟨w.heap.size + 1, 0, none⟩ = some (.int .i64 N) ∧ w'.cell? ⟨w.heap.size + 1, 1, none⟩ = some (.int .i64 (m : Int)) ∧ w'.cell? ⟨b, off + i * 4, none⟩ = some (.int .i64 d.s) ∧ w'.cell? ⟨b, off + i * 4 + 1, none⟩ = some (.int .i64 d.o) ∧ w'.cell? ⟨b, off + i * 4 + 2, none⟩ = some (.int .i64 d.p) ∧ w'.cell? ⟨b, off + i * 4 + 3, none⟩ = some (.int .i64 d.m) ∧ w'.cell? ⟨b, off + n * 4, none⟩ = some (.int .i64 pv.s)) (by kernel_rfl) ?x63s (fun hHeld => ?x63r)
      case x63s => exact ⟨t0, y0, y1, d0, d1, d2, d3, dp⟩
      refine tH 0 39 ?_
      refine tH 1 40 ?_
      refine tH 2 41 ?_
      refine tH 3 42 ?_
      refine tH 4 43 ?_
      refine tH 5 44 ?_
      refine wpH_one (i := 6) (by kernel_rfl) rfl (fun K hK => ?_)
      rw [if_pos (by rfl)]
      go_simp
      refine (ruval_lit d N (m : Int) true _ HV.out).mono ?_
      rintro e w3 ⟨rfl, hb⟩
      have BC := Lib.hid (BE.out.drew.trans (hb.mono BE.out.size))
      have OA3 := Lib.hid (OA.out.drew.below hb)
      have oT3 := Lib.hid (oTr.out.drew.below hb)
      have oL3 := Lib.hid (oLr.out.drew.below hb)
      obtain ⟨u0, u1, u2, fT3, zT3⟩ := own3 oT3.out
      obtain ⟨v0, v1, fL3, zL3⟩ := own2 oL3.out
      have e0 : w3.cell? ⟨b, off + i * 4, none⟩ = some (.int .i64 d.s) := (hb.cell (p := ⟨b, off + i * 4, none⟩) hbl).trans d0
      have e1 : w3.cell? ⟨b, off + i * 4 + 1, none⟩ = some (.int .i64 d.o) := (hb.cell (p := ⟨b, off + i * 4 + 1, none⟩) hbl).trans d1
      have e2 : w3.cell? ⟨b, off + i * 4 + 2, none⟩ = some (.int .i64 d.p) := (hb.cell (p := ⟨b, off + i * 4 + 2, none⟩) hbl).trans d2
      have e3 : w3.cell? ⟨b, off + i * 4 + 3, none⟩ = some (.int .i64 d.m) := (hb.cell (p := ⟨b, off + i * 4 + 3, none⟩) hbl).trans d3
      have ep : w3.cell? ⟨b, off + n * 4, none⟩ = some (.int .i64 pv.s) := (hb.cell (p := ⟨b, off + n * 4, none⟩) hbl).trans dp
      clear hb
      refine hK.out _ _ (⟨u0, v0, v1, e0, e1, e2, e3, ep⟩) ?_
      clear hK K hHeld
      intro hHeld
      try simp only [Act.put, List.setIfInBounds_toArray, List.set_cons_zero, List.set_cons_succ]
      refine tH 7 46 ?_
      refine tH 8 47 ?_
      refine tH 9 48 ?_
      refine tH 10 49 ?_
      refine tH 11 50 ?_
      refine tH 12 51 ?_
      refine tH 13 52 ?_
      refine tH 14 53 ?_
      refine tH 15 54 ?_
      refine tH 16 55 ?_
      refine tH 17 56 ?_
      refine tH 18 57 ?_
      refine tH 19 58 ?_
      refine tH 20 59 ?_
      refine tH 21 60 ?_
      refine tH 22 61 ?_
      refine tH 23 62 ?_
      refine tH 24 63 ?_
      refine tH 25 64 ?_
      refine tH 26 65 ?_
      refine tH 27 66 ?_
      refine tH 28 67 ?_
      refine tH 29 68 ?_
      refine wpAnyH_done (by kernel_rfl) ?_ _
      go_wp2_with fail
      go_ret
      exact ⟨ret_bool (by rw [HRES.out, HT.out, HS.out, H3.out]; simp), BB1.out.trans (BC.out.mono BB1.out.size)⟩
     ·have k5 : decide (d.s ≤ pv.s) = false := decide_eq_false h5
      have H3 := Lib.hid (show last < d.s by have := HL.out; omega)
      clear h5
      go_wp2_with fail
      refine region_H 30 #[false, false, false, false, false, false, false, false, false, false, false, false, false, false, false, false, false, false, false, false, false, false, false, false, false, false, false, false, false, false] (by kernel_rfl) (by kernel_rfl) (fun w' => w'.cell? ⟨w.heap.size, 0, none⟩ = some (.slice (some ⟨b, off, none⟩) us.length cu) ∧ w'.cell? ⟨w.heap.size + 1, 0, none⟩ = some (.int .i64 N) ∧ w'.cell? ⟨w.heap.size + 1, 1, none⟩ = some (.int .i64 (m : Int)) ∧ w'.cell? ⟨b, off + i * 4, none⟩ = some (.int .i64 d.s) ∧ w'.cell? ⟨b, off + i * 4 + 1, none⟩ = some (.int .i64 d.o) ∧ w'.cell? ⟨b, off + i * 4 + 2, none⟩ = some (.int .i64 d.p) ∧ w'.cell? ⟨b, off + i * 4 + 3, none⟩ = some (.int .i64 d.m) ∧ w'.cell? ⟨b, off + n * 4, none⟩ = some (.int .i64 pv.s)) (by kernel_rfl) ?x94s (fun hHeld => ?x94r)
      case x94s => exact ⟨t0, y0, y1, d0, d1, d2, d3, dp⟩
      refine tH 0 39 ?_
      refine tH 1 40 ?_
      refine tH 2 41 ?_
      refine tH 3 42 ?_
      refine tH 4 43 ?_
      refine tH 5 44 ?_
      refine wpH_one (i := 6) (by kernel_rfl) rfl (fun K hK => ?_)
      rw [if_pos (by rfl)]
      go_simp
      refine (ruval_lit d N (m : Int) true _ HV.out).mono ?_
      rintro e w3 ⟨rfl, hb⟩
      have BC := Lib.hid (BE.out.drew.trans (hb.mono BE.out.size))
      have OA3 := Lib.hid (OA.out.drew.below hb)
      have oT3 := Lib.hid (oTr.out.drew.below hb)
      have oL3 := Lib.hid (oLr.out.drew.below hb)
      obtain ⟨u0, u1, u2, fT3, zT3⟩ := own3 oT3.out
      obtain ⟨v0, v1, fL3, zL3⟩ := own2 oL3.out
      have e0 : w3.cell? ⟨b, off + i * 4, none⟩ = some (.int .i64 d.s) := (hb.cell (p := ⟨b, off + i * 4, none⟩) hbl).trans d0
      have e1 : w3.cell? ⟨b, off + i * 4 + 1, none⟩ = some (.int .i64 d.o) := (hb.cell (p := ⟨b, off + i * 4 + 1, none⟩) hbl).trans d1
      have e2 : w3.cell? ⟨b, off + i * 4 + 2, none⟩ = some (.int .i64 d.p) := (hb.cell (p := ⟨b, off + i * 4 + 2, none⟩) hbl).trans d2
      have e3 : w3.cell? ⟨b, off + i * 4 + 3, none⟩ = some (.int .i64 d.m) := (hb.cell (p := ⟨b, off + i * 4 + 3, none⟩) hbl).trans d3
      have ep : w3.cell? ⟨b, off + n * 4, none⟩ = some (.int .i64 pv.s) := (hb.cell (p := ⟨b, off + n * 4, none⟩) hbl).trans dp
      clear hb
      refine hK.out _ _ (⟨u0, v0, v1, e0, e1, e2, e3, ep⟩) ?_
      clear hK K hHeld
      intro hHeld
      try simp only [Act.put, List.setIfInBounds_toArray, List.set_cons_zero, List.set_cons_succ]
      refine tH 7 46 ?_
      refine tH 8 47 ?_
      refine tH 9 48 ?_
      refine tH 10 49 ?_
      refine tH 11 50 ?_
      refine tH 12 51 ?_
      refine tH 13 52 ?_
      refine tH 14 53 ?_
      refine tH 15 54 ?_
      refine tH 16 55 ?_
      refine tH 17 56 ?_
      refine tH 18 57 ?_
      refine tH 19 58 ?_
      refine tH 20 59 ?_
      refine tH 21 60 ?_
      refine tH 22 61 ?_
      refine tH 23 62 ?_
      refine tH 24 63 ?_
      refine tH 25 64 ?_
      refine tH 26 65 ?_
      refine tH 27 66 ?_
      refine tH 28 67 ?_
      refine tH 29 68 ?_
      refine wpAnyH_done (by kernel_rfl) ?_ _
      clear wm k3 k4 k5 ep dp m0 m1
      rw [HKX.out] at e0
      have x0 : (0 : Int) ≤ (kx : Int) := Int.natCast_nonneg _
      have x1 : (kx : Int) < (m : Int) := by omega
      have cA : w3.cell? ⟨w1.heap.size, kx, none⟩ = some (.int .i64 (((us.take i).map Us.s).count (kx : Int) : Nat)) := OA3.out.cell (cntV_at hkm)
      have fA := OA3.out.frozen
      have hc0 : ((us.take i).map Us.s).count (kx : Int) ≤ 210 := by
       have h := List.count_le_length (a := (kx : Int)) (l := (us.take i).map Us.s)
       simp only [List.length_append, List.length_map, List.length_take] at h
       omega
      obtain ⟨cn, hcn⟩ : ∃ cn, ((us.take i).map Us.s).count (kx : Int) = cn := ⟨_, rfl⟩
      rw [hcn] at cA hc0
      have HCN := Lib.hid hcn
      have hc1 : (0 : Int) ≤ (cn : Int) := Int.natCast_nonneg _
      have hc2 : (cn : Int) ≤ 210 := by omega
      clear hcn hc0 hs0 hs1
      go_wp2_with fail
      go_roundw
      case rel =>
       have h9 := OA3.out.set kx (.int .i64 ((cn : Int) + 1))
       rw [← HCN.out, cntV_set hkm] at h9
       refine ⟨i + 1, d.s, by omega, by go_num, by rw [HT.out, HS.out, HV.out, decide_eq_true (show last < d.s by exact H3.out)]; simp, fun h => by omega, fun n h => ⟨d, by obtain rfl : n = i := (by omega); exact HD.out, rfl⟩, ?_, ?_, belowSet' BC.out _ _ _ (Nat.le_refl _)⟩
       ·intro z hz
        rw [take_snocG HD.out, List.map_append] at hz
        rcases List.mem_append.1 hz with hz | hz
        ·exact HRR.out z hz
        ·simp only [List.map_cons, List.map_nil, List.mem_singleton] at hz
         rw [hz]; have := HKX.out; exact ⟨by omega, by omega⟩
       ·rw [take_snocG HD.out, List.map_append, List.map_cons, List.map_nil, HKX.out]
        rw [HCN.out] at h9
        exact h9
      case measure => simp [intOf]; omega
  ·obtain rfl : i = us.length := by omega
   have HsndU := Lib.hid (show sndU N (m : Int) us = true by rw [HT.out]; exact sndF_end (Nat.le_refl _))
   have HRU := HRR
   rw [List.take_length] at HRU OA
   rw [HsndU.out, Bool.true_and] at HRES
   clear t0 t1 t2 fT zT y0 y1 fL zL oTr oLr
   have oTr := Lib.hid (OT1.out.below BE.out)
   obtain ⟨t0, t1, t2, fT, zT⟩ := own3 oTr.out
   go_wp2_with fail
   go_loopw [7] (fun ii wr => ∃ (i : Nat) (last : Int), i ≤ gs.length ∧ ii = .int .i64 i ∧ sndG N (m : Int) gs = sndF (grB N (m : Int)) Gr.s last (gs.drop i) ∧ (i = 0 → last = -1) ∧ (∀ n, i = n + 1 → ∃ pv, gs[n]? = some pv ∧ Gr.s pv = last) ∧ (∀ z ∈ us.map Us.s ++ (gs.take i).map Gr.s, 0 ≤ z ∧ z < (m : Int)) ∧ Own wr w1.heap.size (cntV m (us.map Us.s ++ (gs.take i).map Gr.s)) 3 ∧ Below w1.heap.size w1 wr) (fun i _ => gs.length - (intOf i).toNat)
   case atStart => exact ⟨0, -1, by omega, rfl, rfl, fun _ => rfl, fun n h => by omega, by simpa using HRU.out, by simpa using OA.out, BE.out⟩
   case round =>
    clear hlt hi j0 BE OA HT HZ HSS HRR
    obtain ⟨i, last, hi, rfl, hT, hz, hs, hr, hoa, bel⟩ := hrel
    have HT := Lib.hid hT
    have HZ := Lib.hid hz
    have HSS := Lib.hid hs
    have HRR := Lib.hid hr
    have OA := Lib.hid hoa
    have BE := Lib.hid bel
    clear hT hz hs hr hoa bel
    have j0 : (0 : Int) ≤ (i : Int) := Int.natCast_nonneg _
    have oTr := Lib.hid (OT1.out.below BE.out)
    have oLr := Lib.hid (OL1.out.below BE.out)
    obtain ⟨t0, t1, t2, fT, zT⟩ := own3 oTr.out
    obtain ⟨y0, y1, fL, zL⟩ := own2 oLr.out
    by_cases hlt : i < gs.length
    ·obtain ⟨d, b, off, hd, rfl, hbl, _, d0, d1, d2, d3, d4⟩ := SG1.out.atG BE.out hlt
     have j1 : (i : Int) < (gs.length : Int) := by omega
     have HD := Lib.hid hd
     have HS := Lib.hid (sndF_step (ok := grB N (m : Int)) (sl := Gr.s) (last := last) hd)
     clear hd
     cases hv : grB N (m : Int) d with
     | false =>
      have HV := Lib.hid hv
      clear hv
      go_wp2_with fail
      refine region_H 30 #[false, false, false, false, false, false, false, false, false, false, false, false, false, false, false, false, false, false, false, false, false, false, false, false, false, false, false, false, false, false] (by kernel_rfl) (by kernel_rfl) (fun w' => w'.cell? ⟨w.heap.size, 1, none⟩ = some (.slice (some ⟨b, off, none⟩) gs.length cg) ∧ w'.cell? ⟨w.heap.size + 1, 0, none⟩ = some (.int .i64 N) ∧ w'.cell? ⟨w.heap.size + 1, 1, none⟩ = some (.int .i64 (m : Int)) ∧ w'.cell? ⟨b, off + i * 5, none⟩ = some (.int .i64 d.s) ∧ w'.cell? ⟨b, off + i * 5 + 1, none⟩ = some (.int .i64 d.o) ∧ w'.cell? ⟨b, off + i * 5 + 2, none⟩ = some (.int .i64 d.p) ∧ w'.cell? ⟨b, off + i * 5 + 3, none⟩ = some (.int .i64 d.m) ∧ w'.cell? ⟨b, off + i * 5 + 4, none⟩ = some (.int .i64 d.u)) (by kernel_rfl) ?x125s (fun hHeld => ?x125r)
      case x125s => exact ⟨t1, y0, y1, d0, d1, d2, d3, d4⟩
      refine tH 0 88 ?_
      refine tH 1 89 ?_
      refine tH 2 90 ?_
      refine tH 3 91 ?_
      refine tH 4 92 ?_
      refine tH 5 93 ?_
      refine wpH_one (i := 6) (by kernel_rfl) rfl (fun K hK => ?_)
      rw [if_pos (by rfl)]
      go_simp
      refine (rgval_lit d N (m : Int) false _ HV.out).mono ?_
      rintro e w3 ⟨rfl, hb⟩
      have BC := Lib.hid (BE.out.drew.trans (hb.mono BE.out.size))
      have OA3 := Lib.hid (OA.out.drew.below hb)
      have oT3 := Lib.hid (oTr.out.drew.below hb)
      have oL3 := Lib.hid (oLr.out.drew.below hb)
      obtain ⟨u0, u1, u2, fT3, zT3⟩ := own3 oT3.out
      obtain ⟨v0, v1, fL3, zL3⟩ := own2 oL3.out
      have e0 : w3.cell? ⟨b, off + i * 5, none⟩ = some (.int .i64 d.s) := (hb.cell (p := ⟨b, off + i * 5, none⟩) hbl).trans d0
      have e1 : w3.cell? ⟨b, off + i * 5 + 1, none⟩ = some (.int .i64 d.o) := (hb.cell (p := ⟨b, off + i * 5 + 1, none⟩) hbl).trans d1
      have e2 : w3.cell? ⟨b, off + i * 5 + 2, none⟩ = some (.int .i64 d.p) := (hb.cell (p := ⟨b, off + i * 5 + 2, none⟩) hbl).trans d2
      have e3 : w3.cell? ⟨b, off + i * 5 + 3, none⟩ = some (.int .i64 d.m) := (hb.cell (p := ⟨b, off + i * 5 + 3, none⟩) hbl).trans d3
      have e4 : w3.cell? ⟨b, off + i * 5 + 4, none⟩ = some (.int .i64 d.u) := (hb.cell (p := ⟨b, off + i * 5 + 4, none⟩) hbl).trans d4
      clear hb
      refine hK.out _ _ (⟨u1, v0, v1, e0, e1, e2, e3, e4⟩) ?_
      clear hK K hHeld
      intro hHeld
      try simp only [Act.put, List.setIfInBounds_toArray, List.set_cons_zero, List.set_cons_succ]
      refine tH 7 95 ?_
      refine tH 8 96 ?_
      refine nH 9 97 ?_
      refine nH 10 98 ?_
      refine nH 11 99 ?_
      refine nH 12 100 ?_
      refine nH 13 101 ?_
      refine nH 14 102 ?_
      refine nH 15 103 ?_
      refine nH 16 104 ?_
      refine nH 17 105 ?_
      refine nH 18 106 ?_
      refine nH 19 107 ?_
      refine nH 20 108 ?_
      refine nH 21 109 ?_
      refine nH 22 110 ?_
      refine nH 23 111 ?_
      refine nH 24 112 ?_
      refine nH 25 113 ?_
      refine nH 26 114 ?_
      refine nH 27 115 ?_
      refine nH 28 116 ?_
      refine tH 29 117 ?_
      refine wpAnyH_done (by kernel_rfl) ?_ _
      go_wp2_with fail
      go_ret
      exact ⟨ret_bool (by rw [HRES.out, HT.out, HS.out, HV.out]; simp), BB1.out.trans (BC.out.mono BB1.out.size)⟩
     | true =>
      have HV := Lib.hid hv
      have hsl := g_slot hv
      obtain ⟨hs0, hs1⟩ := hsl
      obtain ⟨kx, hkx⟩ : ∃ kx : Nat, d.s = (kx : Int) := ⟨d.s.toNat, by omega⟩
      have HKX := Lib.hid hkx
      have hkm : kx < m := by omega
      clear hv hkx
      by_cases h0 : i = 0
      ·have k3 : decide ((0 : Int) < (i : Int)) = false := decide_eq_false (by omega)
       have k4 : decide (0 < i) = false := decide_eq_false (by omega)
       have HL0 := Lib.hid (HZ.out h0)
       have H00 := Lib.hid h0
       clear h0
       go_wp2_with fail
       refine region_H 30 #[false, false, false, false, false, false, false, false, false, false, false, false, false, false, false, false, false, false, false, false, false, false, false, false, false, false, false, false, false, false] (by kernel_rfl) (by kernel_rfl) (fun w' => w'.cell? ⟨w.heap.size, 1, none⟩ = some (.slice (some ⟨b, off, none⟩) gs.length cg) ∧ w'.cell? ⟨w.heap.size + 1, 0, none⟩ = some (.int .i64 N) ∧ w'.cell? ⟨w.heap.size + 1, 1, none⟩ = some (.int .i64 (m : Int)) ∧ w'.cell? ⟨b, off + i * 5, none⟩ = some (.int .i64 d.s) ∧ w'.cell? ⟨b, off + i * 5 + 1, none⟩ = some (.int .i64 d.o) ∧ w'.cell? ⟨b, off + i * 5 + 2, none⟩ = some (.int .i64 d.p) ∧ w'.cell? ⟨b, off + i * 5 + 3, none⟩ = some (.int .i64 d.m) ∧ w'.cell? ⟨b, off + i * 5 + 4, none⟩ = some (.int .i64 d.u)) (by kernel_rfl) ?x156s (fun hHeld => ?x156r)
       case x156s => exact ⟨t1, y0, y1, d0, d1, d2, d3, d4⟩
       refine tH 0 88 ?_
       refine tH 1 89 ?_
       refine tH 2 90 ?_
       refine tH 3 91 ?_
       refine tH 4 92 ?_
       refine tH 5 93 ?_
       refine wpH_one (i := 6) (by kernel_rfl) rfl (fun K hK => ?_)
       rw [if_pos (by rfl)]
       go_simp
       refine (rgval_lit d N (m : Int) true _ HV.out).mono ?_
       rintro e w3 ⟨rfl, hb⟩
       have BC := Lib.hid (BE.out.drew.trans (hb.mono BE.out.size))
       have OA3 := Lib.hid (OA.out.drew.below hb)
       have oT3 := Lib.hid (oTr.out.drew.below hb)
       have oL3 := Lib.hid (oLr.out.drew.below hb)
       obtain ⟨u0, u1, u2, fT3, zT3⟩ := own3 oT3.out
       obtain ⟨v0, v1, fL3, zL3⟩ := own2 oL3.out
       have e0 : w3.cell? ⟨b, off + i * 5, none⟩ = some (.int .i64 d.s) := (hb.cell (p := ⟨b, off + i * 5, none⟩) hbl).trans d0
       have e1 : w3.cell? ⟨b, off + i * 5 + 1, none⟩ = some (.int .i64 d.o) := (hb.cell (p := ⟨b, off + i * 5 + 1, none⟩) hbl).trans d1
       have e2 : w3.cell? ⟨b, off + i * 5 + 2, none⟩ = some (.int .i64 d.p) := (hb.cell (p := ⟨b, off + i * 5 + 2, none⟩) hbl).trans d2
       have e3 : w3.cell? ⟨b, off + i * 5 + 3, none⟩ = some (.int .i64 d.m) := (hb.cell (p := ⟨b, off + i * 5 + 3, none⟩) hbl).trans d3
       have e4 : w3.cell? ⟨b, off + i * 5 + 4, none⟩ = some (.int .i64 d.u) := (hb.cell (p := ⟨b, off + i * 5 + 4, none⟩) hbl).trans d4
       clear hb
       refine hK.out _ _ (⟨u1, v0, v1, e0, e1, e2, e3, e4⟩) ?_
       clear hK K hHeld
       intro hHeld
       try simp only [Act.put, List.setIfInBounds_toArray, List.set_cons_zero, List.set_cons_succ]
       refine tH 7 95 ?_
       refine tH 8 96 ?_
       refine tH 9 97 ?_
       refine tH 10 98 ?_
       refine tH 11 99 ?_
       refine nH 12 100 ?_
       refine nH 13 101 ?_
       refine nH 14 102 ?_
       refine nH 15 103 ?_
       refine nH 16 104 ?_
       refine nH 17 105 ?_
       refine nH 18 106 ?_
       refine nH 19 107 ?_
       refine nH 20 108 ?_
       refine nH 21 109 ?_
       refine nH 22 110 ?_
       refine nH 23 111 ?_
       refine nH 24 112 ?_
       refine nH 25 113 ?_
       refine nH 26 114 ?_
       refine nH 27 115 ?_
       refine tH 28 116 ?_
       refine tH 29 117 ?_
       refine wpAnyH_done (by kernel_rfl) ?_ _
       rw [HKX.out] at e0
       have x0 : (0 : Int) ≤ (kx : Int) := Int.natCast_nonneg _
       have x1 : (kx : Int) < (m : Int) := by omega
       have cA : w3.cell? ⟨w1.heap.size, kx, none⟩ = some (.int .i64 ((us.map Us.s ++ (gs.take i).map Gr.s).count (kx : Int) : Nat)) := OA3.out.cell (cntV_at hkm)
       have fA := OA3.out.frozen
       have hc0 : (us.map Us.s ++ (gs.take i).map Gr.s).count (kx : Int) ≤ 210 := by
        have h := List.count_le_length (a := (kx : Int)) (l := us.map Us.s ++ (gs.take i).map Gr.s)
        simp only [List.length_append, List.length_map, List.length_take] at h
        omega
       obtain ⟨cn, hcn⟩ : ∃ cn, (us.map Us.s ++ (gs.take i).map Gr.s).count (kx : Int) = cn := ⟨_, rfl⟩
       rw [hcn] at cA hc0
       have HCN := Lib.hid hcn
       have hc1 : (0 : Int) ≤ (cn : Int) := Int.natCast_nonneg _
       have hc2 : (cn : Int) ≤ 210 := by omega
       clear hcn hc0 hs0 hs1
       go_wp2_with fail
       go_roundw
       case rel =>
        have h9 := OA3.out.set kx (.int .i64 ((cn : Int) + 1))
        rw [← HCN.out, cntV_set hkm] at h9
        refine ⟨i + 1, d.s, by omega, by go_num, by rw [HT.out, HS.out, HV.out, decide_eq_true (show last < d.s by have h1 := HL0.out; have h2 := HKX.out; omega)]; simp, fun h => by omega, fun n h => ⟨d, by obtain rfl : n = i := (by omega); exact HD.out, rfl⟩, ?_, ?_, belowSet' BC.out _ _ _ (Nat.le_refl _)⟩
        ·intro z hz
         rw [take_snocG HD.out, List.map_append, ← List.append_assoc] at hz
         rcases List.mem_append.1 hz with hz | hz
         ·exact HRR.out z (by simpa using hz)
         ·simp only [List.map_cons, List.map_nil, List.mem_singleton] at hz
          rw [hz]; have := HKX.out; exact ⟨by omega, by omega⟩
        ·rw [take_snocG HD.out, List.map_append, ← List.append_assoc, List.map_cons, List.map_nil, HKX.out]
         rw [HCN.out] at h9
         exact h9
       case measure => simp [intOf]; omega
      ·obtain ⟨n, hn⟩ : ∃ n, i = n + 1 := ⟨i - 1, by omega⟩
       obtain ⟨pv, hpv, hl⟩ := HSS.out n hn
       obtain ⟨pv', b', off', hpv', e', _, _, dp, _, _, _, _⟩ := SG1.out.atG BE.out (i := n) (by omega)
       cases e'
       obtain rfl : pv = pv' := by rw [hpv] at hpv'; exact Option.some.inj hpv'
       have k3 : decide ((0 : Int) < (i : Int)) = true := decide_eq_true (by omega)
       have k4 : decide (0 < i) = true := decide_eq_true (by omega)
       have m0 : (0 : Int) ≤ (n : Int) := Int.natCast_nonneg _
       have m1 : (n : Int) < (gs.length : Int) := by omega
       have HL := Lib.hid hl
       have wm : IntKind.i64.wrap ((i : Int) - 1) = (n : Int) := by rw [IntWalk.i64_in _ (by omega)]; omega
       clear hpv hpv' hl hn h0
       by_cases h5 : d.s ≤ pv.s
       ·have k5 : decide (d.s ≤ pv.s) = true := decide_eq_true h5
        have H3 := Lib.hid (show decide (last < d.s) = false from decide_eq_false (by have := HL.out; omega))
        clear h5 hs0 hs1
        go_wp2_with fail
        refine region_H 30 #[false, false, false, false, false, false, false, false, false, false, false, false, false, false, false, false, false, false, false, false, false, false, false, false, false, false, false, false, false, false] (by kernel_rfl) (by kernel_rfl) (fun w' => w'.cell? ⟨w.heap.size, 1, none⟩ = some (.slice (some ⟨b, off, none⟩) gs.length cg) ∧ w'.cell? ⟨w.heap.size + 1, 0, none⟩ = some (.int .i64 N) ∧ w'.cell? ⟨w.heap.size + 1, 1, none⟩ = some (.int .i64 (m : Int)) ∧ w'.cell? ⟨b, off + i * 5, none⟩ = some (.int .i64 d.s) ∧ w'.cell? ⟨b, off + i * 5 + 1, none⟩ = some (.int .i64 d.o) ∧ w'.cell? ⟨b, off + i * 5 + 2, none⟩ = some (.int .i64 d.p) ∧ w'.cell? ⟨b, off + i * 5 + 3, none⟩ = some (.int .i64 d.m) ∧ w'.cell? ⟨b, off + i * 5 + 4, none⟩ = some (.int .i64 d.u) ∧ w'.cell? ⟨b, off + n * 5, none⟩ = some (.int .i64 pv.s)) (by kernel_rfl) ?x187s (fun hHeld => ?x187r)
        case x187s => exact ⟨t1, y0, y1, d0, d1, d2, d3, d4, dp⟩
        refine tH 0 88 ?_
        refine tH 1 89 ?_
        refine tH 2 90 ?_
        refine tH 3 91 ?_
        refine tH 4 92 ?_
        refine tH 5 93 ?_
        refine wpH_one (i := 6) (by kernel_rfl) rfl (fun K hK => ?_)
        rw [if_pos (by rfl)]
        go_simp
        refine (rgval_lit d N (m : Int) true _ HV.out).mono ?_
        rintro e w3 ⟨rfl, hb⟩
        have BC := Lib.hid (BE.out.drew.trans (hb.mono BE.out.size))
        have OA3 := Lib.hid (OA.out.drew.below hb)
        have oT3 := Lib.hid (oTr.out.drew.below hb)
        have oL3 := Lib.hid (oLr.out.drew.below hb)
        obtain ⟨u0, u1, u2, fT3, zT3⟩ := own3 oT3.out
        obtain ⟨v0, v1, fL3, zL3⟩ := own2 oL3.out
        have e0 : w3.cell? ⟨b, off + i * 5, none⟩ = some (.int .i64 d.s) := (hb.cell (p := ⟨b, off + i * 5, none⟩) hbl).trans d0
        have e1 : w3.cell? ⟨b, off + i * 5 + 1, none⟩ = some (.int .i64 d.o) := (hb.cell (p := ⟨b, off + i * 5 + 1, none⟩) hbl).trans d1
        have e2 : w3.cell? ⟨b, off + i * 5 + 2, none⟩ = some (.int .i64 d.p) := (hb.cell (p := ⟨b, off + i * 5 + 2, none⟩) hbl).trans d2
        have e3 : w3.cell? ⟨b, off + i * 5 + 3, none⟩ = some (.int .i64 d.m) := (hb.cell (p := ⟨b, off + i * 5 + 3, none⟩) hbl).trans d3
        have e4 : w3.cell? ⟨b, off + i * 5 + 4, none⟩ = some (.int .i64 d.u) := (hb.cell (p := ⟨b, off + i * 5 + 4, none⟩) hbl).trans d4
        have ep : w3.cell? ⟨b, off + n * 5, none⟩ = some (.int .i64 pv.s) := (hb.cell (p := ⟨b, off + n * 5, none⟩) hbl).trans dp
        clear hb
        refine hK.out _ _ (⟨u1, v0, v1, e0, e1, e2, e3, e4, ep⟩) ?_
        clear hK K hHeld
        intro hHeld
        try simp only [Act.put, List.setIfInBounds_toArray, List.set_cons_zero, List.set_cons_succ]
        refine tH 7 95 ?_
        refine tH 8 96 ?_
        refine tH 9 97 ?_
        refine tH 10 98 ?_
        refine tH 11 99 ?_
        refine tH 12 100 ?_
        refine tH 13 101 ?_
        refine tH 14 102 ?_
        refine tH 15 103 ?_
        refine tH 16 104 ?_
        refine tH 17 105 ?_
        refine tH 18 106 ?_
        refine tH 19 107 ?_
        refine tH 20 108 ?_
        refine tH 21 109 ?_
        refine tH 22 110 ?_
        refine tH 23 111 ?_
        refine tH 24 112 ?_
        refine tH 25 113 ?_
        refine tH 26 114 ?_
        refine tH 27 115 ?_
        refine tH 28 116 ?_
        refine tH 29 117 ?_
        refine wpAnyH_done (by kernel_rfl) ?_ _
        go_wp2_with fail
        go_ret
        exact ⟨ret_bool (by rw [HRES.out, HT.out, HS.out, H3.out]; simp), BB1.out.trans (BC.out.mono BB1.out.size)⟩
       ·have k5 : decide (d.s ≤ pv.s) = false := decide_eq_false h5
        have H3 := Lib.hid (show last < d.s by have := HL.out; omega)
        clear h5
        go_wp2_with fail
        refine region_H 30 #[false, false, false, false, false, false, false, false, false, false, false, false, false, false, false, false, false, false, false, false, false, false, false, false, false, false, false, false, false, false] (by kernel_rfl) (by kernel_rfl) (fun w' => w'.cell? ⟨w.heap.size, 1, none⟩ = some (.slice (some ⟨b, off, none⟩) gs.length cg) ∧ w'.cell? ⟨w.heap.size + 1, 0, none⟩ = some (.int .i64 N) ∧ w'.cell? ⟨w.heap.size + 1, 1, none⟩ = some (.int .i64 (m : Int)) ∧ w'.cell? ⟨b, off + i * 5, none⟩ = some (.int .i64 d.s) ∧ w'.cell? ⟨b, off + i * 5 + 1, none⟩ = some (.int .i64 d.o) ∧ w'.cell? ⟨b, off + i * 5 + 2, none⟩ = some (.int .i64 d.p) ∧ w'.cell? ⟨b, off + i * 5 + 3, none⟩ = some (.int .i64 d.m) ∧ w'.cell? ⟨b, off + i * 5 + 4, none⟩ = some (.int .i64 d.u) ∧ w'.cell? ⟨b, off + n * 5, none⟩ = some (.int .i64 pv.s)) (by kernel_rfl) ?x218s (fun hHeld => ?x218r)
        case x218s => exact ⟨t1, y0, y1, d0, d1, d2, d3, d4, dp⟩
        refine tH 0 88 ?_
        refine tH 1 89 ?_
        refine tH 2 90 ?_
        refine tH 3 91 ?_
        refine tH 4 92 ?_
        refine tH 5 93 ?_
        refine wpH_one (i := 6) (by kernel_rfl) rfl (fun K hK => ?_)
        rw [if_pos (by rfl)]
        go_simp
        refine (rgval_lit d N (m : Int) true _ HV.out).mono ?_
        rintro e w3 ⟨rfl, hb⟩
        have BC := Lib.hid (BE.out.drew.trans (hb.mono BE.out.size))
        have OA3 := Lib.hid (OA.out.drew.below hb)
        have oT3 := Lib.hid (oTr.out.drew.below hb)
        have oL3 := Lib.hid (oLr.out.drew.below hb)
        obtain ⟨u0, u1, u2, fT3, zT3⟩ := own3 oT3.out
        obtain ⟨v0, v1, fL3, zL3⟩ := own2 oL3.out
        have e0 : w3.cell? ⟨b, off + i * 5, none⟩ = some (.int .i64 d.s) := (hb.cell (p := ⟨b, off + i * 5, none⟩) hbl).trans d0
        have e1 : w3.cell? ⟨b, off + i * 5 + 1, none⟩ = some (.int .i64 d.o) := (hb.cell (p := ⟨b, off + i * 5 + 1, none⟩) hbl).trans d1
        have e2 : w3.cell? ⟨b, off + i * 5 + 2, none⟩ = some (.int .i64 d.p) := (hb.cell (p := ⟨b, off + i * 5 + 2, none⟩) hbl).trans d2
        have e3 : w3.cell? ⟨b, off + i * 5 + 3, none⟩ = some (.int .i64 d.m) := (hb.cell (p := ⟨b, off + i * 5 + 3, none⟩) hbl).trans d3
        have e4 : w3.cell? ⟨b, off + i * 5 + 4, none⟩ = some (.int .i64 d.u) := (hb.cell (p := ⟨b, off + i * 5 + 4, none⟩) hbl).trans d4
        have ep : w3.cell? ⟨b, off + n * 5, none⟩ = some (.int .i64 pv.s) := (hb.cell (p := ⟨b, off + n * 5, none⟩) hbl).trans dp
        clear hb
        refine hK.out _ _ (⟨u1, v0, v1, e0, e1, e2, e3, e4, ep⟩) ?_
        clear hK K hHeld
        intro hHeld
        try simp only [Act.put, List.setIfInBounds_toArray, List.set_cons_zero, List.set_cons_succ]
        refine tH 7 95 ?_
        refine tH 8 96 ?_
        refine tH 9 97 ?_
        refine tH 10 98 ?_
        refine tH 11 99 ?_
        refine tH 12 100 ?_
        refine tH 13 101 ?_
        refine tH 14 102 ?_
        refine tH 15 103 ?_
        refine tH 16 104 ?_
        refine tH 17 105 ?_
        refine tH 18 106 ?_
        refine tH 19 107 ?_
        refine tH 20 108 ?_
        refine tH 21 109 ?_
        refine tH 22 110 ?_
        refine tH 23 111 ?_
        refine tH 24 112 ?_
        refine tH 25 113 ?_
        refine tH 26 114 ?_
        refine tH 27 115 ?_
        refine tH 28 116 ?_
        refine tH 29 117 ?_
        refine wpAnyH_done (by kernel_rfl) ?_ _
        clear wm k3 k4 k5 ep dp m0 m1
        rw [HKX.out] at e0
        have x0 : (0 : Int) ≤ (kx : Int) := Int.natCast_nonneg _
        have x1 : (kx : Int) < (m : Int) := by omega
        have cA : w3.cell? ⟨w1.heap.size, kx, none⟩ = some (.int .i64 ((us.map Us.s ++ (gs.take i).map Gr.s).count (kx : Int) : Nat)) := OA3.out.cell (cntV_at hkm)
        have fA := OA3.out.frozen
        have hc0 : (us.map Us.s ++ (gs.take i).map Gr.s).count (kx : Int) ≤ 210 := by
         have h := List.count_le_length (a := (kx : Int)) (l := us.map Us.s ++ (gs.take i).map Gr.s)
         simp only [List.length_append, List.length_map, List.length_take] at h
         omega
        obtain ⟨cn, hcn⟩ : ∃ cn, (us.map Us.s ++ (gs.take i).map Gr.s).count (kx : Int) = cn := ⟨_, rfl⟩
        rw [hcn] at cA hc0
        have HCN := Lib.hid hcn
        have hc1 : (0 : Int) ≤ (cn : Int) := Int.natCast_nonneg _
        have hc2 : (cn : Int) ≤ 210 := by omega
        clear hcn hc0 hs0 hs1
        go_wp2_with fail
        go_roundw
        case rel =>
         have h9 := OA3.out.set kx (.int .i64 ((cn : Int) + 1))
         rw [← HCN.out, cntV_set hkm] at h9
         refine ⟨i + 1, d.s, by omega, by go_num, by rw [HT.out, HS.out, HV.out, decide_eq_true (show last < d.s by exact H3.out)]; simp, fun h => by omega, fun n h => ⟨d, by obtain rfl : n = i := (by omega); exact HD.out, rfl⟩, ?_, ?_, belowSet' BC.out _ _ _ (Nat.le_refl _)⟩
         ·intro z hz
          rw [take_snocG HD.out, List.map_append, ← List.append_assoc] at hz
          rcases List.mem_append.1 hz with hz | hz
          ·exact HRR.out z (by simpa using hz)
          ·simp only [List.map_cons, List.map_nil, List.mem_singleton] at hz
           rw [hz]; have := HKX.out; exact ⟨by omega, by omega⟩
         ·rw [take_snocG HD.out, List.map_append, ← List.append_assoc, List.map_cons, List.map_nil, HKX.out]
          rw [HCN.out] at h9
          exact h9
        case measure => simp [intOf]; omega
    ·obtain rfl : i = gs.length := by omega
     have HsndG := Lib.hid (show sndG N (m : Int) gs = true by rw [HT.out]; exact sndF_end (Nat.le_refl _))
     have HRG := HRR
     rw [List.take_length] at HRG OA
     rw [HsndG.out, Bool.true_and] at HRES
     clear t0 t1 t2 fT zT y0 y1 fL zL oTr oLr
     have oTr := Lib.hid (OT1.out.below BE.out)
     obtain ⟨t0, t1, t2, fT, zT⟩ := own3 oTr.out
     go_wp2_with fail
     go_loopw [8] (fun ii wr => ∃ (i : Nat) (last : Int), i ≤ ks.length ∧ ii = .int .i64 i ∧ sndA N (m : Int) ks = sndF (akB N (m : Int)) Ak.s last (ks.drop i) ∧ (i = 0 → last = -1) ∧ (∀ n, i = n + 1 → ∃ pv, ks[n]? = some pv ∧ Ak.s pv = last) ∧ (∀ z ∈ us.map Us.s ++ gs.map Gr.s ++ (ks.take i).map Ak.s, 0 ≤ z ∧ z < (m : Int)) ∧ Own wr w1.heap.size (cntV m (us.map Us.s ++ gs.map Gr.s ++ (ks.take i).map Ak.s)) 3 ∧ Below w1.heap.size w1 wr) (fun i _ => ks.length - (intOf i).toNat)
     case atStart => exact ⟨0, -1, by omega, rfl, rfl, fun _ => rfl, fun n h => by omega, by simpa using HRG.out, by simpa using OA.out, BE.out⟩
     case round =>
      clear hlt hi j0 BE OA HT HZ HSS HRR
      obtain ⟨i, last, hi, rfl, hT, hz, hs, hr, hoa, bel⟩ := hrel
      have HT := Lib.hid hT
      have HZ := Lib.hid hz
      have HSS := Lib.hid hs
      have HRR := Lib.hid hr
      have OA := Lib.hid hoa
      have BE := Lib.hid bel
      clear hT hz hs hr hoa bel
      have j0 : (0 : Int) ≤ (i : Int) := Int.natCast_nonneg _
      have oTr := Lib.hid (OT1.out.below BE.out)
      have oLr := Lib.hid (OL1.out.below BE.out)
      obtain ⟨t0, t1, t2, fT, zT⟩ := own3 oTr.out
      obtain ⟨y0, y1, fL, zL⟩ := own2 oLr.out
      by_cases hlt : i < ks.length
      ·obtain ⟨d, b, off, hd, rfl, hbl, _, d0, d1, d2⟩ := SA1.out.atA BE.out hlt
       have j1 : (i : Int) < (ks.length : Int) := by omega
       have HD := Lib.hid hd
       have HS := Lib.hid (sndF_step (ok := akB N (m : Int)) (sl := Ak.s) (last := last) hd)
       clear hd
       cases hv : akB N (m : Int) d with
       | false =>
        have HV := Lib.hid hv
        clear hv
        go_wp2_with fail
        refine region_H 37 #[false, false, false, false, false, false, false, false, false, false, false, false, false, false, false, false, false, false, false, false, false, false, false, false, false, false, false, false, false, false, false, false, false, false, false, false, false] (by kernel_rfl) (by kernel_rfl) (fun w' => w'.cell? ⟨w.heap.size, 2, none⟩ = some (.slice (some ⟨b, off, none⟩) ks.length ca) ∧ w'.cell? ⟨w.heap.size + 1, 0, none⟩ = some (.int .i64 N) ∧ w'.cell? ⟨w.heap.size + 1, 1, none⟩ = some (.int .i64 (m : Int)) ∧ w'.cell? ⟨b, off + i * 3, none⟩ = some (.int .i64 d.s) ∧ w'.cell? ⟨b, off + i * 3 + 1, none⟩ = some (.int .i64 d.o) ∧ w'.cell? ⟨b, off + i * 3 + 2, none⟩ = some (.int .i64 d.p)) (by kernel_rfl) ?x249s (fun hHeld => ?x249r)
        case x249s => exact ⟨t2, y0, y1, d0, d1, d2⟩
        refine tH 0 137 ?_
        refine tH 1 138 ?_
        refine tH 2 139 ?_
        refine tH 3 140 ?_
        refine tH 4 141 ?_
        refine tH 5 142 ?_
        refine tH 6 143 ?_
        refine tH 7 144 ?_
        refine tH 8 145 ?_
        refine tH 9 146 ?_
        refine tH 10 147 ?_
        refine tH 11 148 ?_
        refine tH 12 149 ?_
        refine wpH_one (i := 13) (by kernel_rfl) rfl (fun K hK => ?_)
        rw [if_pos (by rfl)]
        go_simp
        refine (rcell_lit d.s d.o d.p N (m : Int) false _ HV.out).mono ?_
        rintro e w3 ⟨rfl, hb⟩
        have BC := Lib.hid (BE.out.drew.trans (hb.mono BE.out.size))
        have OA3 := Lib.hid (OA.out.drew.below hb)
        have oT3 := Lib.hid (oTr.out.drew.below hb)
        have oL3 := Lib.hid (oLr.out.drew.below hb)
        obtain ⟨u0, u1, u2, fT3, zT3⟩ := own3 oT3.out
        obtain ⟨v0, v1, fL3, zL3⟩ := own2 oL3.out
        have e0 : w3.cell? ⟨b, off + i * 3, none⟩ = some (.int .i64 d.s) := (hb.cell (p := ⟨b, off + i * 3, none⟩) hbl).trans d0
        have e1 : w3.cell? ⟨b, off + i * 3 + 1, none⟩ = some (.int .i64 d.o) := (hb.cell (p := ⟨b, off + i * 3 + 1, none⟩) hbl).trans d1
        have e2 : w3.cell? ⟨b, off + i * 3 + 2, none⟩ = some (.int .i64 d.p) := (hb.cell (p := ⟨b, off + i * 3 + 2, none⟩) hbl).trans d2
        clear hb
        refine hK.out _ _ (⟨u2, v0, v1, e0, e1, e2⟩) ?_
        clear hK K hHeld
        intro hHeld
        try simp only [Act.put, List.setIfInBounds_toArray, List.set_cons_zero, List.set_cons_succ]
        refine tH 14 151 ?_
        refine tH 15 152 ?_
        refine nH 16 153 ?_
        refine nH 17 154 ?_
        refine nH 18 155 ?_
        refine nH 19 156 ?_
        refine nH 20 157 ?_
        refine nH 21 158 ?_
        refine nH 22 159 ?_
        refine nH 23 160 ?_
        refine nH 24 161 ?_
        refine nH 25 162 ?_
        refine nH 26 163 ?_
        refine nH 27 164 ?_
        refine nH 28 165 ?_
        refine nH 29 166 ?_
        refine nH 30 167 ?_
        refine nH 31 168 ?_
        refine nH 32 169 ?_
        refine nH 33 170 ?_
        refine nH 34 171 ?_
        refine nH 35 172 ?_
        refine tH 36 173 ?_
        refine wpAnyH_done (by kernel_rfl) ?_ _
        go_wp2_with fail
        go_ret
        exact ⟨ret_bool (by rw [HRES.out, HT.out, HS.out, HV.out]; simp), BB1.out.trans (BC.out.mono BB1.out.size)⟩
       | true =>
        have HV := Lib.hid hv
        have hsl := a_slot hv
        obtain ⟨hs0, hs1⟩ := hsl
        obtain ⟨kx, hkx⟩ : ∃ kx : Nat, d.s = (kx : Int) := ⟨d.s.toNat, by omega⟩
        have HKX := Lib.hid hkx
        have hkm : kx < m := by omega
        clear hv hkx
        by_cases h0 : i = 0
        ·have k3 : decide ((0 : Int) < (i : Int)) = false := decide_eq_false (by omega)
         have k4 : decide (0 < i) = false := decide_eq_false (by omega)
         have HL0 := Lib.hid (HZ.out h0)
         have H00 := Lib.hid h0
         clear h0
         go_wp2_with fail
         refine region_H 37 #[false, false, false, false, false, false, false, false, false, false, false, false, false, false, false, false, false, false, false, false, false, false, false, false, false, false, false, false, false, false, false, false, false, false, false, false, false] (by kernel_rfl) (by kernel_rfl) (fun w' => w'.cell? ⟨w.heap.size, 2, none⟩ = some (.slice (some ⟨b, off, none⟩) ks.length ca) ∧ w'.cell? ⟨w.heap.size + 1, 0, none⟩ = some (.int .i64 N) ∧ w'.cell? ⟨w.heap.size + 1, 1, none⟩ = some (.int .i64 (m : Int)) ∧ w'.cell? ⟨b, off + i * 3, none⟩ = some (.int .i64 d.s) ∧ w'.cell? ⟨b, off + i * 3 + 1, none⟩ = some (.int .i64 d.o) ∧ w'.cell? ⟨b, off + i * 3 + 2, none⟩ = some (.int .i64 d.p)) (by kernel_rfl) ?x287s (fun hHeld => ?x287r)
         case x287s => exact ⟨t2, y0, y1, d0, d1, d2⟩
         refine tH 0 137 ?_
         refine tH 1 138 ?_
         refine tH 2 139 ?_
         refine tH 3 140 ?_
         refine tH 4 141 ?_
         refine tH 5 142 ?_
         refine tH 6 143 ?_
         refine tH 7 144 ?_
         refine tH 8 145 ?_
         refine tH 9 146 ?_
         refine tH 10 147 ?_
         refine tH 11 148 ?_
         refine tH 12 149 ?_
         refine wpH_one (i := 13) (by kernel_rfl) rfl (fun K hK => ?_)
         rw [if_pos (by rfl)]
         go_simp
         refine (rcell_lit d.s d.o d.p N (m : Int) true _ HV.out).mono ?_
         rintro e w3 ⟨rfl, hb⟩
         have BC := Lib.hid (BE.out.drew.trans (hb.mono BE.out.size))
         have OA3 := Lib.hid (OA.out.drew.below hb)
         have oT3 := Lib.hid (oTr.out.drew.below hb)
         have oL3 := Lib.hid (oLr.out.drew.below hb)
         obtain ⟨u0, u1, u2, fT3, zT3⟩ := own3 oT3.out
         obtain ⟨v0, v1, fL3, zL3⟩ := own2 oL3.out
         have e0 : w3.cell? ⟨b, off + i * 3, none⟩ = some (.int .i64 d.s) := (hb.cell (p := ⟨b, off + i * 3, none⟩) hbl).trans d0
         have e1 : w3.cell? ⟨b, off + i * 3 + 1, none⟩ = some (.int .i64 d.o) := (hb.cell (p := ⟨b, off + i * 3 + 1, none⟩) hbl).trans d1
         have e2 : w3.cell? ⟨b, off + i * 3 + 2, none⟩ = some (.int .i64 d.p) := (hb.cell (p := ⟨b, off + i * 3 + 2, none⟩) hbl).trans d2
         clear hb
         refine hK.out _ _ (⟨u2, v0, v1, e0, e1, e2⟩) ?_
         clear hK K hHeld
         intro hHeld
         try simp only [Act.put, List.setIfInBounds_toArray, List.set_cons_zero, List.set_cons_succ]
         refine tH 14 151 ?_
         refine tH 15 152 ?_
         refine tH 16 153 ?_
         refine tH 17 154 ?_
         refine tH 18 155 ?_
         refine nH 19 156 ?_
         refine nH 20 157 ?_
         refine nH 21 158 ?_
         refine nH 22 159 ?_
         refine nH 23 160 ?_
         refine nH 24 161 ?_
         refine nH 25 162 ?_
         refine nH 26 163 ?_
         refine nH 27 164 ?_
         refine nH 28 165 ?_
         refine nH 29 166 ?_
         refine nH 30 167 ?_
         refine nH 31 168 ?_
         refine nH 32 169 ?_
         refine nH 33 170 ?_
         refine nH 34 171 ?_
         refine tH 35 172 ?_
         refine tH 36 173 ?_
         refine wpAnyH_done (by kernel_rfl) ?_ _
         rw [HKX.out] at e0
         have x0 : (0 : Int) ≤ (kx : Int) := Int.natCast_nonneg _
         have x1 : (kx : Int) < (m : Int) := by omega
         have cA : w3.cell? ⟨w1.heap.size, kx, none⟩ = some (.int .i64 ((us.map Us.s ++ gs.map Gr.s ++ (ks.take i).map Ak.s).count (kx : Int) : Nat)) := OA3.out.cell (cntV_at hkm)
         have fA := OA3.out.frozen
         have hc0 : (us.map Us.s ++ gs.map Gr.s ++ (ks.take i).map Ak.s).count (kx : Int) ≤ 210 := by
          have h := List.count_le_length (a := (kx : Int)) (l := us.map Us.s ++ gs.map Gr.s ++ (ks.take i).map Ak.s)
          simp only [List.length_append, List.length_map, List.length_take] at h
          omega
         obtain ⟨cn, hcn⟩ : ∃ cn, (us.map Us.s ++ gs.map Gr.s ++ (ks.take i).map Ak.s).count (kx : Int) = cn := ⟨_, rfl⟩
         rw [hcn] at cA hc0
         have HCN := Lib.hid hcn
         have hc1 : (0 : Int) ≤ (cn : Int) := Int.natCast_nonneg _
         have hc2 : (cn : Int) ≤ 210 := by omega
         clear hcn hc0 hs0 hs1
         go_wp2_with fail
         go_roundw
         case rel =>
          have h9 := OA3.out.set kx (.int .i64 ((cn : Int) + 1))
          rw [← HCN.out, cntV_set hkm] at h9
          refine ⟨i + 1, d.s, by omega, by go_num, by rw [HT.out, HS.out, HV.out, decide_eq_true (show last < d.s by have h1 := HL0.out; have h2 := HKX.out; omega)]; simp, fun h => by omega, fun n h => ⟨d, by obtain rfl : n = i := (by omega); exact HD.out, rfl⟩, ?_, ?_, belowSet' BC.out _ _ _ (Nat.le_refl _)⟩
          ·intro z hz
           rw [take_snocG HD.out, List.map_append, ← List.append_assoc] at hz
           rcases List.mem_append.1 hz with hz | hz
           ·exact HRR.out z (by simpa using hz)
           ·simp only [List.map_cons, List.map_nil, List.mem_singleton] at hz
            rw [hz]; have := HKX.out; exact ⟨by omega, by omega⟩
          ·rw [take_snocG HD.out, List.map_append, ← List.append_assoc, List.map_cons, List.map_nil, HKX.out]
           rw [HCN.out] at h9
           exact h9
         case measure => simp [intOf]; omega
        ·obtain ⟨n, hn⟩ : ∃ n, i = n + 1 := ⟨i - 1, by omega⟩
         obtain ⟨pv, hpv, hl⟩ := HSS.out n hn
         obtain ⟨pv', b', off', hpv', e', _, _, dp, _, _⟩ := SA1.out.atA BE.out (i := n) (by omega)
         cases e'
         obtain rfl : pv = pv' := by rw [hpv] at hpv'; exact Option.some.inj hpv'
         have k3 : decide ((0 : Int) < (i : Int)) = true := decide_eq_true (by omega)
         have k4 : decide (0 < i) = true := decide_eq_true (by omega)
         have m0 : (0 : Int) ≤ (n : Int) := Int.natCast_nonneg _
         have m1 : (n : Int) < (ks.length : Int) := by omega
         have HL := Lib.hid hl
         have wm : IntKind.i64.wrap ((i : Int) - 1) = (n : Int) := by rw [IntWalk.i64_in _ (by omega)]; omega
         clear hpv hpv' hl hn h0
         by_cases h5 : d.s ≤ pv.s
         ·have k5 : decide (d.s ≤ pv.s) = true := decide_eq_true h5
          have H3 := Lib.hid (show decide (last < d.s) = false from decide_eq_false (by have := HL.out; omega))
          clear h5 hs0 hs1
          go_wp2_with fail
          refine region_H 37 #[false, false, false, false, false, false, false, false, false, false, false, false, false, false, false, false, false, false, false, false, false, false, false, false, false, false, false, false, false, false, false, false, false, false, false, false, false] (by kernel_rfl) (by kernel_rfl) (fun w' => w'.cell? ⟨w.heap.size, 2, none⟩ = some (.slice (some ⟨b, off, none⟩) ks.length ca) ∧ w'.cell? ⟨w.heap.size + 1, 0, none⟩ = some (.int .i64 N) ∧ w'.cell? ⟨w.heap.size + 1, 1, none⟩ = some (.int .i64 (m : Int)) ∧ w'.cell? ⟨b, off + i * 3, none⟩ = some (.int .i64 d.s) ∧ w'.cell? ⟨b, off + i * 3 + 1, none⟩ = some (.int .i64 d.o) ∧ w'.cell? ⟨b, off + i * 3 + 2, none⟩ = some (.int .i64 d.p) ∧ w'.cell? ⟨b, off + n * 3, none⟩ = some (.int .i64 pv.s)) (by kernel_rfl) ?x325s (fun hHeld => ?x325r)
          case x325s => exact ⟨t2, y0, y1, d0, d1, d2, dp⟩
          refine tH 0 137 ?_
          refine tH 1 138 ?_
          refine tH 2 139 ?_
          refine tH 3 140 ?_
          refine tH 4 141 ?_
          refine tH 5 142 ?_
          refine tH 6 143 ?_
          refine tH 7 144 ?_
          refine tH 8 145 ?_
          refine tH 9 146 ?_
          refine tH 10 147 ?_
          refine tH 11 148 ?_
          refine tH 12 149 ?_
          refine wpH_one (i := 13) (by kernel_rfl) rfl (fun K hK => ?_)
          rw [if_pos (by rfl)]
          go_simp
          refine (rcell_lit d.s d.o d.p N (m : Int) true _ HV.out).mono ?_
          rintro e w3 ⟨rfl, hb⟩
          have BC := Lib.hid (BE.out.drew.trans (hb.mono BE.out.size))
          have OA3 := Lib.hid (OA.out.drew.below hb)
          have oT3 := Lib.hid (oTr.out.drew.below hb)
          have oL3 := Lib.hid (oLr.out.drew.below hb)
          obtain ⟨u0, u1, u2, fT3, zT3⟩ := own3 oT3.out
          obtain ⟨v0, v1, fL3, zL3⟩ := own2 oL3.out
          have e0 : w3.cell? ⟨b, off + i * 3, none⟩ = some (.int .i64 d.s) := (hb.cell (p := ⟨b, off + i * 3, none⟩) hbl).trans d0
          have e1 : w3.cell? ⟨b, off + i * 3 + 1, none⟩ = some (.int .i64 d.o) := (hb.cell (p := ⟨b, off + i * 3 + 1, none⟩) hbl).trans d1
          have e2 : w3.cell? ⟨b, off + i * 3 + 2, none⟩ = some (.int .i64 d.p) := (hb.cell (p := ⟨b, off + i * 3 + 2, none⟩) hbl).trans d2
          have ep : w3.cell? ⟨b, off + n * 3, none⟩ = some (.int .i64 pv.s) := (hb.cell (p := ⟨b, off + n * 3, none⟩) hbl).trans dp
          clear hb
          refine hK.out _ _ (⟨u2, v0, v1, e0, e1, e2, ep⟩) ?_
          clear hK K hHeld
          intro hHeld
          try simp only [Act.put, List.setIfInBounds_toArray, List.set_cons_zero, List.set_cons_succ]
          refine tH 14 151 ?_
          refine tH 15 152 ?_
          refine tH 16 153 ?_
          refine tH 17 154 ?_
          refine tH 18 155 ?_
          refine tH 19 156 ?_
          refine tH 20 157 ?_
          refine tH 21 158 ?_
          refine tH 22 159 ?_
          refine tH 23 160 ?_
          refine tH 24 161 ?_
          refine tH 25 162 ?_
          refine tH 26 163 ?_
          refine tH 27 164 ?_
          refine tH 28 165 ?_
          refine tH 29 166 ?_
          refine tH 30 167 ?_
          refine tH 31 168 ?_
          refine tH 32 169 ?_
          refine tH 33 170 ?_
          refine tH 34 171 ?_
          refine tH 35 172 ?_
          refine tH 36 173 ?_
          refine wpAnyH_done (by kernel_rfl) ?_ _
          go_wp2_with fail
          go_ret
          exact ⟨ret_bool (by rw [HRES.out, HT.out, HS.out, H3.out]; simp), BB1.out.trans (BC.out.mono BB1.out.size)⟩
         ·have k5 : decide (d.s ≤ pv.s) = false := decide_eq_false h5
          have H3 := Lib.hid (show last < d.s by have := HL.out; omega)
          clear h5
          go_wp2_with fail
          refine region_H 37 #[false, false, false, false, false, false, false, false, false, false, false, false, false, false, false, false, false, false, false, false, false, false, false, false, false, false, false, false, false, false, false, false, false, false, false, false, false] (by kernel_rfl) (by kernel_rfl) (fun w' => w'.cell? ⟨w.heap.size, 2, none⟩ = some (.slice (some ⟨b, off, none⟩) ks.length ca) ∧ w'.cell? ⟨w.heap.size + 1, 0, none⟩ = some (.int .i64 N) ∧ w'.cell? ⟨w.heap.size + 1, 1, none⟩ = some (.int .i64 (m : Int)) ∧ w'.cell? ⟨b, off + i * 3, none⟩ = some (.int .i64 d.s) ∧ w'.cell? ⟨b, off + i * 3 + 1, none⟩ = some (.int .i64 d.o) ∧ w'.cell? ⟨b, off + i * 3 + 2, none⟩ = some (.int .i64 d.p) ∧ w'.cell? ⟨b, off + n * 3, none⟩ = some (.int .i64 pv.s)) (by kernel_rfl) ?x363s (fun hHeld => ?x363r)
          case x363s => exact ⟨t2, y0, y1, d0, d1, d2, dp⟩
          refine tH 0 137 ?_
          refine tH 1 138 ?_
          refine tH 2 139 ?_
          refine tH 3 140 ?_
          refine tH 4 141 ?_
          refine tH 5 142 ?_
          refine tH 6 143 ?_
          refine tH 7 144 ?_
          refine tH 8 145 ?_
          refine tH 9 146 ?_
          refine tH 10 147 ?_
          refine tH 11 148 ?_
          refine tH 12 149 ?_
          refine wpH_one (i := 13) (by kernel_rfl) rfl (fun K hK => ?_)
          rw [if_pos (by rfl)]
          go_simp
          refine (rcell_lit d.s d.o d.p N (m : Int) true _ HV.out).mono ?_
          rintro e w3 ⟨rfl, hb⟩
          have BC := Lib.hid (BE.out.drew.trans (hb.mono BE.out.size))
          have OA3 := Lib.hid (OA.out.drew.below hb)
          have oT3 := Lib.hid (oTr.out.drew.below hb)
          have oL3 := Lib.hid (oLr.out.drew.below hb)
          obtain ⟨u0, u1, u2, fT3, zT3⟩ := own3 oT3.out
          obtain ⟨v0, v1, fL3, zL3⟩ := own2 oL3.out
          have e0 : w3.cell? ⟨b, off + i * 3, none⟩ = some (.int .i64 d.s) := (hb.cell (p := ⟨b, off + i * 3, none⟩) hbl).trans d0
          have e1 : w3.cell? ⟨b, off + i * 3 + 1, none⟩ = some (.int .i64 d.o) := (hb.cell (p := ⟨b, off + i * 3 + 1, none⟩) hbl).trans d1
          have e2 : w3.cell? ⟨b, off + i * 3 + 2, none⟩ = some (.int .i64 d.p) := (hb.cell (p := ⟨b, off + i * 3 + 2, none⟩) hbl).trans d2
          have ep : w3.cell? ⟨b, off + n * 3, none⟩ = some (.int .i64 pv.s) := (hb.cell (p := ⟨b, off + n * 3, none⟩) hbl).trans dp
          clear hb
          refine hK.out _ _ (⟨u2, v0, v1, e0, e1, e2, ep⟩) ?_
          clear hK K hHeld
          intro hHeld
          try simp only [Act.put, List.setIfInBounds_toArray, List.set_cons_zero, List.set_cons_succ]
          refine tH 14 151 ?_
          refine tH 15 152 ?_
          refine tH 16 153 ?_
          refine tH 17 154 ?_
          refine tH 18 155 ?_
          refine tH 19 156 ?_
          refine tH 20 157 ?_
          refine tH 21 158 ?_
          refine tH 22 159 ?_
          refine tH 23 160 ?_
          refine tH 24 161 ?_
          refine tH 25 162 ?_
          refine tH 26 163 ?_
          refine tH 27 164 ?_
          refine tH 28 165 ?_
          refine tH 29 166 ?_
          refine tH 30 167 ?_
          refine tH 31 168 ?_
          refine tH 32 169 ?_
          refine tH 33 170 ?_
          refine tH 34 171 ?_
          refine tH 35 172 ?_
          refine tH 36 173 ?_
          refine wpAnyH_done (by kernel_rfl) ?_ _
          clear wm k3 k4 k5 ep dp m0 m1
          rw [HKX.out] at e0
          have x0 : (0 : Int) ≤ (kx : Int) := Int.natCast_nonneg _
          have x1 : (kx : Int) < (m : Int) := by omega
          have cA : w3.cell? ⟨w1.heap.size, kx, none⟩ = some (.int .i64 ((us.map Us.s ++ gs.map Gr.s ++ (ks.take i).map Ak.s).count (kx : Int) : Nat)) := OA3.out.cell (cntV_at hkm)
          have fA := OA3.out.frozen
          have hc0 : (us.map Us.s ++ gs.map Gr.s ++ (ks.take i).map Ak.s).count (kx : Int) ≤ 210 := by
           have h := List.count_le_length (a := (kx : Int)) (l := us.map Us.s ++ gs.map Gr.s ++ (ks.take i).map Ak.s)
           simp only [List.length_append, List.length_map, List.length_take] at h
           omega
          obtain ⟨cn, hcn⟩ : ∃ cn, (us.map Us.s ++ gs.map Gr.s ++ (ks.take i).map Ak.s).count (kx : Int) = cn := ⟨_, rfl⟩
          rw [hcn] at cA hc0
          have HCN := Lib.hid hcn
          have hc1 : (0 : Int) ≤ (cn : Int) := Int.natCast_nonneg _
          have hc2 : (cn : Int) ≤ 210 := by omega
          clear hcn hc0 hs0 hs1
          go_wp2_with fail
          go_roundw
          case rel =>
           have h9 := OA3.out.set kx (.int .i64 ((cn : Int) + 1))
           rw [← HCN.out, cntV_set hkm] at h9
           refine ⟨i + 1, d.s, by omega, by go_num, by rw [HT.out, HS.out, HV.out, decide_eq_true (show last < d.s by exact H3.out)]; simp, fun h => by omega, fun n h => ⟨d, by obtain rfl : n = i := (by omega); exact HD.out, rfl⟩, ?_, ?_, belowSet' BC.out _ _ _ (Nat.le_refl _)⟩
           ·intro z hz
            rw [take_snocG HD.out, List.map_append, ← List.append_assoc] at hz
            rcases List.mem_append.1 hz with hz | hz
            ·exact HRR.out z (by simpa using hz)
            ·simp only [List.map_cons, List.map_nil, List.mem_singleton] at hz
             rw [hz]; have := HKX.out; exact ⟨by omega, by omega⟩
           ·rw [take_snocG HD.out, List.map_append, ← List.append_assoc, List.map_cons, List.map_nil, HKX.out]
            rw [HCN.out] at h9
            exact h9
          case measure => simp [intOf]; omega
      ·obtain rfl : i = ks.length := by omega
       have HsndA := Lib.hid (show sndA N (m : Int) ks = true by rw [HT.out]; exact sndF_end (Nat.le_refl _))
       have HRA := HRR
       rw [List.take_length] at HRA OA
       rw [HsndA.out, Bool.true_and] at HRES
       clear t0 t1 t2 fT zT y0 y1 fL zL oTr oLr
       have oTr := Lib.hid (OT1.out.below BE.out)
       obtain ⟨t0, t1, t2, fT, zT⟩ := own3 oTr.out
       go_wp2_with fail
       obtain ⟨KS, hKS⟩ : ∃ KS, us.map Us.s ++ gs.map Gr.s ++ ks.map Ak.s = KS := ⟨_, rfl⟩
       have HR1 := Lib.hid (show RES = decide KS.Nodup by rw [HRES.out, ← hKS]; rfl)
       rw [hKS] at OA HRA
       have fA := OA.out.frozen
       clear hKS hlt hi j0 HT HZ HSS HRR HRU HRG HRES
       go_loop [9] (fun ii => ∃ (i : Nat), i ≤ m ∧ ii = .int .i64 i ∧ (∀ j, j < i → KS.count (j : Int) ≤ 1)) (fun i => m - (intOf i).toNat)
       case atStart => exact ⟨0, by omega, rfl, fun j h => by omega⟩
       case round =>
        obtain ⟨i, hi, rfl, hcn⟩ := hrel
        have HCN := Lib.hid hcn
        clear hcn
        have j0 : (0 : Int) ≤ (i : Int) := Int.natCast_nonneg _
        by_cases hlt : i < m
        ·have j1 : (i : Int) < (m : Int) := by omega
         have cA : wr.cell? ⟨w1.heap.size, i, none⟩ = some (.int .i64 (KS.count (i : Int) : Nat)) := OA.out.cell (cntV_at hlt)
         obtain ⟨cn, hcn⟩ : ∃ cn, KS.count (i : Int) = cn := ⟨_, rfl⟩
         rw [hcn] at cA
         have HC := Lib.hid hcn
         clear hcn
         by_cases h1 : (1 : Int) < (cn : Int)
         ·have k1 : decide ((1 : Int) < (cn : Int)) = true := decide_eq_true h1
          have k2 : decide (1 < cn) = true := decide_eq_true (by omega)
          have H1 := Lib.hid h1
          clear h1
          go_wp2_with fail
          go_ret
          exact ⟨ret_bool (by rw [HR1.out, decide_eq_false (fun h => by have h2 := (nodup_count KS).1 h (i : Int); have h3 := HC.out; have h4 := H1.out; omega)]), BB1.out.trans (BE.out.mono BB1.out.size)⟩
         ·have k1 : decide ((1 : Int) < (cn : Int)) = false := decide_eq_false h1
          have k2 : decide (1 < cn) = false := decide_eq_false (by omega)
          have H1 := Lib.hid h1
          clear h1
          go_wp2_with fail
          go_round
          case rel => exact ⟨i + 1, by omega, by go_num, fun j hj => by
           by_cases e : j = i
           ·rw [e, HC.out]; have := H1.out; omega
           ·exact HCN.out j (by omega)⟩
          case measure => simp [intOf]; omega
        ·obtain rfl : i = m := by omega
         go_wp2_with fail
         go_ret
         exact ⟨ret_bool (by rw [HR1.out, decide_eq_true ((nodup_count KS).2 fun a => by
          by_cases ha : a ∈ KS
          ·obtain ⟨h1, h2⟩ := HRA.out a ha
           have := HCN.out a.toNat (by omega)
           rwa [show ((a.toNat : Nat) : Int) = a by omega] at this
          ·rw [List.count_eq_zero.2 ha]; omega)]), BB1.out.trans (BE.out.mono BB1.out.size)⟩
theorem rvalid_any (vu vg va : Value) (us : List Us) (gs : List Gr) (ks : List Ak) (N D : Int) (w : World) (su : SlU w vu us) (sg : SlG w vg gs) (sa : SlA w va ks) (u70 : us.length ≤ 70) (g70 : gs.length ≤ 70) (k70 : ks.length ≤ 70) : Calls Tryz.prog 9 #[.agg #[vu, vg, va], .agg #[.int .i64 N, .int .i64 D]] w fun e w' => e = .returned (.bool (vldT N D us gs ks)) ∧ Below w.heap.size w w' := by
 cases hl : layB N D with
 | false => rw [vldT, hl]; exact rvld_t0 vu vg va us gs ks N D w su sg sa u70 g70 k70 hl
 | true =>
  cases L0 : decide (24 < (us.length : Int) + (gs.length : Int)) with
  | true =>
   have h := of_decide_eq_true L0
   have e : lenB us gs ks = false := by rw [← Bool.not_eq_true]; simp only [lenB, Bool.and_eq_true, decide_eq_true_eq]; omega
   rw [vldT, hl, e]; exact rvld_t1 vu vg va us gs ks N D w su sg sa u70 g70 k70 hl L0
  | false =>
   cases L1 : decide (24 < (ks.length : Int)) with
   | true =>
    have h := of_decide_eq_true L1
    have e : lenB us gs ks = false := by rw [← Bool.not_eq_true]; simp only [lenB, Bool.and_eq_true, decide_eq_true_eq]; omega
    rw [vldT, hl, e]; exact rvld_t2 vu vg va us gs ks N D w su sg sa u70 g70 k70 hl L0 L1
   | false =>
    have h4 := of_decide_eq_false L0
    have h5 := of_decide_eq_false L1
    have e : lenB us gs ks = true := by simp only [lenB, Bool.and_eq_true, decide_eq_true_eq]; omega
    rw [vldT, hl, e, Bool.true_and, Bool.true_and]; exact rvld_ok vu vg va us gs ks N D w su sg sa u70 g70 k70 hl L0 L1
theorem rvalid_lit (vu vg va : Value) (us : List Us) (gs : List Gr) (ks : List Ak) (N D : Int) (w : World) (su : SlU w vu us) (sg : SlG w vg gs) (sa : SlA w va ks) (u70 : us.length ≤ 70) (g70 : gs.length ≤ 70) (k70 : ks.length ≤ 70) (x : Bool) (h : vldT N D us gs ks = x) : Calls Tryz.prog 9 #[.agg #[vu, vg, va], .agg #[.int .i64 N, .int .i64 D]] w fun e w' => e = .returned (.bool x) ∧ Below w.heap.size w w' := by
 rw [← h]; exact rvalid_any vu vg va us gs ks N D w su sg sa u70 g70 k70
end Go.Proofs.YtmopiifamopidaaGreat
end

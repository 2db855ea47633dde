/- The reference's Expire; a row copied. -/
import Derived.Test.YtdmadnoijhmbcaaBelo12
import Derived.Test.YtdmadnoijhmbcaaTake12
namespace Go.Proofs.Ytdmadnoijhmbcaa
open Go.RowKit

theorem grown_refl (w : World) (r : Option Nat) : w.grownBy w r := ⟨rfl, rfl, rfl, Nat.le_refl _, fun _ _ _ => rfl⟩
/-- 'append(nil, l...)': a row of the call's own. -/
theorem copy_app {α : Type} {L : Lay α} {P : Program} {ops : Array Oper} {rest : List Oper} {o : Oper} {a : Act} {w : World} {Q : Exit → Act → World → Prop} (hgd : o.guard = none) (s x : Operand) (t : TypeId)
    (ho : o.op = .call { callee := .builtin .append, args := #[s, x], argTypes := #[t, t] })
    (base : Nat) (e : TypeId) (i : TypeInfo) (z : Value) (bytes : Nat) (ht : P.underlying t = some (.slice e)) (hi : P.info? e = some i) (hz : i.zero = some z)
    (hsize : i.size = L.k) (hby : i.bytes = bytes) (hzs : z.cells.size = L.k) (hb100 : bytes ≤ 100)
    (v : Value) (l : List α) (hs : a.eval s = .slice none 0 0) (hx : a.eval x = v) (sl : SlT L w v l) (hl : l.length ≤ 100) (hbase : base ≤ w.heap.size)
    (h : ∀ v' w', w'.ownsRow base e L.k v' l.length (flatT L l) → w.grownBy w' none → wpList P ops Q rest (a.put o.dst v') w') : wpList P ops Q (o :: rest) a w := by
  obtain ⟨p, cap, e0, hlc, hcm, hpn⟩ := sl.form l.length rfl
  subst e0
  cases p with
  | none =>
    obtain rfl := sl.none_len rfl
    obtain rfl := hpn rfl
    exact wpList_append_own_none hgd s x t ho base e i L.k ht hi (.slice none 0 0) 0 [] hs (World.ownsRow_nil _ _ _ _) hx (h _ _ (World.ownsRow_nil _ _ _ _) (grown_refl _ _))
  | some ad =>
    refine wpList_append_own w hgd s x t ho base e i z L.k bytes ht hi hz hsize hby hzs L.pos (.slice none 0 0) 0 [] hs (World.ownsRow_nil _ _ _ _) ad l.length cap (flatT L l) hx (flatT_len l) (sl.olds ad rfl) flatT_cell (by unfold maxLen; omega) ?_ hbase (fun v' w' h1 h2 _ => h v' w' (by simpa using h1) h2)
    have := Nat.mul_le_mul hl hb100
    rw [Nat.zero_add]; omega

set_option linter.unusedSimpArgs false in
set_option linter.unusedVariables false in
set_option maxRecDepth 100000 in
set_option maxHeartbeats 4000000 in
theorem rexp_any (vu vg va : Value) (us : List Us) (gs : List Gr) (ks : List Ak) (fr : Int) (w : World) (su : SlU w vu us) (sg : SlG w vg gs) (sa : SlA w va ks) (u70 : us.length ≤ 70) (g70 : gs.length ≤ 70) (k70 : ks.length ≤ 70) : Calls Try.prog 24 #[.agg #[vu, vg, va], .int .i64 fr] w fun e w' => TblP w us (gs.filter (fun d => !decide (d.u < fr))) ks e w' := by
  obtain ⟨pu, cu, e0, hlu, hcu, _⟩ := su.form us.length rfl
  subst e0
  obtain ⟨pg, cg, e0, hlg, hcg, _⟩ := sg.form gs.length rfl
  subst e0
  obtain ⟨pa, ca, e0, hla, hca, _⟩ := sa.form ks.length rfl
  subst e0
  have SU0 := Lib.hid su
  have SG0 := Lib.hid sg
  have SA0 := Lib.hid sa
  clear su sg sa
  obtain ⟨iU, hi, hz, hs0, hb0⟩ := info_parts info_u
  have IFU := Lib.hid (And.intro hi (And.intro hz (And.intro hs0 hb0)))
  clear hi hz hs0 hb0
  obtain ⟨iG, hi, hz, hs0, hb0⟩ := info_parts info_g
  have IFG := Lib.hid (And.intro hi (And.intro hz (And.intro hs0 hb0)))
  clear hi hz hs0 hb0
  obtain ⟨iA, hi, hz, hs0, hb0⟩ := info_parts info_a
  have IFA := Lib.hid (And.intro hi (And.intro hz (And.intro hs0 hb0)))
  clear hi hz hs0 hb0
  go_enter Try.func24, Try.ntmps24
  go_upto_region 2 with fail
  have OTw := Lib.hid ((((own_at (w := w) (n := w.heap.size) [.slice pu us.length cu, .slice pg gs.length cg, .slice pa ks.length ca] 26 (by rfl)).alloc (.cells #[.slice none 0 0, .slice none 0 0, .slice none 0 0] 26)).alloc (.cells #[.slice none 0 0, .slice none 0 0, .slice none 0 0] 26)))
  have ORw := Lib.hid (((own_at (w := (w.alloc (.cells #[.slice pu us.length cu, .slice pg gs.length cg, .slice pa ks.length ca] 26))) (n := w.heap.size + 1) [.slice none 0 0, .slice none 0 0, .slice none 0 0] 26 (by simp)).alloc (.cells #[.slice none 0 0, .slice none 0 0, .slice none 0 0] 26)))
  have OOw := Lib.hid ((own_at (w := ((w.alloc (.cells #[.slice pu us.length cu, .slice pg gs.length cg, .slice pa ks.length ca] 26)).alloc (.cells #[.slice none 0 0, .slice none 0 0, .slice none 0 0] 26))) (n := w.heap.size + 1 + 1) [.slice none 0 0, .slice none 0 0, .slice none 0 0] 26 (by simp)))
  have BLw := Lib.hid (((((Below.refl w.heap.size w).alloc (by simp) (.cells #[.slice pu us.length cu, .slice pg gs.length cg, .slice pa ks.length ca] 26)).alloc (by simp) (.cells #[.slice none 0 0, .slice none 0 0, .slice none 0 0] 26)).alloc (by simp; omega) (.cells #[.slice none 0 0, .slice none 0 0, .slice none 0 0] 26)))
  have hsz : w.heap.size + 1 + 1 < ((((w.alloc (.cells #[.slice pu us.length cu, .slice pg gs.length cg, .slice pa ks.length ca] 26)).alloc (.cells #[.slice none 0 0, .slice none 0 0, .slice none 0 0] 26)).alloc (.cells #[.slice none 0 0, .slice none 0 0, .slice none 0 0] 26))).heap.size := by simp
  generalize (((w.alloc (.cells #[.slice pu us.length cu, .slice pg gs.length cg, .slice pa ks.length ca] 26)).alloc (.cells #[.slice none 0 0, .slice none 0 0, .slice none 0 0] 26)).alloc (.cells #[.slice none 0 0, .slice none 0 0, .slice none 0 0] 26)) = wa at OTw ORw OOw BLw hsz ⊢
  obtain ⟨bO, hbO⟩ : ∃ bO, w.heap.size + 1 + 1 = bO := ⟨_, rfl⟩
  rw [hbO] at OOw hsz ⊢
  have hb0 : w.heap.size + 1 < bO := by omega
  clear hbO
  obtain ⟨t0, t1, t2, fT, zT⟩ := own3 OTw.out
  obtain ⟨o0, o1, o2, fO, zO⟩ := own3 OOw.out
  have hz0 : wa.heap.size ≤ wa.heap.size := Nat.le_refl _
  have SC := Lib.hid (SU0.out.below BLw.out)
  go_wp2_with (at_builtin; refine copy_app (L := usL) rfl _ _ 22 rfl wa.heap.size 32 iU _ 32 (by kernel_rfl) IFU.out.1 IFU.out.2.1 IFU.out.2.2.1 IFU.out.2.2.2 rfl (by decide) _ us rfl rfl SC.out (by omega) hz0 ?_)
  intro v2 w2 hown hgrow
  obtain ⟨pU1, nU1, cU1, f0⟩ := own_slc hown
  subst f0
  have BE := Lib.hid ((Belo.refl wa.heap.size bO wa).grown hgrow hz0 (fun k hk => by cases hk))
  have OO2 := Lib.hid (own_grown OOw.out hgrow (fun k hk => by cases hk))
  have H2 := Lib.hid hown
  clear hown hgrow t0 t1 t2 fT zT o0 o1 o2 fO zO SC hz0
  obtain ⟨o0, o1, o2, fO, zO⟩ := own3 OO2.out
  have OTm := Lib.hid (BE.out.own OTw.out (by omega) (by omega))
  obtain ⟨t0, t1, t2, fT, zT⟩ := own3 OTm.out
  go_upto_region 3 with fail
  have OO3 := Lib.hid (OO2.out.set 0 (.slice pU1 nU1 cU1))
  have BE3 := Lib.hid (BE.out.set 0 (.slice pU1 nU1 cU1))
  have H3 := Lib.hid (row_set H2.out (b := bO) (by omega) 0 (.slice pU1 nU1 cU1))
  clear OO2 BE H2 OTm t0 t1 t2 fT zT o0 o1 o2 fO zO
  generalize w2.setCell ⟨bO, 0, none⟩ (.slice pU1 nU1 cU1) = wb at OO3 BE3 H3 ⊢
  have hws := BE3.out.size
  have NU := Lib.hid (show SlU wb (.slice pU1 nU1 cU1) us from slt_of_own (L := usL) H3.out)
  replace OTw := Lib.hid (BE3.out.own OTw.out (by omega) (by omega))
  replace ORw := Lib.hid (BE3.out.own ORw.out (by omega) (by omega))
  replace BLw := Lib.hid (BLw.out.trans (BE3.out.below (show w.heap.size ≤ bO by omega) (show w.heap.size ≤ wa.heap.size by omega)))
  replace OOw := OO3
  replace hsz : bO < wb.heap.size := by omega
  clear OO3 BE3 H3 hws
  obtain ⟨t0, t1, t2, fT, zT⟩ := own3 OTw.out
  obtain ⟨o0, o1, o2, fO, zO⟩ := own3 OOw.out
  have hz0 : wb.heap.size ≤ wb.heap.size := Nat.le_refl _
  have SC := Lib.hid (SA0.out.below BLw.out)
  go_wp2_with (at_builtin; refine copy_app (L := akL) rfl _ _ 24 rfl wb.heap.size 51 iA _ 24 (by kernel_rfl) IFA.out.1 IFA.out.2.1 IFA.out.2.2.1 IFA.out.2.2.2 rfl (by decide) _ ks rfl rfl SC.out (by omega) hz0 ?_)
  intro v2 w2 hown hgrow
  obtain ⟨pA1, nA1, cA1, f0⟩ := own_slc hown
  subst f0
  have BE := Lib.hid ((Belo.refl wb.heap.size bO wb).grown hgrow hz0 (fun k hk => by cases hk))
  have OO2 := Lib.hid (own_grown OOw.out hgrow (fun k hk => by cases hk))
  have H2 := Lib.hid hown
  clear hown hgrow t0 t1 t2 fT zT o0 o1 o2 fO zO SC hz0
  obtain ⟨o0, o1, o2, fO, zO⟩ := own3 OO2.out
  have OTm := Lib.hid (BE.out.own OTw.out (by omega) (by omega))
  obtain ⟨t0, t1, t2, fT, zT⟩ := own3 OTm.out
  go_upto_region 4 with fail
  have OO3 := Lib.hid (OO2.out.set 2 (.slice pA1 nA1 cA1))
  have BE3 := Lib.hid (BE.out.set 2 (.slice pA1 nA1 cA1))
  have H3 := Lib.hid (row_set H2.out (b := bO) (by omega) 2 (.slice pA1 nA1 cA1))
  clear OO2 BE H2 OTm t0 t1 t2 fT zT o0 o1 o2 fO zO
  generalize w2.setCell ⟨bO, 2, none⟩ (.slice pA1 nA1 cA1) = wc at OO3 BE3 H3 ⊢
  have hws := BE3.out.size
  have NA := Lib.hid (show SlA wc (.slice pA1 nA1 cA1) ks from slt_of_own (L := akL) H3.out)
  replace NU := Lib.hid (BE3.out.slt NU.out numU OOw.out)
  replace OTw := Lib.hid (BE3.out.own OTw.out (by omega) (by omega))
  replace ORw := Lib.hid (BE3.out.own ORw.out (by omega) (by omega))
  replace BLw := Lib.hid (BLw.out.trans (BE3.out.below (show w.heap.size ≤ bO by omega) (show w.heap.size ≤ wb.heap.size by omega)))
  replace OOw := OO3
  replace hsz : bO < wc.heap.size := by omega
  clear OO3 BE3 H3 hws
  go_wp2_with fail
  obtain ⟨t0, t1, t2, fT, zT⟩ := own3 OTw.out
  go_loopw [6] (fun ii wz => ∃ (i : Nat) (row : Value) (qs : List Gr), i ≤ gs.length ∧ ii = .int .i64 i ∧ qs = (gs.take i).filter (fun d => !decide (d.u < fr)) ∧ Own wz bO [.slice pU1 nU1 cU1, row, .slice pA1 nA1 cA1] 26 ∧ wz.ownsRow wc.heap.size 34 5 row qs.length (flatT grL qs) ∧ Belo wc.heap.size bO wc wz) (fun i _ => gs.length - (intOf i).toNat)
  case atStart => exact ⟨0, _, [], by omega, rfl, rfl, OOw.out, World.ownsRow_nil _ _ _ _, Belo.refl _ _ _⟩
  case round =>
    rename World => wr
    clear t0 t1 t2 fT zT
    obtain ⟨i, row, qs, hi, rfl, hq, hoo, hown, hbe⟩ := hrel
    have hql : qs.length ≤ 70 := by rw [hq]; have := filt_le (fun d => !decide (d.u < fr)) gs i; omega
    have HQ := Lib.hid hq
    have OOr := Lib.hid hoo
    have HOWN := Lib.hid hown
    have BE := Lib.hid hbe
    clear hq hoo hown hbe
    have j0 : (0 : Int) ≤ (i : Int) := Int.natCast_nonneg _
    have hWr := BE.out.size
    have OTr := Lib.hid (BE.out.own OTw.out (by omega) (by omega))
    have ORr := Lib.hid (BE.out.own ORw.out (by omega) (by omega))
    have BLr := Lib.hid (BLw.out.trans (BE.out.below (show w.heap.size ≤ bO by omega) (show w.heap.size ≤ wc.heap.size by omega)))
    have hwr := BLr.out.size
    obtain ⟨t0, t1, t2, fT, zT⟩ := own3 OTr.out
    by_cases hlt : i < gs.length
    · obtain ⟨d, b, off, hd, rfl, _, hbl, d0, d1, d2, d3, d4⟩ := SG0.out.atG BLr.out hlt
      have j1 : (i : Int) < (gs.length : Int) := by omega
      have HD := Lib.hid (take_filt (p := (fun d => !decide (d.u < fr))) hd)
      clear hd
      by_cases hu : d.u < fr
      · have hu3 : (d.u < fr) := hu
        go_wp2_with fail
        go_roundw
        case rel => exact ⟨i + 1, row, qs, by omega, by go_num, by rw [HD.out, HQ.out]; simp [hu], OOr.out, HOWN.out, BE.out⟩
        case measure => simp [intOf]; omega
      · have OTd := OTr
        have OOd := OOr
        have HOWd := HOWN
        have BEd := BE
        have BWd := Lib.hid (Below.refl w.heap.size wr)
        have hWd : wc.heap.size ≤ wr.heap.size := hWr
        have hwd : w.heap.size ≤ wr.heap.size := hwr
        go_wp2_with fail
        obtain ⟨o0, o1, o2, fO, zO⟩ := own3 OOd.out.drew
        refine region_H 11 #[false, false, false, false, false, false, false, false, false, false, false] (by kernel_rfl) (by kernel_rfl) (fun w' => w'.cell? ⟨w.heap.size, 1, none⟩ = some (.slice (some ⟨b, off, none⟩) gs.length cg) ∧ w'.cell? ⟨b, off + i * 5, none⟩ = some (.int .i64 d.s) ∧ w'.cell? ⟨b, off + i * 5 + 1, none⟩ = some (.int .i64 d.o) ∧ w'.cell? ⟨b, off + i * 5 + 2, none⟩ = some (.int .i64 d.p) ∧ w'.cell? ⟨b, off + i * 5 + 3, none⟩ = some (.int .i64 d.m) ∧ w'.cell? ⟨b, off + i * 5 + 4, none⟩ = some (.int .i64 d.u)) (by kernel_rfl) ?x1s (fun hHeld => ?x1r)
        case x1s => exact ⟨OTd.out.drew.cell (i := 1) rfl, (BWd.out.drew.cell (p := ⟨b, off + i * 5, none⟩) hbl).trans d0, (BWd.out.drew.cell (p := ⟨b, off + i * 5 + 1, none⟩) hbl).trans d1, (BWd.out.drew.cell (p := ⟨b, off + i * 5 + 2, none⟩) hbl).trans d2, (BWd.out.drew.cell (p := ⟨b, off + i * 5 + 3, none⟩) hbl).trans d3, (BWd.out.drew.cell (p := ⟨b, off + i * 5 + 4, none⟩) hbl).trans d4⟩
        refine wpH_take (i := 0) (some 34) (v := ?x2v) rfl (by kernel_rfl) (by kernel_rfl) (by kernel_rfl) rfl (fun _ _ _ h => h) (Or.inl ⟨by rfl, ?x2y⟩) hHeld ?x2r
        case x2y => (intro w hSw; (try dsimp only at hSw); go_simp; try with_reducible rfl)
        try simp only [Act.put, List.setIfInBounds_toArray, List.set_cons_zero, List.set_cons_succ]
        refine wpH_take (i := 2) (some 36) (v := ?x3v) rfl (by kernel_rfl) (by kernel_rfl) (by kernel_rfl) rfl (fun _ _ _ h => h) (Or.inl ⟨by rfl, ?x3y⟩) hHeld ?x3r
        case x3y => (intro w hSw; (try dsimp only at hSw); go_simp; try with_reducible rfl)
        try simp only [Act.put, List.setIfInBounds_toArray, List.set_cons_zero, List.set_cons_succ]
        refine wpH_take (i := 3) (some 37) (v := ?x4v) rfl (by kernel_rfl) (by kernel_rfl) (by kernel_rfl) rfl (fun _ _ _ h => h) (Or.inl ⟨by rfl, ?x4y⟩) hHeld ?x4r
        case x4y => (intro w hSw; (try dsimp only at hSw); go_simp; try with_reducible rfl)
        try simp only [Act.put, List.setIfInBounds_toArray, List.set_cons_zero, List.set_cons_succ]
        refine wpH_take (i := 4) (some 38) (v := ?x5v) rfl (by kernel_rfl) (by kernel_rfl) (by kernel_rfl) rfl (fun _ _ _ h => h) (Or.inl ⟨by rfl, ?x5y⟩) hHeld ?x5r
        case x5y => (intro w hSw; (try dsimp only at hSw); go_simp; try with_reducible rfl)
        try simp only [Act.put, List.setIfInBounds_toArray, List.set_cons_zero, List.set_cons_succ]
        refine wpH_take (i := 5) (some 39) (v := ?x6v) rfl (by kernel_rfl) (by kernel_rfl) (by kernel_rfl) rfl (fun _ _ _ h => h) (Or.inl ⟨by rfl, ?x6y⟩) hHeld ?x6r
        case x6y => (intro w hSw; (try dsimp only at hSw); go_simp; try with_reducible rfl)
        try simp only [Act.put, List.setIfInBounds_toArray, List.set_cons_zero, List.set_cons_succ]
        refine wpH_take (i := 6) (some 40) (v := ?x7v) rfl (by kernel_rfl) (by kernel_rfl) (by kernel_rfl) rfl (fun _ _ _ h => h) (Or.inl ⟨by rfl, ?x7y⟩) hHeld ?x7r
        case x7y => (intro w hSw; (try dsimp only at hSw); go_simp; try with_reducible rfl)
        try simp only [Act.put, List.setIfInBounds_toArray, List.set_cons_zero, List.set_cons_succ]
        refine wpAnyH_ready (rs := [1, 7]) (by kernel_rfl) (by simp) (AllReadyH.cons rfl (fun K hK => ?x8a) (AllReadyH.cons rfl (fun K hK => ?x8b) AllReadyH.nil))
        case x8a =>
          rw [if_pos (by rfl)]
          go_simp
          refine hK.out _ _ (⟨OTd.out.drew.cell (i := 1) rfl, (BWd.out.drew.cell (p := ⟨b, off + i * 5, none⟩) hbl).trans d0, (BWd.out.drew.cell (p := ⟨b, off + i * 5 + 1, none⟩) hbl).trans d1, (BWd.out.drew.cell (p := ⟨b, off + i * 5 + 2, none⟩) hbl).trans d2, (BWd.out.drew.cell (p := ⟨b, off + i * 5 + 3, none⟩) hbl).trans d3, (BWd.out.drew.cell (p := ⟨b, off + i * 5 + 4, none⟩) hbl).trans d4⟩) ?_
          clear hK K hHeld
          intro hHeld
          try simp only [Act.put, List.setIfInBounds_toArray, List.set_cons_zero, List.set_cons_succ]
          refine wpH_one (i := 7) (by kernel_rfl) rfl (fun K hK => ?_)
          rw [if_pos (by rfl)]
          go_simp
          have OTe := Lib.hid (show Own (wr.alloc (.cells #[.int .i64 d.s, .int .i64 d.o, .int .i64 d.p, .int .i64 d.m, .int .i64 d.u] 34)).drew w.heap.size [.slice pu us.length cu, .slice (some ⟨b, off, none⟩) gs.length cg, .slice pa ks.length ca] 26 from (OTd.out.alloc _).drew)
          have OOe := Lib.hid (show Own (wr.alloc (.cells #[.int .i64 d.s, .int .i64 d.o, .int .i64 d.p, .int .i64 d.m, .int .i64 d.u] 34)).drew bO [.slice pU1 nU1 cU1, row, .slice pA1 nA1 cA1] 26 from (OOd.out.alloc _).drew)
          have HOWe := Lib.hid (show World.ownsRow (wr.alloc (.cells #[.int .i64 d.s, .int .i64 d.o, .int .i64 d.p, .int .i64 d.m, .int .i64 d.u] 34)).drew _ _ _ _ _ _ from (HOWd.out.alloc (.cells #[.int .i64 d.s, .int .i64 d.o, .int .i64 d.p, .int .i64 d.m, .int .i64 d.u] 34)).drew)
          have BEe := Lib.hid (show Belo _ _ _ (wr.alloc (.cells #[.int .i64 d.s, .int .i64 d.o, .int .i64 d.p, .int .i64 d.m, .int .i64 d.u] 34)).drew from (BEd.out.alloc hWd (.cells #[.int .i64 d.s, .int .i64 d.o, .int .i64 d.p, .int .i64 d.m, .int .i64 d.u] 34)).drew)
          have BWe := Lib.hid (show Below w.heap.size wr (wr.alloc (.cells #[.int .i64 d.s, .int .i64 d.o, .int .i64 d.p, .int .i64 d.m, .int .i64 d.u] 34)).drew from (BWd.out.alloc hwd (.cells #[.int .i64 d.s, .int .i64 d.o, .int .i64 d.p, .int .i64 d.m, .int .i64 d.u] 34)).drew)
          have NEWS := Lib.hid (show ∀ j u, (grL.f d)[j]? = some u → ((wr.alloc (.cells #[.int .i64 d.s, .int .i64 d.o, .int .i64 d.p, .int .i64 d.m, .int .i64 d.u] 34)).drew).cell? ((⟨wr.heap.size, 0, none⟩ : Addr).add j) = some u from newsT (L := grL) wr d 34)
          have hWe : wc.heap.size ≤ ((wr.alloc (.cells #[.int .i64 d.s, .int .i64 d.o, .int .i64 d.p, .int .i64 d.m, .int .i64 d.u] 34)).drew).heap.size := by simp; omega
          generalize (wr.alloc (.cells #[.int .i64 d.s, .int .i64 d.o, .int .i64 d.p, .int .i64 d.m, .int .i64 d.u] 34)).drew = we at OTe OOe HOWe BEe BWe NEWS hWe ⊢
          clear o0 o1 o2 fO zO
          obtain ⟨o0, o1, o2, fO, zO⟩ := own3 OOe.out
          refine hK.out _ _ (⟨OTe.out.cell (i := 1) rfl, (BWe.out.cell (p := ⟨b, off + i * 5, none⟩) hbl).trans d0, (BWe.out.cell (p := ⟨b, off + i * 5 + 1, none⟩) hbl).trans d1, (BWe.out.cell (p := ⟨b, off + i * 5 + 2, none⟩) hbl).trans d2, (BWe.out.cell (p := ⟨b, off + i * 5 + 3, none⟩) hbl).trans d3, (BWe.out.cell (p := ⟨b, off + i * 5 + 4, none⟩) hbl).trans d4⟩) ?_
          clear hK K hHeld
          intro hHeld
          try simp only [Act.put, List.setIfInBounds_toArray, List.set_cons_zero, List.set_cons_succ]
          refine wpH_one (i := 8) (by kernel_rfl) rfl (fun K hK => ?_)
          rw [if_pos (by rfl)]
          refine wp_append_own _ _ _ 23 rfl wc.heap.size 34 iG _ 5 40 (by kernel_rfl) IFG.out.1 IFG.out.2.1 IFG.out.2.2.1 IFG.out.2.2.2 rfl (by decide) row qs.length (flatT grL qs) rfl HOWe.out _ 1 1 (grL.f d) rfl rfl NEWS.out (grL.one _) ?qc4 ?qc5 hWe ?qc7
          case qc4 => unfold maxLen; omega
          case qc5 => omega
          case qc7 =>
            intro v2 w2 hown hgrow hnil
            have hrl := HOWe.out.lt
            have BE2 := Lib.hid (BEe.out.grown hgrow hWe (fun k hk => (hrl k hk).1))
            have OO2 := Lib.hid (own_grown OOe.out hgrow (fun k hk => by have := (hrl k hk).1; omega))
            have OT2 := Lib.hid (own_grown OTe.out hgrow (fun k hk => by have := (hrl k hk).1; omega))
            have BW2 := Lib.hid (BWe.out.grown hgrow (by have := BWe.out.size; omega) (fun k hk => by have := (hrl k hk).1; omega))
            obtain ⟨p2, n2, c2, f0⟩ := own_slc hown
            subst f0
            have H2 := Lib.hid hown
            clear hown hgrow hnil o0 o1 o2 fO zO hrl
            obtain ⟨o0, o1, o2, fO, zO⟩ := own3 OO2.out
            refine hK.out _ _ (⟨OT2.out.cell (i := 1) rfl, (BW2.out.cell (p := ⟨b, off + i * 5, none⟩) hbl).trans d0, (BW2.out.cell (p := ⟨b, off + i * 5 + 1, none⟩) hbl).trans d1, (BW2.out.cell (p := ⟨b, off + i * 5 + 2, none⟩) hbl).trans d2, (BW2.out.cell (p := ⟨b, off + i * 5 + 3, none⟩) hbl).trans d3, (BW2.out.cell (p := ⟨b, off + i * 5 + 4, none⟩) hbl).trans d4⟩) ?_
            clear hK K hHeld
            intro hHeld
            try simp only [Act.put, List.setIfInBounds_toArray, List.set_cons_zero, List.set_cons_succ]
            refine wpH_take (i := 9) (some 43) (v := ?x9v) rfl (by kernel_rfl) (by kernel_rfl) (by kernel_rfl) rfl (fun _ _ _ h => h) (Or.inl ⟨by rfl, ?x9y⟩) hHeld ?x9r
            case x9y => (intro w hSw; (try dsimp only at hSw); go_simp; try with_reducible rfl)
            try simp only [Act.put, List.setIfInBounds_toArray, List.set_cons_zero, List.set_cons_succ]
            refine wpH_one (i := 10) (by kernel_rfl) rfl (fun K hK => ?_)
            rw [if_pos (by rfl)]
            go_simp
            have OO3 := Lib.hid (OO2.out.set 1 (.slice p2 n2 c2))
            have BE3 := Lib.hid (BE2.out.set 1 (.slice p2 n2 c2))
            have H3 := Lib.hid (row_set H2.out (b := bO) (by omega) 1 (.slice p2 n2 c2))
            have OT3 := Lib.hid (OT2.out.other (a := ⟨bO, 1, none⟩) (by first | (simp; done) | (simp; omega)) (.slice p2 n2 c2))
            have BW3 := Lib.hid (BW2.out.setCell (p := ⟨bO, 1, none⟩) (by first | (simp; done) | (simp; omega)) (.slice p2 n2 c2))
            refine hK.out _ _ (⟨OT3.out.cell (i := 1) rfl, (BW3.out.cell (p := ⟨b, off + i * 5, none⟩) hbl).trans d0, (BW3.out.cell (p := ⟨b, off + i * 5 + 1, none⟩) hbl).trans d1, (BW3.out.cell (p := ⟨b, off + i * 5 + 2, none⟩) hbl).trans d2, (BW3.out.cell (p := ⟨b, off + i * 5 + 3, none⟩) hbl).trans d3, (BW3.out.cell (p := ⟨b, off + i * 5 + 4, none⟩) hbl).trans d4⟩) ?_
            clear hK K hHeld
            intro hHeld
            try simp only [Act.put, List.setIfInBounds_toArray, List.set_cons_zero, List.set_cons_succ]
            refine wpAnyH_done (by kernel_rfl) ?_ _
            go_wp2_with fail
            go_roundw
            case rel => exact ⟨i + 1, .slice p2 n2 c2, qs ++ [d], by omega, by go_num, by rw [HD.out, HQ.out]; simp [hu], OO3.out, by have := H3.out; rw [flatT_append, flatT_one]; simpa using this, BE3.out⟩
            case measure => simp [intOf]; omega
        case x8b =>
          rw [if_pos (by rfl)]
          go_simp
          have OTe := Lib.hid (show Own (wr.alloc (.cells #[.int .i64 d.s, .int .i64 d.o, .int .i64 d.p, .int .i64 d.m, .int .i64 d.u] 34)).drew w.heap.size [.slice pu us.length cu, .slice (some ⟨b, off, none⟩) gs.length cg, .slice pa ks.length ca] 26 from (OTd.out.alloc _).drew)
          have OOe := Lib.hid (show Own (wr.alloc (.cells #[.int .i64 d.s, .int .i64 d.o, .int .i64 d.p, .int .i64 d.m, .int .i64 d.u] 34)).drew bO [.slice pU1 nU1 cU1, row, .slice pA1 nA1 cA1] 26 from (OOd.out.alloc _).drew)
          have HOWe := Lib.hid (show World.ownsRow (wr.alloc (.cells #[.int .i64 d.s, .int .i64 d.o, .int .i64 d.p, .int .i64 d.m, .int .i64 d.u] 34)).drew _ _ _ _ _ _ from (HOWd.out.alloc (.cells #[.int .i64 d.s, .int .i64 d.o, .int .i64 d.p, .int .i64 d.m, .int .i64 d.u] 34)).drew)
          have BEe := Lib.hid (show Belo _ _ _ (wr.alloc (.cells #[.int .i64 d.s, .int .i64 d.o, .int .i64 d.p, .int .i64 d.m, .int .i64 d.u] 34)).drew from (BEd.out.alloc hWd (.cells #[.int .i64 d.s, .int .i64 d.o, .int .i64 d.p, .int .i64 d.m, .int .i64 d.u] 34)).drew)
          have BWe := Lib.hid (show Below w.heap.size wr (wr.alloc (.cells #[.int .i64 d.s, .int .i64 d.o, .int .i64 d.p, .int .i64 d.m, .int .i64 d.u] 34)).drew from (BWd.out.alloc hwd (.cells #[.int .i64 d.s, .int .i64 d.o, .int .i64 d.p, .int .i64 d.m, .int .i64 d.u] 34)).drew)
          have NEWS := Lib.hid (show ∀ j u, (grL.f d)[j]? = some u → ((wr.alloc (.cells #[.int .i64 d.s, .int .i64 d.o, .int .i64 d.p, .int .i64 d.m, .int .i64 d.u] 34)).drew).cell? ((⟨wr.heap.size, 0, none⟩ : Addr).add j) = some u from newsT (L := grL) wr d 34)
          have hWe : wc.heap.size ≤ ((wr.alloc (.cells #[.int .i64 d.s, .int .i64 d.o, .int .i64 d.p, .int .i64 d.m, .int .i64 d.u] 34)).drew).heap.size := by simp; omega
          generalize (wr.alloc (.cells #[.int .i64 d.s, .int .i64 d.o, .int .i64 d.p, .int .i64 d.m, .int .i64 d.u] 34)).drew = we at OTe OOe HOWe BEe BWe NEWS hWe ⊢
          clear o0 o1 o2 fO zO
          obtain ⟨o0, o1, o2, fO, zO⟩ := own3 OOe.out
          refine hK.out _ _ (⟨OTe.out.cell (i := 1) rfl, (BWe.out.cell (p := ⟨b, off + i * 5, none⟩) hbl).trans d0, (BWe.out.cell (p := ⟨b, off + i * 5 + 1, none⟩) hbl).trans d1, (BWe.out.cell (p := ⟨b, off + i * 5 + 2, none⟩) hbl).trans d2, (BWe.out.cell (p := ⟨b, off + i * 5 + 3, none⟩) hbl).trans d3, (BWe.out.cell (p := ⟨b, off + i * 5 + 4, none⟩) hbl).trans d4⟩) ?_
          clear hK K hHeld
          intro hHeld
          try simp only [Act.put, List.setIfInBounds_toArray, List.set_cons_zero, List.set_cons_succ]
          refine wpH_one (i := 1) (by kernel_rfl) rfl (fun K hK => ?_)
          rw [if_pos (by rfl)]
          go_simp
          refine hK.out _ _ (⟨OTe.out.cell (i := 1) rfl, (BWe.out.cell (p := ⟨b, off + i * 5, none⟩) hbl).trans d0, (BWe.out.cell (p := ⟨b, off + i * 5 + 1, none⟩) hbl).trans d1, (BWe.out.cell (p := ⟨b, off + i * 5 + 2, none⟩) hbl).trans d2, (BWe.out.cell (p := ⟨b, off + i * 5 + 3, none⟩) hbl).trans d3, (BWe.out.cell (p := ⟨b, off + i * 5 + 4, none⟩) hbl).trans d4⟩) ?_
          clear hK K hHeld
          intro hHeld
          try simp only [Act.put, List.setIfInBounds_toArray, List.set_cons_zero, List.set_cons_succ]
          refine wpH_one (i := 8) (by kernel_rfl) rfl (fun K hK => ?_)
          rw [if_pos (by rfl)]
          refine wp_append_own _ _ _ 23 rfl wc.heap.size 34 iG _ 5 40 (by kernel_rfl) IFG.out.1 IFG.out.2.1 IFG.out.2.2.1 IFG.out.2.2.2 rfl (by decide) row qs.length (flatT grL qs) rfl HOWe.out _ 1 1 (grL.f d) rfl rfl NEWS.out (grL.one _) ?qc4 ?qc5 hWe ?qc7
          case qc4 => unfold maxLen; omega
          case qc5 => omega
          case qc7 =>
            intro v2 w2 hown hgrow hnil
            have hrl := HOWe.out.lt
            have BE2 := Lib.hid (BEe.out.grown hgrow hWe (fun k hk => (hrl k hk).1))
            have OO2 := Lib.hid (own_grown OOe.out hgrow (fun k hk => by have := (hrl k hk).1; omega))
            have OT2 := Lib.hid (own_grown OTe.out hgrow (fun k hk => by have := (hrl k hk).1; omega))
            have BW2 := Lib.hid (BWe.out.grown hgrow (by have := BWe.out.size; omega) (fun k hk => by have := (hrl k hk).1; omega))
            obtain ⟨p2, n2, c2, f0⟩ := own_slc hown
            subst f0
            have H2 := Lib.hid hown
            clear hown hgrow hnil o0 o1 o2 fO zO hrl
            obtain ⟨o0, o1, o2, fO, zO⟩ := own3 OO2.out
            refine hK.out _ _ (⟨OT2.out.cell (i := 1) rfl, (BW2.out.cell (p := ⟨b, off + i * 5, none⟩) hbl).trans d0, (BW2.out.cell (p := ⟨b, off + i * 5 + 1, none⟩) hbl).trans d1, (BW2.out.cell (p := ⟨b, off + i * 5 + 2, none⟩) hbl).trans d2, (BW2.out.cell (p := ⟨b, off + i * 5 + 3, none⟩) hbl).trans d3, (BW2.out.cell (p := ⟨b, off + i * 5 + 4, none⟩) hbl).trans d4⟩) ?_
            clear hK K hHeld
            intro hHeld
            try simp only [Act.put, List.setIfInBounds_toArray, List.set_cons_zero, List.set_cons_succ]
            refine wpH_take (i := 9) (some 43) (v := ?x10v) rfl (by kernel_rfl) (by kernel_rfl) (by kernel_rfl) rfl (fun _ _ _ h => h) (Or.inl ⟨by rfl, ?x10y⟩) hHeld ?x10r
            case x10y => (intro w hSw; (try dsimp only at hSw); go_simp; try with_reducible rfl)
            try simp only [Act.put, List.setIfInBounds_toArray, List.set_cons_zero, List.set_cons_succ]
            refine wpH_one (i := 10) (by kernel_rfl) rfl (fun K hK => ?_)
            rw [if_pos (by rfl)]
            go_simp
            have OO3 := Lib.hid (OO2.out.set 1 (.slice p2 n2 c2))
            have BE3 := Lib.hid (BE2.out.set 1 (.slice p2 n2 c2))
            have H3 := Lib.hid (row_set H2.out (b := bO) (by omega) 1 (.slice p2 n2 c2))
            have OT3 := Lib.hid (OT2.out.other (a := ⟨bO, 1, none⟩) (by first | (simp; done) | (simp; omega)) (.slice p2 n2 c2))
            have BW3 := Lib.hid (BW2.out.setCell (p := ⟨bO, 1, none⟩) (by first | (simp; done) | (simp; omega)) (.slice p2 n2 c2))
            refine hK.out _ _ (⟨OT3.out.cell (i := 1) rfl, (BW3.out.cell (p := ⟨b, off + i * 5, none⟩) hbl).trans d0, (BW3.out.cell (p := ⟨b, off + i * 5 + 1, none⟩) hbl).trans d1, (BW3.out.cell (p := ⟨b, off + i * 5 + 2, none⟩) hbl).trans d2, (BW3.out.cell (p := ⟨b, off + i * 5 + 3, none⟩) hbl).trans d3, (BW3.out.cell (p := ⟨b, off + i * 5 + 4, none⟩) hbl).trans d4⟩) ?_
            clear hK K hHeld
            intro hHeld
            try simp only [Act.put, List.setIfInBounds_toArray, List.set_cons_zero, List.set_cons_succ]
            refine wpAnyH_done (by kernel_rfl) ?_ _
            go_wp2_with fail
            go_roundw
            case rel => exact ⟨i + 1, .slice p2 n2 c2, qs ++ [d], by omega, by go_num, by rw [HD.out, HQ.out]; simp [hu], OO3.out, by have := H3.out; rw [flatT_append, flatT_one]; simpa using this, BE3.out⟩
            case measure => simp [intOf]; omega
    · have HQ2 := Lib.hid (show qs = gs.filter (fun d => !decide (d.u < fr)) by have h := HQ.out; rw [List.take_of_length_le (by omega)] at h; exact h)
      have NG := Lib.hid (show SlG wr row (gs.filter (fun d => !decide (d.u < fr))) by rw [← HQ2.out]; exact slt_of_own (L := grL) HOWN.out)
      obtain ⟨pG1, nG1, cG1, f0⟩ := NG.out.slc
      subst f0
      replace NU := Lib.hid (BE.out.slt NU.out numU OOw.out)
      replace NA := Lib.hid (BE.out.slt NA.out numA OOw.out)
      obtain ⟨r0, r1, r2, fR, zR⟩ := own3 ORr.out
      obtain ⟨o0, o1, o2, fO, zO⟩ := own3 OOr.out
      go_wp2_with fail
      clear t0 t1 t2 fT zT hlt hi j0 HQ HQ2 HOWN hql hwr
      replace OTw := OTr
      replace ORw := ORr
      replace OOw := OOr
      replace BLw := BLr
      replace hsz : bO < wr.heap.size := by omega
      clear OTr ORr OOr BLr BE hWr
      clear r0 r1 r2 fR zR o0 o1 o2 fO zO
      have FU := Lib.hid (SlT.set3 NU.out numU ORw.out (.slice pU1 nU1 cU1) (.slice pG1 nG1 cG1) (.slice pA1 nA1 cA1))
      have FG := Lib.hid (SlT.set3 NG.out numG ORw.out (.slice pU1 nU1 cU1) (.slice pG1 nG1 cG1) (.slice pA1 nA1 cA1))
      have FA := Lib.hid (SlT.set3 NA.out numA ORw.out (.slice pU1 nU1 cU1) (.slice pG1 nG1 cG1) (.slice pA1 nA1 cA1))
      have BF := Lib.hid (below_set3 (x := .slice pU1 nU1 cU1) (y := .slice pG1 nG1 cG1) (z := .slice pA1 nA1 cA1) BLw.out (show w.heap.size ≤ w.heap.size + 1 by omega))
      have OF := Lib.hid (own_set3 (x := .slice pU1 nU1 cU1) (y := .slice pG1 nG1 cG1) (z := .slice pA1 nA1 cA1) ORw.out)
      generalize (((wr.setCell ⟨w.heap.size + 1, 0, none⟩ (.slice pU1 nU1 cU1)).setCell ⟨w.heap.size + 1, 1, none⟩ (.slice pG1 nG1 cG1)).setCell ⟨w.heap.size + 1, 2, none⟩ (.slice pA1 nA1 cA1)) = wf at OF FU FG FA BF ⊢
      obtain ⟨q0, q1, q2, _, _⟩ := own3 OF.out
      go_wp2_with fail
      refine bodyPost_ret (v := .agg #[.slice pU1 nU1 cU1, .slice pG1 nG1 cG1, .slice pA1 nA1 cA1]) (by simp [results, Try.results24, go_sem, *]) rfl ⟨_, _, _, rfl, FU.out, FG.out, FA.out, BF.out⟩

end Go.Proofs.Ytdmadnoijhmbcaa

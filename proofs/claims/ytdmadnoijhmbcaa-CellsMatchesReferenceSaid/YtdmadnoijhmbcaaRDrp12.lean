/- The reference's Drop and Expire. -/
import Derived.Test.YtdmadnoijhmbcaaBelo12
import Derived.Test.YtdmadnoijhmbcaaTake12
namespace Go.Proofs.Ytdmadnoijhmbcaa
open Go.RowKit

set_option linter.unusedSimpArgs false in
set_option linter.unusedVariables false in
set_option maxRecDepth 100000 in
set_option maxHeartbeats 4000000 in
theorem rdrop_any (vu vg va : Value) (us : List Us) (gs : List Gr) (ks : List Ak) (zs zo : Int) (w : World) (su : SlU w vu us) (sg : SlG w vg gs) (sa : SlA w va ks) (u70 : us.length ≤ 70) (g70 : gs.length ≤ 70) (k70 : ks.length ≤ 70) : Calls Try.prog 22 #[.agg #[vu, vg, va], .agg #[.int .i64 zs, .int .i64 zo]] w fun e w' => TblP w (us.filter (fun d => !(d.s == zs && d.o == zo))) (gs.filter (fun d => !(d.s == zs && d.o == zo))) (ks.filter (fun d => !(d.s == zs && d.o == zo))) e w' := by
  obtain ⟨pu, cu, e0, hlu, hcu, _⟩ := su.form us.length rfl
  subst e0
  obtain ⟨pg, cg, e0, hlg, hcg, _⟩ := sg.form gs.length rfl
  subst e0
  obtain ⟨pa, ca, e0, hla, hca, _⟩ := sa.form ks.length rfl
  subst e0
  have SU0 := Lib.hid su
  have SG0 := Lib.hid sg
  have SA0 := Lib.hid sa
  clear su sg sa
  obtain ⟨iU, hi, hz, hs0, hb0⟩ := info_parts info_u
  have IFU := Lib.hid (And.intro hi (And.intro hz (And.intro hs0 hb0)))
  clear hi hz hs0 hb0
  obtain ⟨iG, hi, hz, hs0, hb0⟩ := info_parts info_g
  have IFG := Lib.hid (And.intro hi (And.intro hz (And.intro hs0 hb0)))
  clear hi hz hs0 hb0
  obtain ⟨iA, hi, hz, hs0, hb0⟩ := info_parts info_a
  have IFA := Lib.hid (And.intro hi (And.intro hz (And.intro hs0 hb0)))
  clear hi hz hs0 hb0
  go_enter Try.func22, Try.ntmps22
  go_wp2_with fail
  have OTw := Lib.hid (((((own_at (w := w) (n := w.heap.size) [.slice pu us.length cu, .slice pg gs.length cg, .slice pa ks.length ca] 26 (by rfl)).alloc (.cells #[.int .i64 zs, .int .i64 zo] 30)).alloc (.cells #[.slice none 0 0, .slice none 0 0, .slice none 0 0] 26)).alloc (.cells #[.slice none 0 0, .slice none 0 0, .slice none 0 0] 26)))
  have OCw := Lib.hid ((((own_at (w := (w.alloc (.cells #[.slice pu us.length cu, .slice pg gs.length cg, .slice pa ks.length ca] 26))) (n := w.heap.size + 1) [.int .i64 zs, .int .i64 zo] 30 (by simp)).alloc (.cells #[.slice none 0 0, .slice none 0 0, .slice none 0 0] 26)).alloc (.cells #[.slice none 0 0, .slice none 0 0, .slice none 0 0] 26)))
  have ORw := Lib.hid (((own_at (w := ((w.alloc (.cells #[.slice pu us.length cu, .slice pg gs.length cg, .slice pa ks.length ca] 26)).alloc (.cells #[.int .i64 zs, .int .i64 zo] 30))) (n := w.heap.size + 1 + 1) [.slice none 0 0, .slice none 0 0, .slice none 0 0] 26 (by simp)).alloc (.cells #[.slice none 0 0, .slice none 0 0, .slice none 0 0] 26)))
  have OOw := Lib.hid ((own_at (w := (((w.alloc (.cells #[.slice pu us.length cu, .slice pg gs.length cg, .slice pa ks.length ca] 26)).alloc (.cells #[.int .i64 zs, .int .i64 zo] 30)).alloc (.cells #[.slice none 0 0, .slice none 0 0, .slice none 0 0] 26))) (n := w.heap.size + 1 + 1 + 1) [.slice none 0 0, .slice none 0 0, .slice none 0 0] 26 (by simp)))
  have BLw := Lib.hid ((((((Below.refl w.heap.size w).alloc (by simp) (.cells #[.slice pu us.length cu, .slice pg gs.length cg, .slice pa ks.length ca] 26)).alloc (by simp) (.cells #[.int .i64 zs, .int .i64 zo] 30)).alloc (by simp; omega) (.cells #[.slice none 0 0, .slice none 0 0, .slice none 0 0] 26)).alloc (by simp; omega) (.cells #[.slice none 0 0, .slice none 0 0, .slice none 0 0] 26)))
  have hsz : w.heap.size + 1 + 1 + 1 < (((((w.alloc (.cells #[.slice pu us.length cu, .slice pg gs.length cg, .slice pa ks.length ca] 26)).alloc (.cells #[.int .i64 zs, .int .i64 zo] 30)).alloc (.cells #[.slice none 0 0, .slice none 0 0, .slice none 0 0] 26)).alloc (.cells #[.slice none 0 0, .slice none 0 0, .slice none 0 0] 26))).heap.size := by simp
  generalize ((((w.alloc (.cells #[.slice pu us.length cu, .slice pg gs.length cg, .slice pa ks.length ca] 26)).alloc (.cells #[.int .i64 zs, .int .i64 zo] 30)).alloc (.cells #[.slice none 0 0, .slice none 0 0, .slice none 0 0] 26)).alloc (.cells #[.slice none 0 0, .slice none 0 0, .slice none 0 0] 26)) = wa at OTw OCw ORw OOw BLw hsz ⊢
  obtain ⟨bO, hbO⟩ : ∃ bO, w.heap.size + 1 + 1 + 1 = bO := ⟨_, rfl⟩
  rw [hbO] at OOw hsz ⊢
  have hb0 : w.heap.size + 1 + 1 < bO := by omega
  clear hbO
  obtain ⟨t0, t1, t2, fT, zT⟩ := own3 OTw.out
  obtain ⟨r0, r1, r2, fR, zR⟩ := own3 ORw.out
  obtain ⟨o0, o1, o2, fO, zO⟩ := own3 OOw.out
  obtain ⟨y0, y1, fC, zC⟩ := own2 OCw.out
  go_loopw [6] (fun ii wz => ∃ (i : Nat) (row : Value) (qs : List Us), i ≤ us.length ∧ ii = .int .i64 i ∧ qs = (us.take i).filter (fun d => !(d.s == zs && d.o == zo)) ∧ Own wz bO [row, .slice none 0 0, .slice none 0 0] 26 ∧ wz.ownsRow wa.heap.size 32 4 row qs.length (flatT usL qs) ∧ Belo wa.heap.size bO wa wz) (fun i _ => us.length - (intOf i).toNat)
  case atStart => exact ⟨0, _, [], by omega, rfl, rfl, OOw.out, World.ownsRow_nil _ _ _ _, Belo.refl _ _ _⟩
  case round =>
    rename World => wr
    clear t0 t1 t2 fT zT r0 r1 r2 fR zR o0 o1 o2 fO zO y0 y1 fC zC
    obtain ⟨i, row, qs, hi, rfl, hq, hoo, hown, hbe⟩ := hrel
    have hql : qs.length ≤ 70 := by rw [hq]; have := filt_le (fun d => !(d.s == zs && d.o == zo)) us i; omega
    have HQ := Lib.hid hq
    have OOr := Lib.hid hoo
    have HOWN := Lib.hid hown
    have BE := Lib.hid hbe
    clear hq hoo hown hbe
    have j0 : (0 : Int) ≤ (i : Int) := Int.natCast_nonneg _
    have hWr := BE.out.size
    have OTr := Lib.hid (BE.out.own OTw.out (by omega) (by omega))
    have OCr := Lib.hid (BE.out.own OCw.out (by omega) (by omega))
    have ORr := Lib.hid (BE.out.own ORw.out (by omega) (by omega))
    have BLr := Lib.hid (BLw.out.trans (BE.out.below (show w.heap.size ≤ bO by omega) (show w.heap.size ≤ wa.heap.size by omega)))
    have hwr := BLr.out.size
    obtain ⟨t0, t1, t2, fT, zT⟩ := own3 OTr.out
    obtain ⟨y0, y1, fC, zC⟩ := own2 OCr.out
    by_cases hlt : i < us.length
    · obtain ⟨d, b, off, hd, rfl, _, hbl, d0, d1, d2, d3⟩ := SU0.out.atU BLr.out hlt
      have j1 : (i : Int) < (us.length : Int) := by omega
      have HD := Lib.hid (take_filt (p := (fun d => !(d.s == zs && d.o == zo))) hd)
      clear hd
      cases hn : (d.s == zs && d.o == zo) with
      | true =>
        have HN := Lib.hid hn
        have hqq := neq_cell d.s d.o zs zo true hn
        clear hn
        go_wp2_with fail
        refine region_H 8 #[false, false, false, false, false, false, false, false] (by kernel_rfl) (by kernel_rfl) (fun w' => w'.cell? ⟨w.heap.size, 0, none⟩ = some (.slice (some ⟨b, off, none⟩) us.length cu) ∧ w'.cell? ⟨w.heap.size + 1, 0, none⟩ = some (.int .i64 zs) ∧ w'.cell? ⟨w.heap.size + 1, 1, none⟩ = some (.int .i64 zo) ∧ w'.cell? ⟨b, off + i * 4, none⟩ = some (.int .i64 d.s) ∧ w'.cell? ⟨b, off + i * 4 + 1, none⟩ = some (.int .i64 d.o)) (by kernel_rfl) ?x1s (fun hHeld => ?x1r)
        case x1s => exact ⟨t0, y0, y1, d0, d1⟩
        refine wpH_take (i := 0) (some 16) (v := ?x2v) rfl (by kernel_rfl) (by kernel_rfl) (by kernel_rfl) rfl (fun _ _ _ h => h) (Or.inl ⟨by rfl, ?x2y⟩) hHeld ?x2r
        case x2y => (intro w hSw; (try dsimp only at hSw); go_simp; try with_reducible rfl)
        try simp only [Act.put, List.setIfInBounds_toArray, List.set_cons_zero, List.set_cons_succ]
        refine wpH_take (i := 1) (some 17) (v := ?x3v) rfl (by kernel_rfl) (by kernel_rfl) (by kernel_rfl) rfl (fun _ _ _ h => h) (Or.inl ⟨by rfl, ?x3y⟩) hHeld ?x3r
        case x3y => (intro w hSw; (try dsimp only at hSw); go_simp; try with_reducible rfl)
        try simp only [Act.put, List.setIfInBounds_toArray, List.set_cons_zero, List.set_cons_succ]
        refine wpH_take (i := 2) (some 18) (v := ?x4v) rfl (by kernel_rfl) (by kernel_rfl) (by kernel_rfl) rfl (fun _ _ _ h => h) (Or.inl ⟨by rfl, ?x4y⟩) hHeld ?x4r
        case x4y => (intro w hSw; (try dsimp only at hSw); go_simp; try with_reducible rfl)
        try simp only [Act.put, List.setIfInBounds_toArray, List.set_cons_zero, List.set_cons_succ]
        refine wpH_take (i := 3) (some 19) (v := ?x5v) rfl (by kernel_rfl) (by kernel_rfl) (by kernel_rfl) rfl (fun _ _ _ h => h) (Or.inl ⟨by rfl, ?x5y⟩) hHeld ?x5r
        case x5y => (intro w hSw; (try dsimp only at hSw); go_simp; try with_reducible rfl)
        try simp only [Act.put, List.setIfInBounds_toArray, List.set_cons_zero, List.set_cons_succ]
        refine wpH_take (i := 4) (some 20) (v := ?x6v) rfl (by kernel_rfl) (by kernel_rfl) (by kernel_rfl) rfl (fun _ _ _ h => h) (Or.inl ⟨by rfl, ?x6y⟩) hHeld ?x6r
        case x6y => (intro w hSw; (try dsimp only at hSw); go_simp; try with_reducible rfl)
        try simp only [Act.put, List.setIfInBounds_toArray, List.set_cons_zero, List.set_cons_succ]
        refine wpH_take (i := 5) (some 21) (v := ?x7v) rfl (by kernel_rfl) (by kernel_rfl) (by kernel_rfl) rfl (fun _ _ _ h => h) (Or.inl ⟨by rfl, ?x7y⟩) hHeld ?x7r
        case x7y => (intro w hSw; (try dsimp only at hSw); go_simp; try with_reducible rfl)
        try simp only [Act.put, List.setIfInBounds_toArray, List.set_cons_zero, List.set_cons_succ]
        refine wpH_take (i := 6) (some 22) (v := ?x8v) rfl (by kernel_rfl) (by kernel_rfl) (by kernel_rfl) rfl (fun _ _ _ h => h) (Or.inl ⟨by rfl, ?x8y⟩) hHeld ?x8r
        case x8y => (intro w hSw; (try dsimp only at hSw); go_simp; try with_reducible rfl)
        try simp only [Act.put, List.setIfInBounds_toArray, List.set_cons_zero, List.set_cons_succ]
        refine wpH_take (i := 7) (some 23) (v := ?x9v) rfl (by kernel_rfl) (by kernel_rfl) (by kernel_rfl) rfl (fun _ _ _ h => h) (Or.inl ⟨by rfl, ?x9y⟩) hHeld ?x9r
        case x9y => (intro w hSw; (try dsimp only at hSw); go_simp; try with_reducible rfl)
        try simp only [Act.put, List.setIfInBounds_toArray, List.set_cons_zero, List.set_cons_succ]
        refine wpAnyH_done (by kernel_rfl) ?_ _
        go_wp2_with fail
        go_roundw
        case rel => exact ⟨i + 1, row, qs, by omega, by go_num, by rw [HD.out, HQ.out, HN.out]; simp, OOr.out.drew, HOWN.out.drew, BE.out.drew⟩
        case measure => simp [intOf]; omega
      | false =>
        have HN := Lib.hid hn
        have hqq := neq_cell d.s d.o zs zo false hn
        clear hn
        go_wp2_with fail
        refine region_H 8 #[false, false, false, false, false, false, false, false] (by kernel_rfl) (by kernel_rfl) (fun w' => w'.cell? ⟨w.heap.size, 0, none⟩ = some (.slice (some ⟨b, off, none⟩) us.length cu) ∧ w'.cell? ⟨w.heap.size + 1, 0, none⟩ = some (.int .i64 zs) ∧ w'.cell? ⟨w.heap.size + 1, 1, none⟩ = some (.int .i64 zo) ∧ w'.cell? ⟨b, off + i * 4, none⟩ = some (.int .i64 d.s) ∧ w'.cell? ⟨b, off + i * 4 + 1, none⟩ = some (.int .i64 d.o)) (by kernel_rfl) ?x10s (fun hHeld => ?x10r)
        case x10s => exact ⟨t0, y0, y1, d0, d1⟩
        refine wpH_take (i := 0) (some 16) (v := ?x11v) rfl (by kernel_rfl) (by kernel_rfl) (by kernel_rfl) rfl (fun _ _ _ h => h) (Or.inl ⟨by rfl, ?x11y⟩) hHeld ?x11r
        case x11y => (intro w hSw; (try dsimp only at hSw); go_simp; try with_reducible rfl)
        try simp only [Act.put, List.setIfInBounds_toArray, List.set_cons_zero, List.set_cons_succ]
        refine wpH_take (i := 1) (some 17) (v := ?x12v) rfl (by kernel_rfl) (by kernel_rfl) (by kernel_rfl) rfl (fun _ _ _ h => h) (Or.inl ⟨by rfl, ?x12y⟩) hHeld ?x12r
        case x12y => (intro w hSw; (try dsimp only at hSw); go_simp; try with_reducible rfl)
        try simp only [Act.put, List.setIfInBounds_toArray, List.set_cons_zero, List.set_cons_succ]
        refine wpH_take (i := 2) (some 18) (v := ?x13v) rfl (by kernel_rfl) (by kernel_rfl) (by kernel_rfl) rfl (fun _ _ _ h => h) (Or.inl ⟨by rfl, ?x13y⟩) hHeld ?x13r
        case x13y => (intro w hSw; (try dsimp only at hSw); go_simp; try with_reducible rfl)
        try simp only [Act.put, List.setIfInBounds_toArray, List.set_cons_zero, List.set_cons_succ]
        refine wpH_take (i := 3) (some 19) (v := ?x14v) rfl (by kernel_rfl) (by kernel_rfl) (by kernel_rfl) rfl (fun _ _ _ h => h) (Or.inl ⟨by rfl, ?x14y⟩) hHeld ?x14r
        case x14y => (intro w hSw; (try dsimp only at hSw); go_simp; try with_reducible rfl)
        try simp only [Act.put, List.setIfInBounds_toArray, List.set_cons_zero, List.set_cons_succ]
        refine wpH_take (i := 4) (some 20) (v := ?x15v) rfl (by kernel_rfl) (by kernel_rfl) (by kernel_rfl) rfl (fun _ _ _ h => h) (Or.inl ⟨by rfl, ?x15y⟩) hHeld ?x15r
        case x15y => (intro w hSw; (try dsimp only at hSw); go_simp; try with_reducible rfl)
        try simp only [Act.put, List.setIfInBounds_toArray, List.set_cons_zero, List.set_cons_succ]
        refine wpH_take (i := 5) (some 21) (v := ?x16v) rfl (by kernel_rfl) (by kernel_rfl) (by kernel_rfl) rfl (fun _ _ _ h => h) (Or.inl ⟨by rfl, ?x16y⟩) hHeld ?x16r
        case x16y => (intro w hSw; (try dsimp only at hSw); go_simp; try with_reducible rfl)
        try simp only [Act.put, List.setIfInBounds_toArray, List.set_cons_zero, List.set_cons_succ]
        refine wpH_take (i := 6) (some 22) (v := ?x17v) rfl (by kernel_rfl) (by kernel_rfl) (by kernel_rfl) rfl (fun _ _ _ h => h) (Or.inl ⟨by rfl, ?x17y⟩) hHeld ?x17r
        case x17y => (intro w hSw; (try dsimp only at hSw); go_simp; try with_reducible rfl)
        try simp only [Act.put, List.setIfInBounds_toArray, List.set_cons_zero, List.set_cons_succ]
        refine wpH_take (i := 7) (some 23) (v := ?x18v) rfl (by kernel_rfl) (by kernel_rfl) (by kernel_rfl) rfl (fun _ _ _ h => h) (Or.inl ⟨by rfl, ?x18y⟩) hHeld ?x18r
        case x18y => (intro w hSw; (try dsimp only at hSw); go_simp; try with_reducible rfl)
        try simp only [Act.put, List.setIfInBounds_toArray, List.set_cons_zero, List.set_cons_succ]
        refine wpAnyH_done (by kernel_rfl) ?_ _
        have OTd := Lib.hid OTr.out.drew
        have OOd := Lib.hid OOr.out.drew
        have HOWd := Lib.hid HOWN.out.drew
        have BEd := Lib.hid BE.out.drew
        have BWd := Lib.hid (show Below w.heap.size wr wr.drew from (Below.refl _ _).drew)
        have hWd : wa.heap.size ≤ wr.drew.heap.size := hWr
        have hwd : w.heap.size ≤ wr.drew.heap.size := hwr
        clear t0 t1 t2 fT zT y0 y1 fC zC
        obtain ⟨t0, t1, t2, fT, zT⟩ := own3 OTd.out
        go_wp2_with fail
        generalize wr.drew = wd at OTd OOd HOWd BEd BWd hWd hwd t0 t1 t2 fT zT ⊢
        obtain ⟨o0, o1, o2, fO, zO⟩ := own3 OOd.out.drew
        refine region_H 11 #[false, false, false, false, false, false, false, false, false, false, false] (by kernel_rfl) (by kernel_rfl) (fun w' => w'.cell? ⟨w.heap.size, 0, none⟩ = some (.slice (some ⟨b, off, none⟩) us.length cu) ∧ w'.cell? ⟨b, off + i * 4, none⟩ = some (.int .i64 d.s) ∧ w'.cell? ⟨b, off + i * 4 + 1, none⟩ = some (.int .i64 d.o) ∧ w'.cell? ⟨b, off + i * 4 + 2, none⟩ = some (.int .i64 d.p) ∧ w'.cell? ⟨b, off + i * 4 + 3, none⟩ = some (.int .i64 d.m)) (by kernel_rfl) ?x19s (fun hHeld => ?x19r)
        case x19s => exact ⟨OTd.out.drew.cell (i := 0) rfl, (BWd.out.drew.cell (p := ⟨b, off + i * 4, none⟩) hbl).trans d0, (BWd.out.drew.cell (p := ⟨b, off + i * 4 + 1, none⟩) hbl).trans d1, (BWd.out.drew.cell (p := ⟨b, off + i * 4 + 2, none⟩) hbl).trans d2, (BWd.out.drew.cell (p := ⟨b, off + i * 4 + 3, none⟩) hbl).trans d3⟩
        refine wpH_take (i := 0) (some 24) (v := ?x20v) rfl (by kernel_rfl) (by kernel_rfl) (by kernel_rfl) rfl (fun _ _ _ h => h) (Or.inl ⟨by rfl, ?x20y⟩) hHeld ?x20r
        case x20y => (intro w hSw; (try dsimp only at hSw); go_simp; try with_reducible rfl)
        try simp only [Act.put, List.setIfInBounds_toArray, List.set_cons_zero, List.set_cons_succ]
        refine wpH_take (i := 2) (some 26) (v := ?x21v) rfl (by kernel_rfl) (by kernel_rfl) (by kernel_rfl) rfl (fun _ _ _ h => h) (Or.inl ⟨by rfl, ?x21y⟩) hHeld ?x21r
        case x21y => (intro w hSw; (try dsimp only at hSw); go_simp; try with_reducible rfl)
        try simp only [Act.put, List.setIfInBounds_toArray, List.set_cons_zero, List.set_cons_succ]
        refine wpH_take (i := 3) (some 27) (v := ?x22v) rfl (by kernel_rfl) (by kernel_rfl) (by kernel_rfl) rfl (fun _ _ _ h => h) (Or.inl ⟨by rfl, ?x22y⟩) hHeld ?x22r
        case x22y => (intro w hSw; (try dsimp only at hSw); go_simp; try with_reducible rfl)
        try simp only [Act.put, List.setIfInBounds_toArray, List.set_cons_zero, List.set_cons_succ]
        refine wpH_take (i := 4) (some 28) (v := ?x23v) rfl (by kernel_rfl) (by kernel_rfl) (by kernel_rfl) rfl (fun _ _ _ h => h) (Or.inl ⟨by rfl, ?x23y⟩) hHeld ?x23r
        case x23y => (intro w hSw; (try dsimp only at hSw); go_simp; try with_reducible rfl)
        try simp only [Act.put, List.setIfInBounds_toArray, List.set_cons_zero, List.set_cons_succ]
        refine wpH_take (i := 5) (some 29) (v := ?x24v) rfl (by kernel_rfl) (by kernel_rfl) (by kernel_rfl) rfl (fun _ _ _ h => h) (Or.inl ⟨by rfl, ?x24y⟩) hHeld ?x24r
        case x24y => (intro w hSw; (try dsimp only at hSw); go_simp; try with_reducible rfl)
        try simp only [Act.put, List.setIfInBounds_toArray, List.set_cons_zero, List.set_cons_succ]
        refine wpH_take (i := 6) (some 30) (v := ?x25v) rfl (by kernel_rfl) (by kernel_rfl) (by kernel_rfl) rfl (fun _ _ _ h => h) (Or.inl ⟨by rfl, ?x25y⟩) hHeld ?x25r
        case x25y => (intro w hSw; (try dsimp only at hSw); go_simp; try with_reducible rfl)
        try simp only [Act.put, List.setIfInBounds_toArray, List.set_cons_zero, List.set_cons_succ]
        refine wpAnyH_ready (rs := [1, 7]) (by kernel_rfl) (by simp) (AllReadyH.cons rfl (fun K hK => ?x26a) (AllReadyH.cons rfl (fun K hK => ?x26b) AllReadyH.nil))
        case x26a =>
          rw [if_pos (by rfl)]
          go_simp
          refine hK.out _ _ (⟨OTd.out.drew.cell (i := 0) rfl, (BWd.out.drew.cell (p := ⟨b, off + i * 4, none⟩) hbl).trans d0, (BWd.out.drew.cell (p := ⟨b, off + i * 4 + 1, none⟩) hbl).trans d1, (BWd.out.drew.cell (p := ⟨b, off + i * 4 + 2, none⟩) hbl).trans d2, (BWd.out.drew.cell (p := ⟨b, off + i * 4 + 3, none⟩) hbl).trans d3⟩) ?_
          clear hK K hHeld
          intro hHeld
          try simp only [Act.put, List.setIfInBounds_toArray, List.set_cons_zero, List.set_cons_succ]
          refine wpH_one (i := 7) (by kernel_rfl) rfl (fun K hK => ?_)
          rw [if_pos (by rfl)]
          go_simp
          have OTe := Lib.hid (show Own (wd.alloc (.cells #[.int .i64 d.s, .int .i64 d.o, .int .i64 d.p, .int .i64 d.m] 32)).drew w.heap.size [.slice (some ⟨b, off, none⟩) us.length cu, .slice pg gs.length cg, .slice pa ks.length ca] 26 from (OTd.out.alloc _).drew)
          have OOe := Lib.hid (show Own (wd.alloc (.cells #[.int .i64 d.s, .int .i64 d.o, .int .i64 d.p, .int .i64 d.m] 32)).drew bO [row, .slice none 0 0, .slice none 0 0] 26 from (OOd.out.alloc _).drew)
          have HOWe := Lib.hid (show World.ownsRow (wd.alloc (.cells #[.int .i64 d.s, .int .i64 d.o, .int .i64 d.p, .int .i64 d.m] 32)).drew _ _ _ _ _ _ from (HOWd.out.alloc (.cells #[.int .i64 d.s, .int .i64 d.o, .int .i64 d.p, .int .i64 d.m] 32)).drew)
          have BEe := Lib.hid (show Belo _ _ _ (wd.alloc (.cells #[.int .i64 d.s, .int .i64 d.o, .int .i64 d.p, .int .i64 d.m] 32)).drew from (BEd.out.alloc hWd (.cells #[.int .i64 d.s, .int .i64 d.o, .int .i64 d.p, .int .i64 d.m] 32)).drew)
          have BWe := Lib.hid (show Below w.heap.size wr (wd.alloc (.cells #[.int .i64 d.s, .int .i64 d.o, .int .i64 d.p, .int .i64 d.m] 32)).drew from (BWd.out.alloc hwd (.cells #[.int .i64 d.s, .int .i64 d.o, .int .i64 d.p, .int .i64 d.m] 32)).drew)
          have NEWS := Lib.hid (show ∀ j u, (usL.f d)[j]? = some u → ((wd.alloc (.cells #[.int .i64 d.s, .int .i64 d.o, .int .i64 d.p, .int .i64 d.m] 32)).drew).cell? ((⟨wd.heap.size, 0, none⟩ : Addr).add j) = some u from newsT (L := usL) wd d 32)
          have hWe : wa.heap.size ≤ ((wd.alloc (.cells #[.int .i64 d.s, .int .i64 d.o, .int .i64 d.p, .int .i64 d.m] 32)).drew).heap.size := by simp; omega
          generalize (wd.alloc (.cells #[.int .i64 d.s, .int .i64 d.o, .int .i64 d.p, .int .i64 d.m] 32)).drew = we at OTe OOe HOWe BEe BWe NEWS hWe ⊢
          clear o0 o1 o2 fO zO
          obtain ⟨o0, o1, o2, fO, zO⟩ := own3 OOe.out
          refine hK.out _ _ (⟨OTe.out.cell (i := 0) rfl, (BWe.out.cell (p := ⟨b, off + i * 4, none⟩) hbl).trans d0, (BWe.out.cell (p := ⟨b, off + i * 4 + 1, none⟩) hbl).trans d1, (BWe.out.cell (p := ⟨b, off + i * 4 + 2, none⟩) hbl).trans d2, (BWe.out.cell (p := ⟨b, off + i * 4 + 3, none⟩) hbl).trans d3⟩) ?_
          clear hK K hHeld
          intro hHeld
          try simp only [Act.put, List.setIfInBounds_toArray, List.set_cons_zero, List.set_cons_succ]
          refine wpH_one (i := 8) (by kernel_rfl) rfl (fun K hK => ?_)
          rw [if_pos (by rfl)]
          refine wp_append_own _ _ _ 22 rfl wa.heap.size 32 iU _ 4 32 (by kernel_rfl) IFU.out.1 IFU.out.2.1 IFU.out.2.2.1 IFU.out.2.2.2 rfl (by decide) row qs.length (flatT usL qs) rfl HOWe.out _ 1 1 (usL.f d) rfl rfl NEWS.out (usL.one _) ?qc4 ?qc5 hWe ?qc7
          case qc4 => unfold maxLen; omega
          case qc5 => omega
          case qc7 =>
            intro v2 w2 hown hgrow hnil
            have hrl := HOWe.out.lt
            have BE2 := Lib.hid (BEe.out.grown hgrow hWe (fun k hk => (hrl k hk).1))
            have OO2 := Lib.hid (own_grown OOe.out hgrow (fun k hk => by have := (hrl k hk).1; omega))
            have OT2 := Lib.hid (own_grown OTe.out hgrow (fun k hk => by have := (hrl k hk).1; omega))
            have BW2 := Lib.hid (BWe.out.grown hgrow (by have := BWe.out.size; omega) (fun k hk => by have := (hrl k hk).1; omega))
            obtain ⟨p2, n2, c2, f0⟩ := own_slc hown
            subst f0
            have H2 := Lib.hid hown
            clear hown hgrow hnil o0 o1 o2 fO zO hrl
            obtain ⟨o0, o1, o2, fO, zO⟩ := own3 OO2.out
            refine hK.out _ _ (⟨OT2.out.cell (i := 0) rfl, (BW2.out.cell (p := ⟨b, off + i * 4, none⟩) hbl).trans d0, (BW2.out.cell (p := ⟨b, off + i * 4 + 1, none⟩) hbl).trans d1, (BW2.out.cell (p := ⟨b, off + i * 4 + 2, none⟩) hbl).trans d2, (BW2.out.cell (p := ⟨b, off + i * 4 + 3, none⟩) hbl).trans d3⟩) ?_
            clear hK K hHeld
            intro hHeld
            try simp only [Act.put, List.setIfInBounds_toArray, List.set_cons_zero, List.set_cons_succ]
            refine wpH_take (i := 9) (some 33) (v := ?x27v) rfl (by kernel_rfl) (by kernel_rfl) (by kernel_rfl) rfl (fun _ _ _ h => h) (Or.inl ⟨by rfl, ?x27y⟩) hHeld ?x27r
            case x27y => (intro w hSw; (try dsimp only at hSw); go_simp; try with_reducible rfl)
            try simp only [Act.put, List.setIfInBounds_toArray, List.set_cons_zero, List.set_cons_succ]
            refine wpH_one (i := 10) (by kernel_rfl) rfl (fun K hK => ?_)
            rw [if_pos (by rfl)]
            go_simp
            have OO3 := Lib.hid (OO2.out.set 0 (.slice p2 n2 c2))
            have BE3 := Lib.hid (BE2.out.set 0 (.slice p2 n2 c2))
            have H3 := Lib.hid (row_set H2.out (b := bO) (by omega) 0 (.slice p2 n2 c2))
            have OT3 := Lib.hid (OT2.out.other (a := ⟨bO, 0, none⟩) (by first | (simp; done) | (simp; omega)) (.slice p2 n2 c2))
            have BW3 := Lib.hid (BW2.out.setCell (p := ⟨bO, 0, none⟩) (by first | (simp; done) | (simp; omega)) (.slice p2 n2 c2))
            refine hK.out _ _ (⟨OT3.out.cell (i := 0) rfl, (BW3.out.cell (p := ⟨b, off + i * 4, none⟩) hbl).trans d0, (BW3.out.cell (p := ⟨b, off + i * 4 + 1, none⟩) hbl).trans d1, (BW3.out.cell (p := ⟨b, off + i * 4 + 2, none⟩) hbl).trans d2, (BW3.out.cell (p := ⟨b, off + i * 4 + 3, none⟩) hbl).trans d3⟩) ?_
            clear hK K hHeld
            intro hHeld
            try simp only [Act.put, List.setIfInBounds_toArray, List.set_cons_zero, List.set_cons_succ]
            refine wpAnyH_done (by kernel_rfl) ?_ _
            go_wp2_with fail
            go_roundw
            case rel => exact ⟨i + 1, .slice p2 n2 c2, qs ++ [d], by omega, by go_num, by rw [HD.out, HQ.out, HN.out]; simp, OO3.out, by have := H3.out; rw [flatT_append, flatT_one]; simpa using this, BE3.out⟩
            case measure => simp [intOf]; omega
        case x26b =>
          rw [if_pos (by rfl)]
          go_simp
          have OTe := Lib.hid (show Own (wd.alloc (.cells #[.int .i64 d.s, .int .i64 d.o, .int .i64 d.p, .int .i64 d.m] 32)).drew w.heap.size [.slice (some ⟨b, off, none⟩) us.length cu, .slice pg gs.length cg, .slice pa ks.length ca] 26 from (OTd.out.alloc _).drew)
          have OOe := Lib.hid (show Own (wd.alloc (.cells #[.int .i64 d.s, .int .i64 d.o, .int .i64 d.p, .int .i64 d.m] 32)).drew bO [row, .slice none 0 0, .slice none 0 0] 26 from (OOd.out.alloc _).drew)
          have HOWe := Lib.hid (show World.ownsRow (wd.alloc (.cells #[.int .i64 d.s, .int .i64 d.o, .int .i64 d.p, .int .i64 d.m] 32)).drew _ _ _ _ _ _ from (HOWd.out.alloc (.cells #[.int .i64 d.s, .int .i64 d.o, .int .i64 d.p, .int .i64 d.m] 32)).drew)
          have BEe := Lib.hid (show Belo _ _ _ (wd.alloc (.cells #[.int .i64 d.s, .int .i64 d.o, .int .i64 d.p, .int .i64 d.m] 32)).drew from (BEd.out.alloc hWd (.cells #[.int .i64 d.s, .int .i64 d.o, .int .i64 d.p, .int .i64 d.m] 32)).drew)
          have BWe := Lib.hid (show Below w.heap.size wr (wd.alloc (.cells #[.int .i64 d.s, .int .i64 d.o, .int .i64 d.p, .int .i64 d.m] 32)).drew from (BWd.out.alloc hwd (.cells #[.int .i64 d.s, .int .i64 d.o, .int .i64 d.p, .int .i64 d.m] 32)).drew)
          have NEWS := Lib.hid (show ∀ j u, (usL.f d)[j]? = some u → ((wd.alloc (.cells #[.int .i64 d.s, .int .i64 d.o, .int .i64 d.p, .int .i64 d.m] 32)).drew).cell? ((⟨wd.heap.size, 0, none⟩ : Addr).add j) = some u from newsT (L := usL) wd d 32)
          have hWe : wa.heap.size ≤ ((wd.alloc (.cells #[.int .i64 d.s, .int .i64 d.o, .int .i64 d.p, .int .i64 d.m] 32)).drew).heap.size := by simp; omega
          generalize (wd.alloc (.cells #[.int .i64 d.s, .int .i64 d.o, .int .i64 d.p, .int .i64 d.m] 32)).drew = we at OTe OOe HOWe BEe BWe NEWS hWe ⊢
          clear o0 o1 o2 fO zO
          obtain ⟨o0, o1, o2, fO, zO⟩ := own3 OOe.out
          refine hK.out _ _ (⟨OTe.out.cell (i := 0) rfl, (BWe.out.cell (p := ⟨b, off + i * 4, none⟩) hbl).trans d0, (BWe.out.cell (p := ⟨b, off + i * 4 + 1, none⟩) hbl).trans d1, (BWe.out.cell (p := ⟨b, off + i * 4 + 2, none⟩) hbl).trans d2, (BWe.out.cell (p := ⟨b, off + i * 4 + 3, none⟩) hbl).trans d3⟩) ?_
          clear hK K hHeld
          intro hHeld
          try simp only [Act.put, List.setIfInBounds_toArray, List.set_cons_zero, List.set_cons_succ]
          refine wpH_one (i := 1) (by kernel_rfl) rfl (fun K hK => ?_)
          rw [if_pos (by rfl)]
          go_simp
          refine hK.out _ _ (⟨OTe.out.cell (i := 0) rfl, (BWe.out.cell (p := ⟨b, off + i * 4, none⟩) hbl).trans d0, (BWe.out.cell (p := ⟨b, off + i * 4 + 1, none⟩) hbl).trans d1, (BWe.out.cell (p := ⟨b, off + i * 4 + 2, none⟩) hbl).trans d2, (BWe.out.cell (p := ⟨b, off + i * 4 + 3, none⟩) hbl).trans d3⟩) ?_
          clear hK K hHeld
          intro hHeld
          try simp only [Act.put, List.setIfInBounds_toArray, List.set_cons_zero, List.set_cons_succ]
          refine wpH_one (i := 8) (by kernel_rfl) rfl (fun K hK => ?_)
          rw [if_pos (by rfl)]
          refine wp_append_own _ _ _ 22 rfl wa.heap.size 32 iU _ 4 32 (by kernel_rfl) IFU.out.1 IFU.out.2.1 IFU.out.2.2.1 IFU.out.2.2.2 rfl (by decide) row qs.length (flatT usL qs) rfl HOWe.out _ 1 1 (usL.f d) rfl rfl NEWS.out (usL.one _) ?qc4 ?qc5 hWe ?qc7
          case qc4 => unfold maxLen; omega
          case qc5 => omega
          case qc7 =>
            intro v2 w2 hown hgrow hnil
            have hrl := HOWe.out.lt
            have BE2 := Lib.hid (BEe.out.grown hgrow hWe (fun k hk => (hrl k hk).1))
            have OO2 := Lib.hid (own_grown OOe.out hgrow (fun k hk => by have := (hrl k hk).1; omega))
            have OT2 := Lib.hid (own_grown OTe.out hgrow (fun k hk => by have := (hrl k hk).1; omega))
            have BW2 := Lib.hid (BWe.out.grown hgrow (by have := BWe.out.size; omega) (fun k hk => by have := (hrl k hk).1; omega))
            obtain ⟨p2, n2, c2, f0⟩ := own_slc hown
            subst f0
            have H2 := Lib.hid hown
            clear hown hgrow hnil o0 o1 o2 fO zO hrl
            obtain ⟨o0, o1, o2, fO, zO⟩ := own3 OO2.out
            refine hK.out _ _ (⟨OT2.out.cell (i := 0) rfl, (BW2.out.cell (p := ⟨b, off + i * 4, none⟩) hbl).trans d0, (BW2.out.cell (p := ⟨b, off + i * 4 + 1, none⟩) hbl).trans d1, (BW2.out.cell (p := ⟨b, off + i * 4 + 2, none⟩) hbl).trans d2, (BW2.out.cell (p := ⟨b, off + i * 4 + 3, none⟩) hbl).trans d3⟩) ?_
            clear hK K hHeld
            intro hHeld
            try simp only [Act.put, List.setIfInBounds_toArray, List.set_cons_zero, List.set_cons_succ]
            refine wpH_take (i := 9) (some 33) (v := ?x28v) rfl (by kernel_rfl) (by kernel_rfl) (by kernel_rfl) rfl (fun _ _ _ h => h) (Or.inl ⟨by rfl, ?x28y⟩) hHeld ?x28r
            case x28y => (intro w hSw; (try dsimp only at hSw); go_simp; try with_reducible rfl)
            try simp only [Act.put, List.setIfInBounds_toArray, List.set_cons_zero, List.set_cons_succ]
            refine wpH_one (i := 10) (by kernel_rfl) rfl (fun K hK => ?_)
            rw [if_pos (by rfl)]
            go_simp
            have OO3 := Lib.hid (OO2.out.set 0 (.slice p2 n2 c2))
            have BE3 := Lib.hid (BE2.out.set 0 (.slice p2 n2 c2))
            have H3 := Lib.hid (row_set H2.out (b := bO) (by omega) 0 (.slice p2 n2 c2))
            have OT3 := Lib.hid (OT2.out.other (a := ⟨bO, 0, none⟩) (by first | (simp; done) | (simp; omega)) (.slice p2 n2 c2))
            have BW3 := Lib.hid (BW2.out.setCell (p := ⟨bO, 0, none⟩) (by first | (simp; done) | (simp; omega)) (.slice p2 n2 c2))
            refine hK.out _ _ (⟨OT3.out.cell (i := 0) rfl, (BW3.out.cell (p := ⟨b, off + i * 4, none⟩) hbl).trans d0, (BW3.out.cell (p := ⟨b, off + i * 4 + 1, none⟩) hbl).trans d1, (BW3.out.cell (p := ⟨b, off + i * 4 + 2, none⟩) hbl).trans d2, (BW3.out.cell (p := ⟨b, off + i * 4 + 3, none⟩) hbl).trans d3⟩) ?_
            clear hK K hHeld
            intro hHeld
            try simp only [Act.put, List.setIfInBounds_toArray, List.set_cons_zero, List.set_cons_succ]
            refine wpAnyH_done (by kernel_rfl) ?_ _
            go_wp2_with fail
            go_roundw
            case rel => exact ⟨i + 1, .slice p2 n2 c2, qs ++ [d], by omega, by go_num, by rw [HD.out, HQ.out, HN.out]; simp, OO3.out, by have := H3.out; rw [flatT_append, flatT_one]; simpa using this, BE3.out⟩
            case measure => simp [intOf]; omega
    · have HQ2 := Lib.hid (show qs = us.filter (fun d => !(d.s == zs && d.o == zo)) by have h := HQ.out; rw [List.take_of_length_le (by omega)] at h; exact h)
      have NU := Lib.hid (show SlU wr row (us.filter (fun d => !(d.s == zs && d.o == zo))) by rw [← HQ2.out]; exact slt_of_own (L := usL) HOWN.out)
      obtain ⟨pU1, nU1, cU1, f0⟩ := NU.out.slc
      subst f0
      go_wp2_with fail
      clear t0 t1 t2 fT zT y0 y1 fC zC hlt hi j0 HQ HQ2 HOWN hql hwr
      replace OTw := OTr
      replace OCw := OCr
      replace ORw := ORr
      replace OOw := OOr
      replace BLw := BLr
      replace hsz : bO < wr.heap.size := by omega
      clear OTr OCr ORr OOr BLr BE hWr
      rename World => wb
      obtain ⟨t0, t1, t2, fT, zT⟩ := own3 OTw.out
      obtain ⟨r0, r1, r2, fR, zR⟩ := own3 ORw.out
      obtain ⟨o0, o1, o2, fO, zO⟩ := own3 OOw.out
      obtain ⟨y0, y1, fC, zC⟩ := own2 OCw.out
      go_loopw [7] (fun ii wz => ∃ (i : Nat) (row : Value) (qs : List Gr), i ≤ gs.length ∧ ii = .int .i64 i ∧ qs = (gs.take i).filter (fun d => !(d.s == zs && d.o == zo)) ∧ Own wz bO [.slice pU1 nU1 cU1, row, .slice none 0 0] 26 ∧ wz.ownsRow wb.heap.size 34 5 row qs.length (flatT grL qs) ∧ Belo wb.heap.size bO wb wz) (fun i _ => gs.length - (intOf i).toNat)
      case atStart => exact ⟨0, _, [], by omega, rfl, rfl, OOw.out, World.ownsRow_nil _ _ _ _, Belo.refl _ _ _⟩
      case round =>
        rename World => wr
        clear t0 t1 t2 fT zT r0 r1 r2 fR zR o0 o1 o2 fO zO y0 y1 fC zC
        obtain ⟨i, row, qs, hi, rfl, hq, hoo, hown, hbe⟩ := hrel
        have hql : qs.length ≤ 70 := by rw [hq]; have := filt_le (fun d => !(d.s == zs && d.o == zo)) gs i; omega
        have HQ := Lib.hid hq
        have OOr := Lib.hid hoo
        have HOWN := Lib.hid hown
        have BE := Lib.hid hbe
        clear hq hoo hown hbe
        have j0 : (0 : Int) ≤ (i : Int) := Int.natCast_nonneg _
        have hWr := BE.out.size
        have OTr := Lib.hid (BE.out.own OTw.out (by omega) (by omega))
        have OCr := Lib.hid (BE.out.own OCw.out (by omega) (by omega))
        have ORr := Lib.hid (BE.out.own ORw.out (by omega) (by omega))
        have BLr := Lib.hid (BLw.out.trans (BE.out.below (show w.heap.size ≤ bO by omega) (show w.heap.size ≤ wb.heap.size by omega)))
        have hwr := BLr.out.size
        obtain ⟨t0, t1, t2, fT, zT⟩ := own3 OTr.out
        obtain ⟨y0, y1, fC, zC⟩ := own2 OCr.out
        by_cases hlt : i < gs.length
        · obtain ⟨d, b, off, hd, rfl, _, hbl, d0, d1, d2, d3, d4⟩ := SG0.out.atG BLr.out hlt
          have j1 : (i : Int) < (gs.length : Int) := by omega
          have HD := Lib.hid (take_filt (p := (fun d => !(d.s == zs && d.o == zo))) hd)
          clear hd
          cases hn : (d.s == zs && d.o == zo) with
          | true =>
            have HN := Lib.hid hn
            have hqq := neq_cell d.s d.o zs zo true hn
            clear hn
            go_wp2_with fail
            refine region_H 8 #[false, false, false, false, false, false, false, false] (by kernel_rfl) (by kernel_rfl) (fun w' => w'.cell? ⟨w.heap.size, 1, none⟩ = some (.slice (some ⟨b, off, none⟩) gs.length cg) ∧ w'.cell? ⟨w.heap.size + 1, 0, none⟩ = some (.int .i64 zs) ∧ w'.cell? ⟨w.heap.size + 1, 1, none⟩ = some (.int .i64 zo) ∧ w'.cell? ⟨b, off + i * 5, none⟩ = some (.int .i64 d.s) ∧ w'.cell? ⟨b, off + i * 5 + 1, none⟩ = some (.int .i64 d.o)) (by kernel_rfl) ?x29s (fun hHeld => ?x29r)
            case x29s => exact ⟨t1, y0, y1, d0, d1⟩
            refine wpH_take (i := 0) (some 41) (v := ?x30v) rfl (by kernel_rfl) (by kernel_rfl) (by kernel_rfl) rfl (fun _ _ _ h => h) (Or.inl ⟨by rfl, ?x30y⟩) hHeld ?x30r
            case x30y => (intro w hSw; (try dsimp only at hSw); go_simp; try with_reducible rfl)
            try simp only [Act.put, List.setIfInBounds_toArray, List.set_cons_zero, List.set_cons_succ]
            refine wpH_take (i := 1) (some 42) (v := ?x31v) rfl (by kernel_rfl) (by kernel_rfl) (by kernel_rfl) rfl (fun _ _ _ h => h) (Or.inl ⟨by rfl, ?x31y⟩) hHeld ?x31r
            case x31y => (intro w hSw; (try dsimp only at hSw); go_simp; try with_reducible rfl)
            try simp only [Act.put, List.setIfInBounds_toArray, List.set_cons_zero, List.set_cons_succ]
            refine wpH_take (i := 2) (some 43) (v := ?x32v) rfl (by kernel_rfl) (by kernel_rfl) (by kernel_rfl) rfl (fun _ _ _ h => h) (Or.inl ⟨by rfl, ?x32y⟩) hHeld ?x32r
            case x32y => (intro w hSw; (try dsimp only at hSw); go_simp; try with_reducible rfl)
            try simp only [Act.put, List.setIfInBounds_toArray, List.set_cons_zero, List.set_cons_succ]
            refine wpH_take (i := 3) (some 44) (v := ?x33v) rfl (by kernel_rfl) (by kernel_rfl) (by kernel_rfl) rfl (fun _ _ _ h => h) (Or.inl ⟨by rfl, ?x33y⟩) hHeld ?x33r
            case x33y => (intro w hSw; (try dsimp only at hSw); go_simp; try with_reducible rfl)
            try simp only [Act.put, List.setIfInBounds_toArray, List.set_cons_zero, List.set_cons_succ]
            refine wpH_take (i := 4) (some 45) (v := ?x34v) rfl (by kernel_rfl) (by kernel_rfl) (by kernel_rfl) rfl (fun _ _ _ h => h) (Or.inl ⟨by rfl, ?x34y⟩) hHeld ?x34r
            case x34y => (intro w hSw; (try dsimp only at hSw); go_simp; try with_reducible rfl)
            try simp only [Act.put, List.setIfInBounds_toArray, List.set_cons_zero, List.set_cons_succ]
            refine wpH_take (i := 5) (some 46) (v := ?x35v) rfl (by kernel_rfl) (by kernel_rfl) (by kernel_rfl) rfl (fun _ _ _ h => h) (Or.inl ⟨by rfl, ?x35y⟩) hHeld ?x35r
            case x35y => (intro w hSw; (try dsimp only at hSw); go_simp; try with_reducible rfl)
            try simp only [Act.put, List.setIfInBounds_toArray, List.set_cons_zero, List.set_cons_succ]
            refine wpH_take (i := 6) (some 47) (v := ?x36v) rfl (by kernel_rfl) (by kernel_rfl) (by kernel_rfl) rfl (fun _ _ _ h => h) (Or.inl ⟨by rfl, ?x36y⟩) hHeld ?x36r
            case x36y => (intro w hSw; (try dsimp only at hSw); go_simp; try with_reducible rfl)
            try simp only [Act.put, List.setIfInBounds_toArray, List.set_cons_zero, List.set_cons_succ]
            refine wpH_take (i := 7) (some 48) (v := ?x37v) rfl (by kernel_rfl) (by kernel_rfl) (by kernel_rfl) rfl (fun _ _ _ h => h) (Or.inl ⟨by rfl, ?x37y⟩) hHeld ?x37r
            case x37y => (intro w hSw; (try dsimp only at hSw); go_simp; try with_reducible rfl)
            try simp only [Act.put, List.setIfInBounds_toArray, List.set_cons_zero, List.set_cons_succ]
            refine wpAnyH_done (by kernel_rfl) ?_ _
            go_wp2_with fail
            go_roundw
            case rel => exact ⟨i + 1, row, qs, by omega, by go_num, by rw [HD.out, HQ.out, HN.out]; simp, OOr.out.drew, HOWN.out.drew, BE.out.drew⟩
            case measure => simp [intOf]; omega
          | false =>
            have HN := Lib.hid hn
            have hqq := neq_cell d.s d.o zs zo false hn
            clear hn
            go_wp2_with fail
            refine region_H 8 #[false, false, false, false, false, false, false, false] (by kernel_rfl) (by kernel_rfl) (fun w' => w'.cell? ⟨w.heap.size, 1, none⟩ = some (.slice (some ⟨b, off, none⟩) gs.length cg) ∧ w'.cell? ⟨w.heap.size + 1, 0, none⟩ = some (.int .i64 zs) ∧ w'.cell? ⟨w.heap.size + 1, 1, none⟩ = some (.int .i64 zo) ∧ w'.cell? ⟨b, off + i * 5, none⟩ = some (.int .i64 d.s) ∧ w'.cell? ⟨b, off + i * 5 + 1, none⟩ = some (.int .i64 d.o)) (by kernel_rfl) ?x38s (fun hHeld => ?x38r)
            case x38s => exact ⟨t1, y0, y1, d0, d1⟩
            refine wpH_take (i := 0) (some 41) (v := ?x39v) rfl (by kernel_rfl) (by kernel_rfl) (by kernel_rfl) rfl (fun _ _ _ h => h) (Or.inl ⟨by rfl, ?x39y⟩) hHeld ?x39r
            case x39y => (intro w hSw; (try dsimp only at hSw); go_simp; try with_reducible rfl)
            try simp only [Act.put, List.setIfInBounds_toArray, List.set_cons_zero, List.set_cons_succ]
            refine wpH_take (i := 1) (some 42) (v := ?x40v) rfl (by kernel_rfl) (by kernel_rfl) (by kernel_rfl) rfl (fun _ _ _ h => h) (Or.inl ⟨by rfl, ?x40y⟩) hHeld ?x40r
            case x40y => (intro w hSw; (try dsimp only at hSw); go_simp; try with_reducible rfl)
            try simp only [Act.put, List.setIfInBounds_toArray, List.set_cons_zero, List.set_cons_succ]
            refine wpH_take (i := 2) (some 43) (v := ?x41v) rfl (by kernel_rfl) (by kernel_rfl) (by kernel_rfl) rfl (fun _ _ _ h => h) (Or.inl ⟨by rfl, ?x41y⟩) hHeld ?x41r
            case x41y => (intro w hSw; (try dsimp only at hSw); go_simp; try with_reducible rfl)
            try simp only [Act.put, List.setIfInBounds_toArray, List.set_cons_zero, List.set_cons_succ]
            refine wpH_take (i := 3) (some 44) (v := ?x42v) rfl (by kernel_rfl) (by kernel_rfl) (by kernel_rfl) rfl (fun _ _ _ h => h) (Or.inl ⟨by rfl, ?x42y⟩) hHeld ?x42r
            case x42y => (intro w hSw; (try dsimp only at hSw); go_simp; try with_reducible rfl)
            try simp only [Act.put, List.setIfInBounds_toArray, List.set_cons_zero, List.set_cons_succ]
            refine wpH_take (i := 4) (some 45) (v := ?x43v) rfl (by kernel_rfl) (by kernel_rfl) (by kernel_rfl) rfl (fun _ _ _ h => h) (Or.inl ⟨by rfl, ?x43y⟩) hHeld ?x43r
            case x43y => (intro w hSw; (try dsimp only at hSw); go_simp; try with_reducible rfl)
            try simp only [Act.put, List.setIfInBounds_toArray, List.set_cons_zero, List.set_cons_succ]
            refine wpH_take (i := 5) (some 46) (v := ?x44v) rfl (by kernel_rfl) (by kernel_rfl) (by kernel_rfl) rfl (fun _ _ _ h => h) (Or.inl ⟨by rfl, ?x44y⟩) hHeld ?x44r
            case x44y => (intro w hSw; (try dsimp only at hSw); go_simp; try with_reducible rfl)
            try simp only [Act.put, List.setIfInBounds_toArray, List.set_cons_zero, List.set_cons_succ]
            refine wpH_take (i := 6) (some 47) (v := ?x45v) rfl (by kernel_rfl) (by kernel_rfl) (by kernel_rfl) rfl (fun _ _ _ h => h) (Or.inl ⟨by rfl, ?x45y⟩) hHeld ?x45r
            case x45y => (intro w hSw; (try dsimp only at hSw); go_simp; try with_reducible rfl)
            try simp only [Act.put, List.setIfInBounds_toArray, List.set_cons_zero, List.set_cons_succ]
            refine wpH_take (i := 7) (some 48) (v := ?x46v) rfl (by kernel_rfl) (by kernel_rfl) (by kernel_rfl) rfl (fun _ _ _ h => h) (Or.inl ⟨by rfl, ?x46y⟩) hHeld ?x46r
            case x46y => (intro w hSw; (try dsimp only at hSw); go_simp; try with_reducible rfl)
            try simp only [Act.put, List.setIfInBounds_toArray, List.set_cons_zero, List.set_cons_succ]
            refine wpAnyH_done (by kernel_rfl) ?_ _
            have OTd := Lib.hid OTr.out.drew
            have OOd := Lib.hid OOr.out.drew
            have HOWd := Lib.hid HOWN.out.drew
            have BEd := Lib.hid BE.out.drew
            have BWd := Lib.hid (show Below w.heap.size wr wr.drew from (Below.refl _ _).drew)
            have hWd : wb.heap.size ≤ wr.drew.heap.size := hWr
            have hwd : w.heap.size ≤ wr.drew.heap.size := hwr
            clear t0 t1 t2 fT zT y0 y1 fC zC
            obtain ⟨t0, t1, t2, fT, zT⟩ := own3 OTd.out
            go_wp2_with fail
            generalize wr.drew = wd at OTd OOd HOWd BEd BWd hWd hwd t0 t1 t2 fT zT ⊢
            obtain ⟨o0, o1, o2, fO, zO⟩ := own3 OOd.out.drew
            refine region_H 11 #[false, false, false, false, false, false, false, false, false, false, false] (by kernel_rfl) (by kernel_rfl) (fun w' => w'.cell? ⟨w.heap.size, 1, none⟩ = some (.slice (some ⟨b, off, none⟩) gs.length cg) ∧ w'.cell? ⟨b, off + i * 5, none⟩ = some (.int .i64 d.s) ∧ w'.cell? ⟨b, off + i * 5 + 1, none⟩ = some (.int .i64 d.o) ∧ w'.cell? ⟨b, off + i * 5 + 2, none⟩ = some (.int .i64 d.p) ∧ w'.cell? ⟨b, off + i * 5 + 3, none⟩ = some (.int .i64 d.m) ∧ w'.cell? ⟨b, off + i * 5 + 4, none⟩ = some (.int .i64 d.u)) (by kernel_rfl) ?x47s (fun hHeld => ?x47r)
            case x47s => exact ⟨OTd.out.drew.cell (i := 1) rfl, (BWd.out.drew.cell (p := ⟨b, off + i * 5, none⟩) hbl).trans d0, (BWd.out.drew.cell (p := ⟨b, off + i * 5 + 1, none⟩) hbl).trans d1, (BWd.out.drew.cell (p := ⟨b, off + i * 5 + 2, none⟩) hbl).trans d2, (BWd.out.drew.cell (p := ⟨b, off + i * 5 + 3, none⟩) hbl).trans d3, (BWd.out.drew.cell (p := ⟨b, off + i * 5 + 4, none⟩) hbl).trans d4⟩
            refine wpH_take (i := 0) (some 49) (v := ?x48v) rfl (by kernel_rfl) (by kernel_rfl) (by kernel_rfl) rfl (fun _ _ _ h => h) (Or.inl ⟨by rfl, ?x48y⟩) hHeld ?x48r
            case x48y => (intro w hSw; (try dsimp only at hSw); go_simp; try with_reducible rfl)
            try simp only [Act.put, List.setIfInBounds_toArray, List.set_cons_zero, List.set_cons_succ]
            refine wpH_take (i := 2) (some 51) (v := ?x49v) rfl (by kernel_rfl) (by kernel_rfl) (by kernel_rfl) rfl (fun _ _ _ h => h) (Or.inl ⟨by rfl, ?x49y⟩) hHeld ?x49r
            case x49y => (intro w hSw; (try dsimp only at hSw); go_simp; try with_reducible rfl)
            try simp only [Act.put, List.setIfInBounds_toArray, List.set_cons_zero, List.set_cons_succ]
            refine wpH_take (i := 3) (some 52) (v := ?x50v) rfl (by kernel_rfl) (by kernel_rfl) (by kernel_rfl) rfl (fun _ _ _ h => h) (Or.inl ⟨by rfl, ?x50y⟩) hHeld ?x50r
            case x50y => (intro w hSw; (try dsimp only at hSw); go_simp; try with_reducible rfl)
            try simp only [Act.put, List.setIfInBounds_toArray, List.set_cons_zero, List.set_cons_succ]
            refine wpH_take (i := 4) (some 53) (v := ?x51v) rfl (by kernel_rfl) (by kernel_rfl) (by kernel_rfl) rfl (fun _ _ _ h => h) (Or.inl ⟨by rfl, ?x51y⟩) hHeld ?x51r
            case x51y => (intro w hSw; (try dsimp only at hSw); go_simp; try with_reducible rfl)
            try simp only [Act.put, List.setIfInBounds_toArray, List.set_cons_zero, List.set_cons_succ]
            refine wpH_take (i := 5) (some 54) (v := ?x52v) rfl (by kernel_rfl) (by kernel_rfl) (by kernel_rfl) rfl (fun _ _ _ h => h) (Or.inl ⟨by rfl, ?x52y⟩) hHeld ?x52r
            case x52y => (intro w hSw; (try dsimp only at hSw); go_simp; try with_reducible rfl)
            try simp only [Act.put, List.setIfInBounds_toArray, List.set_cons_zero, List.set_cons_succ]
            refine wpH_take (i := 6) (some 55) (v := ?x53v) rfl (by kernel_rfl) (by kernel_rfl) (by kernel_rfl) rfl (fun _ _ _ h => h) (Or.inl ⟨by rfl, ?x53y⟩) hHeld ?x53r
            case x53y => (intro w hSw; (try dsimp only at hSw); go_simp; try with_reducible rfl)
            try simp only [Act.put, List.setIfInBounds_toArray, List.set_cons_zero, List.set_cons_succ]
            refine wpAnyH_ready (rs := [1, 7]) (by kernel_rfl) (by simp) (AllReadyH.cons rfl (fun K hK => ?x54a) (AllReadyH.cons rfl (fun K hK => ?x54b) AllReadyH.nil))
            case x54a =>
              rw [if_pos (by rfl)]
              go_simp
              refine hK.out _ _ (⟨OTd.out.drew.cell (i := 1) rfl, (BWd.out.drew.cell (p := ⟨b, off + i * 5, none⟩) hbl).trans d0, (BWd.out.drew.cell (p := ⟨b, off + i * 5 + 1, none⟩) hbl).trans d1, (BWd.out.drew.cell (p := ⟨b, off + i * 5 + 2, none⟩) hbl).trans d2, (BWd.out.drew.cell (p := ⟨b, off + i * 5 + 3, none⟩) hbl).trans d3, (BWd.out.drew.cell (p := ⟨b, off + i * 5 + 4, none⟩) hbl).trans d4⟩) ?_
              clear hK K hHeld
              intro hHeld
              try simp only [Act.put, List.setIfInBounds_toArray, List.set_cons_zero, List.set_cons_succ]
              refine wpH_one (i := 7) (by kernel_rfl) rfl (fun K hK => ?_)
              rw [if_pos (by rfl)]
              go_simp
              have OTe := Lib.hid (show Own (wd.alloc (.cells #[.int .i64 d.s, .int .i64 d.o, .int .i64 d.p, .int .i64 d.m, .int .i64 d.u] 34)).drew w.heap.size [.slice pu us.length cu, .slice (some ⟨b, off, none⟩) gs.length cg, .slice pa ks.length ca] 26 from (OTd.out.alloc _).drew)
              have OOe := Lib.hid (show Own (wd.alloc (.cells #[.int .i64 d.s, .int .i64 d.o, .int .i64 d.p, .int .i64 d.m, .int .i64 d.u] 34)).drew bO [.slice pU1 nU1 cU1, row, .slice none 0 0] 26 from (OOd.out.alloc _).drew)
              have HOWe := Lib.hid (show World.ownsRow (wd.alloc (.cells #[.int .i64 d.s, .int .i64 d.o, .int .i64 d.p, .int .i64 d.m, .int .i64 d.u] 34)).drew _ _ _ _ _ _ from (HOWd.out.alloc (.cells #[.int .i64 d.s, .int .i64 d.o, .int .i64 d.p, .int .i64 d.m, .int .i64 d.u] 34)).drew)
              have BEe := Lib.hid (show Belo _ _ _ (wd.alloc (.cells #[.int .i64 d.s, .int .i64 d.o, .int .i64 d.p, .int .i64 d.m, .int .i64 d.u] 34)).drew from (BEd.out.alloc hWd (.cells #[.int .i64 d.s, .int .i64 d.o, .int .i64 d.p, .int .i64 d.m, .int .i64 d.u] 34)).drew)
              have BWe := Lib.hid (show Below w.heap.size wr (wd.alloc (.cells #[.int .i64 d.s, .int .i64 d.o, .int .i64 d.p, .int .i64 d.m, .int .i64 d.u] 34)).drew from (BWd.out.alloc hwd (.cells #[.int .i64 d.s, .int .i64 d.o, .int .i64 d.p, .int .i64 d.m, .int .i64 d.u] 34)).drew)
              have NEWS := Lib.hid (show ∀ j u, (grL.f d)[j]? = some u → ((wd.alloc (.cells #[.int .i64 d.s, .int .i64 d.o, .int .i64 d.p, .int .i64 d.m, .int .i64 d.u] 34)).drew).cell? ((⟨wd.heap.size, 0, none⟩ : Addr).add j) = some u from newsT (L := grL) wd d 34)
              have hWe : wb.heap.size ≤ ((wd.alloc (.cells #[.int .i64 d.s, .int .i64 d.o, .int .i64 d.p, .int .i64 d.m, .int .i64 d.u] 34)).drew).heap.size := by simp; omega
              generalize (wd.alloc (.cells #[.int .i64 d.s, .int .i64 d.o, .int .i64 d.p, .int .i64 d.m, .int .i64 d.u] 34)).drew = we at OTe OOe HOWe BEe BWe NEWS hWe ⊢
              clear o0 o1 o2 fO zO
              obtain ⟨o0, o1, o2, fO, zO⟩ := own3 OOe.out
              refine hK.out _ _ (⟨OTe.out.cell (i := 1) rfl, (BWe.out.cell (p := ⟨b, off + i * 5, none⟩) hbl).trans d0, (BWe.out.cell (p := ⟨b, off + i * 5 + 1, none⟩) hbl).trans d1, (BWe.out.cell (p := ⟨b, off + i * 5 + 2, none⟩) hbl).trans d2, (BWe.out.cell (p := ⟨b, off + i * 5 + 3, none⟩) hbl).trans d3, (BWe.out.cell (p := ⟨b, off + i * 5 + 4, none⟩) hbl).trans d4⟩) ?_
              clear hK K hHeld
              intro hHeld
              try simp only [Act.put, List.setIfInBounds_toArray, List.set_cons_zero, List.set_cons_succ]
              refine wpH_one (i := 8) (by kernel_rfl) rfl (fun K hK => ?_)
              rw [if_pos (by rfl)]
              refine wp_append_own _ _ _ 23 rfl wb.heap.size 34 iG _ 5 40 (by kernel_rfl) IFG.out.1 IFG.out.2.1 IFG.out.2.2.1 IFG.out.2.2.2 rfl (by decide) row qs.length (flatT grL qs) rfl HOWe.out _ 1 1 (grL.f d) rfl rfl NEWS.out (grL.one _) ?qc4 ?qc5 hWe ?qc7
              case qc4 => unfold maxLen; omega
              case qc5 => omega
              case qc7 =>
                intro v2 w2 hown hgrow hnil
                have hrl := HOWe.out.lt
                have BE2 := Lib.hid (BEe.out.grown hgrow hWe (fun k hk => (hrl k hk).1))
                have OO2 := Lib.hid (own_grown OOe.out hgrow (fun k hk => by have := (hrl k hk).1; omega))
                have OT2 := Lib.hid (own_grown OTe.out hgrow (fun k hk => by have := (hrl k hk).1; omega))
                have BW2 := Lib.hid (BWe.out.grown hgrow (by have := BWe.out.size; omega) (fun k hk => by have := (hrl k hk).1; omega))
                obtain ⟨p2, n2, c2, f0⟩ := own_slc hown
                subst f0
                have H2 := Lib.hid hown
                clear hown hgrow hnil o0 o1 o2 fO zO hrl
                obtain ⟨o0, o1, o2, fO, zO⟩ := own3 OO2.out
                refine hK.out _ _ (⟨OT2.out.cell (i := 1) rfl, (BW2.out.cell (p := ⟨b, off + i * 5, none⟩) hbl).trans d0, (BW2.out.cell (p := ⟨b, off + i * 5 + 1, none⟩) hbl).trans d1, (BW2.out.cell (p := ⟨b, off + i * 5 + 2, none⟩) hbl).trans d2, (BW2.out.cell (p := ⟨b, off + i * 5 + 3, none⟩) hbl).trans d3, (BW2.out.cell (p := ⟨b, off + i * 5 + 4, none⟩) hbl).trans d4⟩) ?_
                clear hK K hHeld
                intro hHeld
                try simp only [Act.put, List.setIfInBounds_toArray, List.set_cons_zero, List.set_cons_succ]
                refine wpH_take (i := 9) (some 58) (v := ?x55v) rfl (by kernel_rfl) (by kernel_rfl) (by kernel_rfl) rfl (fun _ _ _ h => h) (Or.inl ⟨by rfl, ?x55y⟩) hHeld ?x55r
                case x55y => (intro w hSw; (try dsimp only at hSw); go_simp; try with_reducible rfl)
                try simp only [Act.put, List.setIfInBounds_toArray, List.set_cons_zero, List.set_cons_succ]
                refine wpH_one (i := 10) (by kernel_rfl) rfl (fun K hK => ?_)
                rw [if_pos (by rfl)]
                go_simp
                have OO3 := Lib.hid (OO2.out.set 1 (.slice p2 n2 c2))
                have BE3 := Lib.hid (BE2.out.set 1 (.slice p2 n2 c2))
                have H3 := Lib.hid (row_set H2.out (b := bO) (by omega) 1 (.slice p2 n2 c2))
                have OT3 := Lib.hid (OT2.out.other (a := ⟨bO, 1, none⟩) (by first | (simp; done) | (simp; omega)) (.slice p2 n2 c2))
                have BW3 := Lib.hid (BW2.out.setCell (p := ⟨bO, 1, none⟩) (by first | (simp; done) | (simp; omega)) (.slice p2 n2 c2))
                refine hK.out _ _ (⟨OT3.out.cell (i := 1) rfl, (BW3.out.cell (p := ⟨b, off + i * 5, none⟩) hbl).trans d0, (BW3.out.cell (p := ⟨b, off + i * 5 + 1, none⟩) hbl).trans d1, (BW3.out.cell (p := ⟨b, off + i * 5 + 2, none⟩) hbl).trans d2, (BW3.out.cell (p := ⟨b, off + i * 5 + 3, none⟩) hbl).trans d3, (BW3.out.cell (p := ⟨b, off + i * 5 + 4, none⟩) hbl).trans d4⟩) ?_
                clear hK K hHeld
                intro hHeld
                try simp only [Act.put, List.setIfInBounds_toArray, List.set_cons_zero, List.set_cons_succ]
                refine wpAnyH_done (by kernel_rfl) ?_ _
                go_wp2_with fail
                go_roundw
                case rel => exact ⟨i + 1, .slice p2 n2 c2, qs ++ [d], by omega, by go_num, by rw [HD.out, HQ.out, HN.out]; simp, OO3.out, by have := H3.out; rw [flatT_append, flatT_one]; simpa using this, BE3.out⟩
                case measure => simp [intOf]; omega
            case x54b =>
              rw [if_pos (by rfl)]
              go_simp
              have OTe := Lib.hid (show Own (wd.alloc (.cells #[.int .i64 d.s, .int .i64 d.o, .int .i64 d.p, .int .i64 d.m, .int .i64 d.u] 34)).drew w.heap.size [.slice pu us.length cu, .slice (some ⟨b, off, none⟩) gs.length cg, .slice pa ks.length ca] 26 from (OTd.out.alloc _).drew)
              have OOe := Lib.hid (show Own (wd.alloc (.cells #[.int .i64 d.s, .int .i64 d.o, .int .i64 d.p, .int .i64 d.m, .int .i64 d.u] 34)).drew bO [.slice pU1 nU1 cU1, row, .slice none 0 0] 26 from (OOd.out.alloc _).drew)
              have HOWe := Lib.hid (show World.ownsRow (wd.alloc (.cells #[.int .i64 d.s, .int .i64 d.o, .int .i64 d.p, .int .i64 d.m, .int .i64 d.u] 34)).drew _ _ _ _ _ _ from (HOWd.out.alloc (.cells #[.int .i64 d.s, .int .i64 d.o, .int .i64 d.p, .int .i64 d.m, .int .i64 d.u] 34)).drew)
              have BEe := Lib.hid (show Belo _ _ _ (wd.alloc (.cells #[.int .i64 d.s, .int .i64 d.o, .int .i64 d.p, .int .i64 d.m, .int .i64 d.u] 34)).drew from (BEd.out.alloc hWd (.cells #[.int .i64 d.s, .int .i64 d.o, .int .i64 d.p, .int .i64 d.m, .int .i64 d.u] 34)).drew)
              have BWe := Lib.hid (show Below w.heap.size wr (wd.alloc (.cells #[.int .i64 d.s, .int .i64 d.o, .int .i64 d.p, .int .i64 d.m, .int .i64 d.u] 34)).drew from (BWd.out.alloc hwd (.cells #[.int .i64 d.s, .int .i64 d.o, .int .i64 d.p, .int .i64 d.m, .int .i64 d.u] 34)).drew)
              have NEWS := Lib.hid (show ∀ j u, (grL.f d)[j]? = some u → ((wd.alloc (.cells #[.int .i64 d.s, .int .i64 d.o, .int .i64 d.p, .int .i64 d.m, .int .i64 d.u] 34)).drew).cell? ((⟨wd.heap.size, 0, none⟩ : Addr).add j) = some u from newsT (L := grL) wd d 34)
              have hWe : wb.heap.size ≤ ((wd.alloc (.cells #[.int .i64 d.s, .int .i64 d.o, .int .i64 d.p, .int .i64 d.m, .int .i64 d.u] 34)).drew).heap.size := by simp; omega
              generalize (wd.alloc (.cells #[.int .i64 d.s, .int .i64 d.o, .int .i64 d.p, .int .i64 d.m, .int .i64 d.u] 34)).drew = we at OTe OOe HOWe BEe BWe NEWS hWe ⊢
              clear o0 o1 o2 fO zO
              obtain ⟨o0, o1, o2, fO, zO⟩ := own3 OOe.out
              refine hK.out _ _ (⟨OTe.out.cell (i := 1) rfl, (BWe.out.cell (p := ⟨b, off + i * 5, none⟩) hbl).trans d0, (BWe.out.cell (p := ⟨b, off + i * 5 + 1, none⟩) hbl).trans d1, (BWe.out.cell (p := ⟨b, off + i * 5 + 2, none⟩) hbl).trans d2, (BWe.out.cell (p := ⟨b, off + i * 5 + 3, none⟩) hbl).trans d3, (BWe.out.cell (p := ⟨b, off + i * 5 + 4, none⟩) hbl).trans d4⟩) ?_
              clear hK K hHeld
              intro hHeld
              try simp only [Act.put, List.setIfInBounds_toArray, List.set_cons_zero, List.set_cons_succ]
              refine wpH_one (i := 1) (by kernel_rfl) rfl (fun K hK => ?_)
              rw [if_pos (by rfl)]
              go_simp
              refine hK.out _ _ (⟨OTe.out.cell (i := 1) rfl, (BWe.out.cell (p := ⟨b, off + i * 5, none⟩) hbl).trans d0, (BWe.out.cell (p := ⟨b, off + i * 5 + 1, none⟩) hbl).trans d1, (BWe.out.cell (p := ⟨b, off + i * 5 + 2, none⟩) hbl).trans d2, (BWe.out.cell (p := ⟨b, off + i * 5 + 3, none⟩) hbl).trans d3, (BWe.out.cell (p := ⟨b, off + i * 5 + 4, none⟩) hbl).trans d4⟩) ?_
              clear hK K hHeld
              intro hHeld
              try simp only [Act.put, List.setIfInBounds_toArray, List.set_cons_zero, List.set_cons_succ]
              refine wpH_one (i := 8) (by kernel_rfl) rfl (fun K hK => ?_)
              rw [if_pos (by rfl)]
              refine wp_append_own _ _ _ 23 rfl wb.heap.size 34 iG _ 5 40 (by kernel_rfl) IFG.out.1 IFG.out.2.1 IFG.out.2.2.1 IFG.out.2.2.2 rfl (by decide) row qs.length (flatT grL qs) rfl HOWe.out _ 1 1 (grL.f d) rfl rfl NEWS.out (grL.one _) ?qc4 ?qc5 hWe ?qc7
              case qc4 => unfold maxLen; omega
              case qc5 => omega
              case qc7 =>
                intro v2 w2 hown hgrow hnil
                have hrl := HOWe.out.lt
                have BE2 := Lib.hid (BEe.out.grown hgrow hWe (fun k hk => (hrl k hk).1))
                have OO2 := Lib.hid (own_grown OOe.out hgrow (fun k hk => by have := (hrl k hk).1; omega))
                have OT2 := Lib.hid (own_grown OTe.out hgrow (fun k hk => by have := (hrl k hk).1; omega))
                have BW2 := Lib.hid (BWe.out.grown hgrow (by have := BWe.out.size; omega) (fun k hk => by have := (hrl k hk).1; omega))
                obtain ⟨p2, n2, c2, f0⟩ := own_slc hown
                subst f0
                have H2 := Lib.hid hown
                clear hown hgrow hnil o0 o1 o2 fO zO hrl
                obtain ⟨o0, o1, o2, fO, zO⟩ := own3 OO2.out
                refine hK.out _ _ (⟨OT2.out.cell (i := 1) rfl, (BW2.out.cell (p := ⟨b, off + i * 5, none⟩) hbl).trans d0, (BW2.out.cell (p := ⟨b, off + i * 5 + 1, none⟩) hbl).trans d1, (BW2.out.cell (p := ⟨b, off + i * 5 + 2, none⟩) hbl).trans d2, (BW2.out.cell (p := ⟨b, off + i * 5 + 3, none⟩) hbl).trans d3, (BW2.out.cell (p := ⟨b, off + i * 5 + 4, none⟩) hbl).trans d4⟩) ?_
                clear hK K hHeld
                intro hHeld
                try simp only [Act.put, List.setIfInBounds_toArray, List.set_cons_zero, List.set_cons_succ]
                refine wpH_take (i := 9) (some 58) (v := ?x56v) rfl (by kernel_rfl) (by kernel_rfl) (by kernel_rfl) rfl (fun _ _ _ h => h) (Or.inl ⟨by rfl, ?x56y⟩) hHeld ?x56r
                case x56y => (intro w hSw; (try dsimp only at hSw); go_simp; try with_reducible rfl)
                try simp only [Act.put, List.setIfInBounds_toArray, List.set_cons_zero, List.set_cons_succ]
                refine wpH_one (i := 10) (by kernel_rfl) rfl (fun K hK => ?_)
                rw [if_pos (by rfl)]
                go_simp
                have OO3 := Lib.hid (OO2.out.set 1 (.slice p2 n2 c2))
                have BE3 := Lib.hid (BE2.out.set 1 (.slice p2 n2 c2))
                have H3 := Lib.hid (row_set H2.out (b := bO) (by omega) 1 (.slice p2 n2 c2))
                have OT3 := Lib.hid (OT2.out.other (a := ⟨bO, 1, none⟩) (by first | (simp; done) | (simp; omega)) (.slice p2 n2 c2))
                have BW3 := Lib.hid (BW2.out.setCell (p := ⟨bO, 1, none⟩) (by first | (simp; done) | (simp; omega)) (.slice p2 n2 c2))
                refine hK.out _ _ (⟨OT3.out.cell (i := 1) rfl, (BW3.out.cell (p := ⟨b, off + i * 5, none⟩) hbl).trans d0, (BW3.out.cell (p := ⟨b, off + i * 5 + 1, none⟩) hbl).trans d1, (BW3.out.cell (p := ⟨b, off + i * 5 + 2, none⟩) hbl).trans d2, (BW3.out.cell (p := ⟨b, off + i * 5 + 3, none⟩) hbl).trans d3, (BW3.out.cell (p := ⟨b, off + i * 5 + 4, none⟩) hbl).trans d4⟩) ?_
                clear hK K hHeld
                intro hHeld
                try simp only [Act.put, List.setIfInBounds_toArray, List.set_cons_zero, List.set_cons_succ]
                refine wpAnyH_done (by kernel_rfl) ?_ _
                go_wp2_with fail
                go_roundw
                case rel => exact ⟨i + 1, .slice p2 n2 c2, qs ++ [d], by omega, by go_num, by rw [HD.out, HQ.out, HN.out]; simp, OO3.out, by have := H3.out; rw [flatT_append, flatT_one]; simpa using this, BE3.out⟩
                case measure => simp [intOf]; omega
        · have HQ2 := Lib.hid (show qs = gs.filter (fun d => !(d.s == zs && d.o == zo)) by have h := HQ.out; rw [List.take_of_length_le (by omega)] at h; exact h)
          have NG := Lib.hid (show SlG wr row (gs.filter (fun d => !(d.s == zs && d.o == zo))) by rw [← HQ2.out]; exact slt_of_own (L := grL) HOWN.out)
          obtain ⟨pG1, nG1, cG1, f0⟩ := NG.out.slc
          subst f0
          replace NU := Lib.hid (BE.out.slt NU.out numU OOw.out)
          go_wp2_with fail
          clear t0 t1 t2 fT zT y0 y1 fC zC hlt hi j0 HQ HQ2 HOWN hql hwr
          replace OTw := OTr
          replace OCw := OCr
          replace ORw := ORr
          replace OOw := OOr
          replace BLw := BLr
          replace hsz : bO < wr.heap.size := by omega
          clear OTr OCr ORr OOr BLr BE hWr
          rename World => wc
          obtain ⟨t0, t1, t2, fT, zT⟩ := own3 OTw.out
          obtain ⟨r0, r1, r2, fR, zR⟩ := own3 ORw.out
          obtain ⟨o0, o1, o2, fO, zO⟩ := own3 OOw.out
          obtain ⟨y0, y1, fC, zC⟩ := own2 OCw.out
          go_loopw [8] (fun ii wz => ∃ (i : Nat) (row : Value) (qs : List Ak), i ≤ ks.length ∧ ii = .int .i64 i ∧ qs = (ks.take i).filter (fun d => !(d.s == zs && d.o == zo)) ∧ Own wz bO [.slice pU1 nU1 cU1, .slice pG1 nG1 cG1, row] 26 ∧ wz.ownsRow wc.heap.size 51 3 row qs.length (flatT akL qs) ∧ Belo wc.heap.size bO wc wz) (fun i _ => ks.length - (intOf i).toNat)
          case atStart => exact ⟨0, _, [], by omega, rfl, rfl, OOw.out, World.ownsRow_nil _ _ _ _, Belo.refl _ _ _⟩
          case round =>
            rename World => wr
            clear t0 t1 t2 fT zT r0 r1 r2 fR zR o0 o1 o2 fO zO y0 y1 fC zC
            obtain ⟨i, row, qs, hi, rfl, hq, hoo, hown, hbe⟩ := hrel
            have hql : qs.length ≤ 70 := by rw [hq]; have := filt_le (fun d => !(d.s == zs && d.o == zo)) ks i; omega
            have HQ := Lib.hid hq
            have OOr := Lib.hid hoo
            have HOWN := Lib.hid hown
            have BE := Lib.hid hbe
            clear hq hoo hown hbe
            have j0 : (0 : Int) ≤ (i : Int) := Int.natCast_nonneg _
            have hWr := BE.out.size
            have OTr := Lib.hid (BE.out.own OTw.out (by omega) (by omega))
            have OCr := Lib.hid (BE.out.own OCw.out (by omega) (by omega))
            have ORr := Lib.hid (BE.out.own ORw.out (by omega) (by omega))
            have BLr := Lib.hid (BLw.out.trans (BE.out.below (show w.heap.size ≤ bO by omega) (show w.heap.size ≤ wc.heap.size by omega)))
            have hwr := BLr.out.size
            obtain ⟨t0, t1, t2, fT, zT⟩ := own3 OTr.out
            obtain ⟨y0, y1, fC, zC⟩ := own2 OCr.out
            by_cases hlt : i < ks.length
            · obtain ⟨d, b, off, hd, rfl, _, hbl, d0, d1, d2⟩ := SA0.out.atA BLr.out hlt
              have j1 : (i : Int) < (ks.length : Int) := by omega
              have HD := Lib.hid (take_filt (p := (fun d => !(d.s == zs && d.o == zo))) hd)
              clear hd
              cases hn : (d.s == zs && d.o == zo) with
              | true =>
                have HN := Lib.hid hn
                have hqq := neq_cell d.s d.o zs zo true hn
                clear hn
                go_wp2_with fail
                refine region_H 8 #[false, false, false, false, false, false, false, false] (by kernel_rfl) (by kernel_rfl) (fun w' => w'.cell? ⟨w.heap.size, 2, none⟩ = some (.slice (some ⟨b, off, none⟩) ks.length ca) ∧ w'.cell? ⟨w.heap.size + 1, 0, none⟩ = some (.int .i64 zs) ∧ w'.cell? ⟨w.heap.size + 1, 1, none⟩ = some (.int .i64 zo) ∧ w'.cell? ⟨b, off + i * 3, none⟩ = some (.int .i64 d.s) ∧ w'.cell? ⟨b, off + i * 3 + 1, none⟩ = some (.int .i64 d.o)) (by kernel_rfl) ?x57s (fun hHeld => ?x57r)
                case x57s => exact ⟨t2, y0, y1, d0, d1⟩
                refine wpH_take (i := 0) (some 66) (v := ?x58v) rfl (by kernel_rfl) (by kernel_rfl) (by kernel_rfl) rfl (fun _ _ _ h => h) (Or.inl ⟨by rfl, ?x58y⟩) hHeld ?x58r
                case x58y => (intro w hSw; (try dsimp only at hSw); go_simp; try with_reducible rfl)
                try simp only [Act.put, List.setIfInBounds_toArray, List.set_cons_zero, List.set_cons_succ]
                refine wpH_take (i := 1) (some 67) (v := ?x59v) rfl (by kernel_rfl) (by kernel_rfl) (by kernel_rfl) rfl (fun _ _ _ h => h) (Or.inl ⟨by rfl, ?x59y⟩) hHeld ?x59r
                case x59y => (intro w hSw; (try dsimp only at hSw); go_simp; try with_reducible rfl)
                try simp only [Act.put, List.setIfInBounds_toArray, List.set_cons_zero, List.set_cons_succ]
                refine wpH_take (i := 2) (some 68) (v := ?x60v) rfl (by kernel_rfl) (by kernel_rfl) (by kernel_rfl) rfl (fun _ _ _ h => h) (Or.inl ⟨by rfl, ?x60y⟩) hHeld ?x60r
                case x60y => (intro w hSw; (try dsimp only at hSw); go_simp; try with_reducible rfl)
                try simp only [Act.put, List.setIfInBounds_toArray, List.set_cons_zero, List.set_cons_succ]
                refine wpH_take (i := 3) (some 69) (v := ?x61v) rfl (by kernel_rfl) (by kernel_rfl) (by kernel_rfl) rfl (fun _ _ _ h => h) (Or.inl ⟨by rfl, ?x61y⟩) hHeld ?x61r
                case x61y => (intro w hSw; (try dsimp only at hSw); go_simp; try with_reducible rfl)
                try simp only [Act.put, List.setIfInBounds_toArray, List.set_cons_zero, List.set_cons_succ]
                refine wpH_take (i := 4) (some 70) (v := ?x62v) rfl (by kernel_rfl) (by kernel_rfl) (by kernel_rfl) rfl (fun _ _ _ h => h) (Or.inl ⟨by rfl, ?x62y⟩) hHeld ?x62r
                case x62y => (intro w hSw; (try dsimp only at hSw); go_simp; try with_reducible rfl)
                try simp only [Act.put, List.setIfInBounds_toArray, List.set_cons_zero, List.set_cons_succ]
                refine wpH_take (i := 5) (some 71) (v := ?x63v) rfl (by kernel_rfl) (by kernel_rfl) (by kernel_rfl) rfl (fun _ _ _ h => h) (Or.inl ⟨by rfl, ?x63y⟩) hHeld ?x63r
                case x63y => (intro w hSw; (try dsimp only at hSw); go_simp; try with_reducible rfl)
                try simp only [Act.put, List.setIfInBounds_toArray, List.set_cons_zero, List.set_cons_succ]
                refine wpH_take (i := 6) (some 72) (v := ?x64v) rfl (by kernel_rfl) (by kernel_rfl) (by kernel_rfl) rfl (fun _ _ _ h => h) (Or.inl ⟨by rfl, ?x64y⟩) hHeld ?x64r
                case x64y => (intro w hSw; (try dsimp only at hSw); go_simp; try with_reducible rfl)
                try simp only [Act.put, List.setIfInBounds_toArray, List.set_cons_zero, List.set_cons_succ]
                refine wpH_take (i := 7) (some 73) (v := ?x65v) rfl (by kernel_rfl) (by kernel_rfl) (by kernel_rfl) rfl (fun _ _ _ h => h) (Or.inl ⟨by rfl, ?x65y⟩) hHeld ?x65r
                case x65y => (intro w hSw; (try dsimp only at hSw); go_simp; try with_reducible rfl)
                try simp only [Act.put, List.setIfInBounds_toArray, List.set_cons_zero, List.set_cons_succ]
                refine wpAnyH_done (by kernel_rfl) ?_ _
                go_wp2_with fail
                go_roundw
                case rel => exact ⟨i + 1, row, qs, by omega, by go_num, by rw [HD.out, HQ.out, HN.out]; simp, OOr.out.drew, HOWN.out.drew, BE.out.drew⟩
                case measure => simp [intOf]; omega
              | false =>
                have HN := Lib.hid hn
                have hqq := neq_cell d.s d.o zs zo false hn
                clear hn
                go_wp2_with fail
                refine region_H 8 #[false, false, false, false, false, false, false, false] (by kernel_rfl) (by kernel_rfl) (fun w' => w'.cell? ⟨w.heap.size, 2, none⟩ = some (.slice (some ⟨b, off, none⟩) ks.length ca) ∧ w'.cell? ⟨w.heap.size + 1, 0, none⟩ = some (.int .i64 zs) ∧ w'.cell? ⟨w.heap.size + 1, 1, none⟩ = some (.int .i64 zo) ∧ w'.cell? ⟨b, off + i * 3, none⟩ = some (.int .i64 d.s) ∧ w'.cell? ⟨b, off + i * 3 + 1, none⟩ = some (.int .i64 d.o)) (by kernel_rfl) ?x66s (fun hHeld => ?x66r)
                case x66s => exact ⟨t2, y0, y1, d0, d1⟩
                refine wpH_take (i := 0) (some 66) (v := ?x67v) rfl (by kernel_rfl) (by kernel_rfl) (by kernel_rfl) rfl (fun _ _ _ h => h) (Or.inl ⟨by rfl, ?x67y⟩) hHeld ?x67r
                case x67y => (intro w hSw; (try dsimp only at hSw); go_simp; try with_reducible rfl)
                try simp only [Act.put, List.setIfInBounds_toArray, List.set_cons_zero, List.set_cons_succ]
                refine wpH_take (i := 1) (some 67) (v := ?x68v) rfl (by kernel_rfl) (by kernel_rfl) (by kernel_rfl) rfl (fun _ _ _ h => h) (Or.inl ⟨by rfl, ?x68y⟩) hHeld ?x68r
                case x68y => (intro w hSw; (try dsimp only at hSw); go_simp; try with_reducible rfl)
                try simp only [Act.put, List.setIfInBounds_toArray, List.set_cons_zero, List.set_cons_succ]
                refine wpH_take (i := 2) (some 68) (v := ?x69v) rfl (by kernel_rfl) (by kernel_rfl) (by kernel_rfl) rfl (fun _ _ _ h => h) (Or.inl ⟨by rfl, ?x69y⟩) hHeld ?x69r
                case x69y => (intro w hSw; (try dsimp only at hSw); go_simp; try with_reducible rfl)
                try simp only [Act.put, List.setIfInBounds_toArray, List.set_cons_zero, List.set_cons_succ]
                refine wpH_take (i := 3) (some 69) (v := ?x70v) rfl (by kernel_rfl) (by kernel_rfl) (by kernel_rfl) rfl (fun _ _ _ h => h) (Or.inl ⟨by rfl, ?x70y⟩) hHeld ?x70r
                case x70y => (intro w hSw; (try dsimp only at hSw); go_simp; try with_reducible rfl)
                try simp only [Act.put, List.setIfInBounds_toArray, List.set_cons_zero, List.set_cons_succ]
                refine wpH_take (i := 4) (some 70) (v := ?x71v) rfl (by kernel_rfl) (by kernel_rfl) (by kernel_rfl) rfl (fun _ _ _ h => h) (Or.inl ⟨by rfl, ?x71y⟩) hHeld ?x71r
                case x71y => (intro w hSw; (try dsimp only at hSw); go_simp; try with_reducible rfl)
                try simp only [Act.put, List.setIfInBounds_toArray, List.set_cons_zero, List.set_cons_succ]
                refine wpH_take (i := 5) (some 71) (v := ?x72v) rfl (by kernel_rfl) (by kernel_rfl) (by kernel_rfl) rfl (fun _ _ _ h => h) (Or.inl ⟨by rfl, ?x72y⟩) hHeld ?x72r
                case x72y => (intro w hSw; (try dsimp only at hSw); go_simp; try with_reducible rfl)
                try simp only [Act.put, List.setIfInBounds_toArray, List.set_cons_zero, List.set_cons_succ]
                refine wpH_take (i := 6) (some 72) (v := ?x73v) rfl (by kernel_rfl) (by kernel_rfl) (by kernel_rfl) rfl (fun _ _ _ h => h) (Or.inl ⟨by rfl, ?x73y⟩) hHeld ?x73r
                case x73y => (intro w hSw; (try dsimp only at hSw); go_simp; try with_reducible rfl)
                try simp only [Act.put, List.setIfInBounds_toArray, List.set_cons_zero, List.set_cons_succ]
                refine wpH_take (i := 7) (some 73) (v := ?x74v) rfl (by kernel_rfl) (by kernel_rfl) (by kernel_rfl) rfl (fun _ _ _ h => h) (Or.inl ⟨by rfl, ?x74y⟩) hHeld ?x74r
                case x74y => (intro w hSw; (try dsimp only at hSw); go_simp; try with_reducible rfl)
                try simp only [Act.put, List.setIfInBounds_toArray, List.set_cons_zero, List.set_cons_succ]
                refine wpAnyH_done (by kernel_rfl) ?_ _
                have OTd := Lib.hid OTr.out.drew
                have OOd := Lib.hid OOr.out.drew
                have HOWd := Lib.hid HOWN.out.drew
                have BEd := Lib.hid BE.out.drew
                have BWd := Lib.hid (show Below w.heap.size wr wr.drew from (Below.refl _ _).drew)
                have hWd : wc.heap.size ≤ wr.drew.heap.size := hWr
                have hwd : w.heap.size ≤ wr.drew.heap.size := hwr
                clear t0 t1 t2 fT zT y0 y1 fC zC
                obtain ⟨t0, t1, t2, fT, zT⟩ := own3 OTd.out
                go_wp2_with fail
                generalize wr.drew = wd at OTd OOd HOWd BEd BWd hWd hwd t0 t1 t2 fT zT ⊢
                obtain ⟨o0, o1, o2, fO, zO⟩ := own3 OOd.out.drew
                refine region_H 11 #[false, false, false, false, false, false, false, false, false, false, false] (by kernel_rfl) (by kernel_rfl) (fun w' => w'.cell? ⟨w.heap.size, 2, none⟩ = some (.slice (some ⟨b, off, none⟩) ks.length ca) ∧ w'.cell? ⟨b, off + i * 3, none⟩ = some (.int .i64 d.s) ∧ w'.cell? ⟨b, off + i * 3 + 1, none⟩ = some (.int .i64 d.o) ∧ w'.cell? ⟨b, off + i * 3 + 2, none⟩ = some (.int .i64 d.p)) (by kernel_rfl) ?x75s (fun hHeld => ?x75r)
                case x75s => exact ⟨OTd.out.drew.cell (i := 2) rfl, (BWd.out.drew.cell (p := ⟨b, off + i * 3, none⟩) hbl).trans d0, (BWd.out.drew.cell (p := ⟨b, off + i * 3 + 1, none⟩) hbl).trans d1, (BWd.out.drew.cell (p := ⟨b, off + i * 3 + 2, none⟩) hbl).trans d2⟩
                refine wpH_take (i := 0) (some 74) (v := ?x76v) rfl (by kernel_rfl) (by kernel_rfl) (by kernel_rfl) rfl (fun _ _ _ h => h) (Or.inl ⟨by rfl, ?x76y⟩) hHeld ?x76r
                case x76y => (intro w hSw; (try dsimp only at hSw); go_simp; try with_reducible rfl)
                try simp only [Act.put, List.setIfInBounds_toArray, List.set_cons_zero, List.set_cons_succ]
                refine wpH_take (i := 2) (some 76) (v := ?x77v) rfl (by kernel_rfl) (by kernel_rfl) (by kernel_rfl) rfl (fun _ _ _ h => h) (Or.inl ⟨by rfl, ?x77y⟩) hHeld ?x77r
                case x77y => (intro w hSw; (try dsimp only at hSw); go_simp; try with_reducible rfl)
                try simp only [Act.put, List.setIfInBounds_toArray, List.set_cons_zero, List.set_cons_succ]
                refine wpH_take (i := 3) (some 77) (v := ?x78v) rfl (by kernel_rfl) (by kernel_rfl) (by kernel_rfl) rfl (fun _ _ _ h => h) (Or.inl ⟨by rfl, ?x78y⟩) hHeld ?x78r
                case x78y => (intro w hSw; (try dsimp only at hSw); go_simp; try with_reducible rfl)
                try simp only [Act.put, List.setIfInBounds_toArray, List.set_cons_zero, List.set_cons_succ]
                refine wpH_take (i := 4) (some 78) (v := ?x79v) rfl (by kernel_rfl) (by kernel_rfl) (by kernel_rfl) rfl (fun _ _ _ h => h) (Or.inl ⟨by rfl, ?x79y⟩) hHeld ?x79r
                case x79y => (intro w hSw; (try dsimp only at hSw); go_simp; try with_reducible rfl)
                try simp only [Act.put, List.setIfInBounds_toArray, List.set_cons_zero, List.set_cons_succ]
                refine wpH_take (i := 5) (some 79) (v := ?x80v) rfl (by kernel_rfl) (by kernel_rfl) (by kernel_rfl) rfl (fun _ _ _ h => h) (Or.inl ⟨by rfl, ?x80y⟩) hHeld ?x80r
                case x80y => (intro w hSw; (try dsimp only at hSw); go_simp; try with_reducible rfl)
                try simp only [Act.put, List.setIfInBounds_toArray, List.set_cons_zero, List.set_cons_succ]
                refine wpH_take (i := 6) (some 80) (v := ?x81v) rfl (by kernel_rfl) (by kernel_rfl) (by kernel_rfl) rfl (fun _ _ _ h => h) (Or.inl ⟨by rfl, ?x81y⟩) hHeld ?x81r
                case x81y => (intro w hSw; (try dsimp only at hSw); go_simp; try with_reducible rfl)
                try simp only [Act.put, List.setIfInBounds_toArray, List.set_cons_zero, List.set_cons_succ]
                refine wpAnyH_ready (rs := [1, 7]) (by kernel_rfl) (by simp) (AllReadyH.cons rfl (fun K hK => ?x82a) (AllReadyH.cons rfl (fun K hK => ?x82b) AllReadyH.nil))
                case x82a =>
                  rw [if_pos (by rfl)]
                  go_simp
                  refine hK.out _ _ (⟨OTd.out.drew.cell (i := 2) rfl, (BWd.out.drew.cell (p := ⟨b, off + i * 3, none⟩) hbl).trans d0, (BWd.out.drew.cell (p := ⟨b, off + i * 3 + 1, none⟩) hbl).trans d1, (BWd.out.drew.cell (p := ⟨b, off + i * 3 + 2, none⟩) hbl).trans d2⟩) ?_
                  clear hK K hHeld
                  intro hHeld
                  try simp only [Act.put, List.setIfInBounds_toArray, List.set_cons_zero, List.set_cons_succ]
                  refine wpH_one (i := 7) (by kernel_rfl) rfl (fun K hK => ?_)
                  rw [if_pos (by rfl)]
                  go_simp
                  have OTe := Lib.hid (show Own (wd.alloc (.cells #[.int .i64 d.s, .int .i64 d.o, .int .i64 d.p] 51)).drew w.heap.size [.slice pu us.length cu, .slice pg gs.length cg, .slice (some ⟨b, off, none⟩) ks.length ca] 26 from (OTd.out.alloc _).drew)
                  have OOe := Lib.hid (show Own (wd.alloc (.cells #[.int .i64 d.s, .int .i64 d.o, .int .i64 d.p] 51)).drew bO [.slice pU1 nU1 cU1, .slice pG1 nG1 cG1, row] 26 from (OOd.out.alloc _).drew)
                  have HOWe := Lib.hid (show World.ownsRow (wd.alloc (.cells #[.int .i64 d.s, .int .i64 d.o, .int .i64 d.p] 51)).drew _ _ _ _ _ _ from (HOWd.out.alloc (.cells #[.int .i64 d.s, .int .i64 d.o, .int .i64 d.p] 51)).drew)
                  have BEe := Lib.hid (show Belo _ _ _ (wd.alloc (.cells #[.int .i64 d.s, .int .i64 d.o, .int .i64 d.p] 51)).drew from (BEd.out.alloc hWd (.cells #[.int .i64 d.s, .int .i64 d.o, .int .i64 d.p] 51)).drew)
                  have BWe := Lib.hid (show Below w.heap.size wr (wd.alloc (.cells #[.int .i64 d.s, .int .i64 d.o, .int .i64 d.p] 51)).drew from (BWd.out.alloc hwd (.cells #[.int .i64 d.s, .int .i64 d.o, .int .i64 d.p] 51)).drew)
                  have NEWS := Lib.hid (show ∀ j u, (akL.f d)[j]? = some u → ((wd.alloc (.cells #[.int .i64 d.s, .int .i64 d.o, .int .i64 d.p] 51)).drew).cell? ((⟨wd.heap.size, 0, none⟩ : Addr).add j) = some u from newsT (L := akL) wd d 51)
                  have hWe : wc.heap.size ≤ ((wd.alloc (.cells #[.int .i64 d.s, .int .i64 d.o, .int .i64 d.p] 51)).drew).heap.size := by simp; omega
                  generalize (wd.alloc (.cells #[.int .i64 d.s, .int .i64 d.o, .int .i64 d.p] 51)).drew = we at OTe OOe HOWe BEe BWe NEWS hWe ⊢
                  clear o0 o1 o2 fO zO
                  obtain ⟨o0, o1, o2, fO, zO⟩ := own3 OOe.out
                  refine hK.out _ _ (⟨OTe.out.cell (i := 2) rfl, (BWe.out.cell (p := ⟨b, off + i * 3, none⟩) hbl).trans d0, (BWe.out.cell (p := ⟨b, off + i * 3 + 1, none⟩) hbl).trans d1, (BWe.out.cell (p := ⟨b, off + i * 3 + 2, none⟩) hbl).trans d2⟩) ?_
                  clear hK K hHeld
                  intro hHeld
                  try simp only [Act.put, List.setIfInBounds_toArray, List.set_cons_zero, List.set_cons_succ]
                  refine wpH_one (i := 8) (by kernel_rfl) rfl (fun K hK => ?_)
                  rw [if_pos (by rfl)]
                  refine wp_append_own _ _ _ 24 rfl wc.heap.size 51 iA _ 3 24 (by kernel_rfl) IFA.out.1 IFA.out.2.1 IFA.out.2.2.1 IFA.out.2.2.2 rfl (by decide) row qs.length (flatT akL qs) rfl HOWe.out _ 1 1 (akL.f d) rfl rfl NEWS.out (akL.one _) ?qc4 ?qc5 hWe ?qc7
                  case qc4 => unfold maxLen; omega
                  case qc5 => omega
                  case qc7 =>
                    intro v2 w2 hown hgrow hnil
                    have hrl := HOWe.out.lt
                    have BE2 := Lib.hid (BEe.out.grown hgrow hWe (fun k hk => (hrl k hk).1))
                    have OO2 := Lib.hid (own_grown OOe.out hgrow (fun k hk => by have := (hrl k hk).1; omega))
                    have OT2 := Lib.hid (own_grown OTe.out hgrow (fun k hk => by have := (hrl k hk).1; omega))
                    have BW2 := Lib.hid (BWe.out.grown hgrow (by have := BWe.out.size; omega) (fun k hk => by have := (hrl k hk).1; omega))
                    obtain ⟨p2, n2, c2, f0⟩ := own_slc hown
                    subst f0
                    have H2 := Lib.hid hown
                    clear hown hgrow hnil o0 o1 o2 fO zO hrl
                    obtain ⟨o0, o1, o2, fO, zO⟩ := own3 OO2.out
                    refine hK.out _ _ (⟨OT2.out.cell (i := 2) rfl, (BW2.out.cell (p := ⟨b, off + i * 3, none⟩) hbl).trans d0, (BW2.out.cell (p := ⟨b, off + i * 3 + 1, none⟩) hbl).trans d1, (BW2.out.cell (p := ⟨b, off + i * 3 + 2, none⟩) hbl).trans d2⟩) ?_
                    clear hK K hHeld
                    intro hHeld
                    try simp only [Act.put, List.setIfInBounds_toArray, List.set_cons_zero, List.set_cons_succ]
                    refine wpH_take (i := 9) (some 83) (v := ?x83v) rfl (by kernel_rfl) (by kernel_rfl) (by kernel_rfl) rfl (fun _ _ _ h => h) (Or.inl ⟨by rfl, ?x83y⟩) hHeld ?x83r
                    case x83y => (intro w hSw; (try dsimp only at hSw); go_simp; try with_reducible rfl)
                    try simp only [Act.put, List.setIfInBounds_toArray, List.set_cons_zero, List.set_cons_succ]
                    refine wpH_one (i := 10) (by kernel_rfl) rfl (fun K hK => ?_)
                    rw [if_pos (by rfl)]
                    go_simp
                    have OO3 := Lib.hid (OO2.out.set 2 (.slice p2 n2 c2))
                    have BE3 := Lib.hid (BE2.out.set 2 (.slice p2 n2 c2))
                    have H3 := Lib.hid (row_set H2.out (b := bO) (by omega) 2 (.slice p2 n2 c2))
                    have OT3 := Lib.hid (OT2.out.other (a := ⟨bO, 2, none⟩) (by first | (simp; done) | (simp; omega)) (.slice p2 n2 c2))
                    have BW3 := Lib.hid (BW2.out.setCell (p := ⟨bO, 2, none⟩) (by first | (simp; done) | (simp; omega)) (.slice p2 n2 c2))
                    refine hK.out _ _ (⟨OT3.out.cell (i := 2) rfl, (BW3.out.cell (p := ⟨b, off + i * 3, none⟩) hbl).trans d0, (BW3.out.cell (p := ⟨b, off + i * 3 + 1, none⟩) hbl).trans d1, (BW3.out.cell (p := ⟨b, off + i * 3 + 2, none⟩) hbl).trans d2⟩) ?_
                    clear hK K hHeld
                    intro hHeld
                    try simp only [Act.put, List.setIfInBounds_toArray, List.set_cons_zero, List.set_cons_succ]
                    refine wpAnyH_done (by kernel_rfl) ?_ _
                    go_wp2_with fail
                    go_roundw
                    case rel => exact ⟨i + 1, .slice p2 n2 c2, qs ++ [d], by omega, by go_num, by rw [HD.out, HQ.out, HN.out]; simp, OO3.out, by have := H3.out; rw [flatT_append, flatT_one]; simpa using this, BE3.out⟩
                    case measure => simp [intOf]; omega
                case x82b =>
                  rw [if_pos (by rfl)]
                  go_simp
                  have OTe := Lib.hid (show Own (wd.alloc (.cells #[.int .i64 d.s, .int .i64 d.o, .int .i64 d.p] 51)).drew w.heap.size [.slice pu us.length cu, .slice pg gs.length cg, .slice (some ⟨b, off, none⟩) ks.length ca] 26 from (OTd.out.alloc _).drew)
                  have OOe := Lib.hid (show Own (wd.alloc (.cells #[.int .i64 d.s, .int .i64 d.o, .int .i64 d.p] 51)).drew bO [.slice pU1 nU1 cU1, .slice pG1 nG1 cG1, row] 26 from (OOd.out.alloc _).drew)
                  have HOWe := Lib.hid (show World.ownsRow (wd.alloc (.cells #[.int .i64 d.s, .int .i64 d.o, .int .i64 d.p] 51)).drew _ _ _ _ _ _ from (HOWd.out.alloc (.cells #[.int .i64 d.s, .int .i64 d.o, .int .i64 d.p] 51)).drew)
                  have BEe := Lib.hid (show Belo _ _ _ (wd.alloc (.cells #[.int .i64 d.s, .int .i64 d.o, .int .i64 d.p] 51)).drew from (BEd.out.alloc hWd (.cells #[.int .i64 d.s, .int .i64 d.o, .int .i64 d.p] 51)).drew)
                  have BWe := Lib.hid (show Below w.heap.size wr (wd.alloc (.cells #[.int .i64 d.s, .int .i64 d.o, .int .i64 d.p] 51)).drew from (BWd.out.alloc hwd (.cells #[.int .i64 d.s, .int .i64 d.o, .int .i64 d.p] 51)).drew)
                  have NEWS := Lib.hid (show ∀ j u, (akL.f d)[j]? = some u → ((wd.alloc (.cells #[.int .i64 d.s, .int .i64 d.o, .int .i64 d.p] 51)).drew).cell? ((⟨wd.heap.size, 0, none⟩ : Addr).add j) = some u from newsT (L := akL) wd d 51)
                  have hWe : wc.heap.size ≤ ((wd.alloc (.cells #[.int .i64 d.s, .int .i64 d.o, .int .i64 d.p] 51)).drew).heap.size := by simp; omega
                  generalize (wd.alloc (.cells #[.int .i64 d.s, .int .i64 d.o, .int .i64 d.p] 51)).drew = we at OTe OOe HOWe BEe BWe NEWS hWe ⊢
                  clear o0 o1 o2 fO zO
                  obtain ⟨o0, o1, o2, fO, zO⟩ := own3 OOe.out
                  refine hK.out _ _ (⟨OTe.out.cell (i := 2) rfl, (BWe.out.cell (p := ⟨b, off + i * 3, none⟩) hbl).trans d0, (BWe.out.cell (p := ⟨b, off + i * 3 + 1, none⟩) hbl).trans d1, (BWe.out.cell (p := ⟨b, off + i * 3 + 2, none⟩) hbl).trans d2⟩) ?_
                  clear hK K hHeld
                  intro hHeld
                  try simp only [Act.put, List.setIfInBounds_toArray, List.set_cons_zero, List.set_cons_succ]
                  refine wpH_one (i := 1) (by kernel_rfl) rfl (fun K hK => ?_)
                  rw [if_pos (by rfl)]
                  go_simp
                  refine hK.out _ _ (⟨OTe.out.cell (i := 2) rfl, (BWe.out.cell (p := ⟨b, off + i * 3, none⟩) hbl).trans d0, (BWe.out.cell (p := ⟨b, off + i * 3 + 1, none⟩) hbl).trans d1, (BWe.out.cell (p := ⟨b, off + i * 3 + 2, none⟩) hbl).trans d2⟩) ?_
                  clear hK K hHeld
                  intro hHeld
                  try simp only [Act.put, List.setIfInBounds_toArray, List.set_cons_zero, List.set_cons_succ]
                  refine wpH_one (i := 8) (by kernel_rfl) rfl (fun K hK => ?_)
                  rw [if_pos (by rfl)]
                  refine wp_append_own _ _ _ 24 rfl wc.heap.size 51 iA _ 3 24 (by kernel_rfl) IFA.out.1 IFA.out.2.1 IFA.out.2.2.1 IFA.out.2.2.2 rfl (by decide) row qs.length (flatT akL qs) rfl HOWe.out _ 1 1 (akL.f d) rfl rfl NEWS.out (akL.one _) ?qc4 ?qc5 hWe ?qc7
                  case qc4 => unfold maxLen; omega
                  case qc5 => omega
                  case qc7 =>
                    intro v2 w2 hown hgrow hnil
                    have hrl := HOWe.out.lt
                    have BE2 := Lib.hid (BEe.out.grown hgrow hWe (fun k hk => (hrl k hk).1))
                    have OO2 := Lib.hid (own_grown OOe.out hgrow (fun k hk => by have := (hrl k hk).1; omega))
                    have OT2 := Lib.hid (own_grown OTe.out hgrow (fun k hk => by have := (hrl k hk).1; omega))
                    have BW2 := Lib.hid (BWe.out.grown hgrow (by have := BWe.out.size; omega) (fun k hk => by have := (hrl k hk).1; omega))
                    obtain ⟨p2, n2, c2, f0⟩ := own_slc hown
                    subst f0
                    have H2 := Lib.hid hown
                    clear hown hgrow hnil o0 o1 o2 fO zO hrl
                    obtain ⟨o0, o1, o2, fO, zO⟩ := own3 OO2.out
                    refine hK.out _ _ (⟨OT2.out.cell (i := 2) rfl, (BW2.out.cell (p := ⟨b, off + i * 3, none⟩) hbl).trans d0, (BW2.out.cell (p := ⟨b, off + i * 3 + 1, none⟩) hbl).trans d1, (BW2.out.cell (p := ⟨b, off + i * 3 + 2, none⟩) hbl).trans d2⟩) ?_
                    clear hK K hHeld
                    intro hHeld
                    try simp only [Act.put, List.setIfInBounds_toArray, List.set_cons_zero, List.set_cons_succ]
                    refine wpH_take (i := 9) (some 83) (v := ?x84v) rfl (by kernel_rfl) (by kernel_rfl) (by kernel_rfl) rfl (fun _ _ _ h => h) (Or.inl ⟨by rfl, ?x84y⟩) hHeld ?x84r
                    case x84y => (intro w hSw; (try dsimp only at hSw); go_simp; try with_reducible rfl)
                    try simp only [Act.put, List.setIfInBounds_toArray, List.set_cons_zero, List.set_cons_succ]
                    refine wpH_one (i := 10) (by kernel_rfl) rfl (fun K hK => ?_)
                    rw [if_pos (by rfl)]
                    go_simp
                    have OO3 := Lib.hid (OO2.out.set 2 (.slice p2 n2 c2))
                    have BE3 := Lib.hid (BE2.out.set 2 (.slice p2 n2 c2))
                    have H3 := Lib.hid (row_set H2.out (b := bO) (by omega) 2 (.slice p2 n2 c2))
                    have OT3 := Lib.hid (OT2.out.other (a := ⟨bO, 2, none⟩) (by first | (simp; done) | (simp; omega)) (.slice p2 n2 c2))
                    have BW3 := Lib.hid (BW2.out.setCell (p := ⟨bO, 2, none⟩) (by first | (simp; done) | (simp; omega)) (.slice p2 n2 c2))
                    refine hK.out _ _ (⟨OT3.out.cell (i := 2) rfl, (BW3.out.cell (p := ⟨b, off + i * 3, none⟩) hbl).trans d0, (BW3.out.cell (p := ⟨b, off + i * 3 + 1, none⟩) hbl).trans d1, (BW3.out.cell (p := ⟨b, off + i * 3 + 2, none⟩) hbl).trans d2⟩) ?_
                    clear hK K hHeld
                    intro hHeld
                    try simp only [Act.put, List.setIfInBounds_toArray, List.set_cons_zero, List.set_cons_succ]
                    refine wpAnyH_done (by kernel_rfl) ?_ _
                    go_wp2_with fail
                    go_roundw
                    case rel => exact ⟨i + 1, .slice p2 n2 c2, qs ++ [d], by omega, by go_num, by rw [HD.out, HQ.out, HN.out]; simp, OO3.out, by have := H3.out; rw [flatT_append, flatT_one]; simpa using this, BE3.out⟩
                    case measure => simp [intOf]; omega
            · have HQ2 := Lib.hid (show qs = ks.filter (fun d => !(d.s == zs && d.o == zo)) by have h := HQ.out; rw [List.take_of_length_le (by omega)] at h; exact h)
              have NA := Lib.hid (show SlA wr row (ks.filter (fun d => !(d.s == zs && d.o == zo))) by rw [← HQ2.out]; exact slt_of_own (L := akL) HOWN.out)
              obtain ⟨pA1, nA1, cA1, f0⟩ := NA.out.slc
              subst f0
              replace NU := Lib.hid (BE.out.slt NU.out numU OOw.out)
              replace NG := Lib.hid (BE.out.slt NG.out numG OOw.out)
              obtain ⟨r0, r1, r2, fR, zR⟩ := own3 ORr.out
              obtain ⟨o0, o1, o2, fO, zO⟩ := own3 OOr.out
              go_wp2_with fail
              clear t0 t1 t2 fT zT y0 y1 fC zC hlt hi j0 HQ HQ2 HOWN hql hwr
              replace OTw := OTr
              replace OCw := OCr
              replace ORw := ORr
              replace OOw := OOr
              replace BLw := BLr
              replace hsz : bO < wr.heap.size := by omega
              clear OTr OCr ORr OOr BLr BE hWr
              rename World => we
              clear r0 r1 r2 fR zR o0 o1 o2 fO zO
              have FU := Lib.hid (SlT.set3 NU.out numU ORw.out (.slice pU1 nU1 cU1) (.slice pG1 nG1 cG1) (.slice pA1 nA1 cA1))
              have FG := Lib.hid (SlT.set3 NG.out numG ORw.out (.slice pU1 nU1 cU1) (.slice pG1 nG1 cG1) (.slice pA1 nA1 cA1))
              have FA := Lib.hid (SlT.set3 NA.out numA ORw.out (.slice pU1 nU1 cU1) (.slice pG1 nG1 cG1) (.slice pA1 nA1 cA1))
              have BF := Lib.hid (below_set3 (x := .slice pU1 nU1 cU1) (y := .slice pG1 nG1 cG1) (z := .slice pA1 nA1 cA1) BLw.out (show w.heap.size ≤ w.heap.size + 1 + 1 by omega))
              have OF := Lib.hid (own_set3 (x := .slice pU1 nU1 cU1) (y := .slice pG1 nG1 cG1) (z := .slice pA1 nA1 cA1) ORw.out)
              generalize (((we.setCell ⟨w.heap.size + 1 + 1, 0, none⟩ (.slice pU1 nU1 cU1)).setCell ⟨w.heap.size + 1 + 1, 1, none⟩ (.slice pG1 nG1 cG1)).setCell ⟨w.heap.size + 1 + 1, 2, none⟩ (.slice pA1 nA1 cA1)) = wf at OF FU FG FA BF ⊢
              obtain ⟨q0, q1, q2, _, _⟩ := own3 OF.out
              go_wp2_with fail
              refine bodyPost_ret (v := .agg #[.slice pU1 nU1 cU1, .slice pG1 nG1 cG1, .slice pA1 nA1 cA1]) (by simp [results, Try.results22, go_sem, *]) rfl ⟨_, _, _, rfl, FU.out, FG.out, FA.out, BF.out⟩

end Go.Proofs.Ytdmadnoijhmbcaa

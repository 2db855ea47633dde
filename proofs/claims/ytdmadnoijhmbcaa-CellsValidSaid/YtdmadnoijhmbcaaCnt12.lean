/- counts. -/
import Derived.Test.YtdmadnoijhmbcaaSam12
import Derived.Test.YtdmadnoijhmbcaaLaw12p
namespace Go.Proofs.Ytdmadnoijhmbcaa
open Go.RowKit

/-- How many pairs of equal entries two lists have. -/
def mtc {α : Type} (e : α → α → Bool) : List α → List α → Nat
  | [], _ => 0
  | a :: l, m => m.countP (e a) + mtc e l m
theorem mtc_app {α : Type} {e : α → α → Bool} {m : List α} : ∀ {l l' : List α}, mtc e (l ++ l') m = mtc e l m + mtc e l' m
  | [], l' => by simp [mtc]
  | a :: l, l' => by simp [mtc, mtc_app (l := l), Nat.add_assoc]
theorem mtc_snoc {α : Type} {e : α → α → Bool} {l m : List α} {i : Nat} {d : α} (h : l[i]? = some d) : mtc e (l.take (i + 1)) m = mtc e (l.take i) m + m.countP (e d) := by
  rw [take_snocG h, mtc_app]; simp [mtc]
theorem mtc_le {α : Type} (e : α → α → Bool) (m : List α) (k : Nat) (hm : m.length ≤ k) : ∀ (l : List α), mtc e l m ≤ l.length * k
  | [] => by simp [mtc]
  | a :: l => by
    have h1 := mtc_le e m k hm l
    have h2 := List.countP_le_length (p := e a) (l := m)
    simp only [mtc, List.length_cons, Nat.add_mul, Nat.one_mul]; omega
theorem mtc_take_le {α : Type} (e : α → α → Bool) {l m : List α} (i : Nat) (hl : l.length ≤ 100) (hm : m.length ≤ 100) : mtc e (l.take i) m ≤ 10000 := by
  have h1 := mtc_le e m 100 hm (l.take i)
  have h2 := List.length_take_le' i l
  have h3 : (l.take i).length * 100 ≤ 100 * 100 := Nat.mul_le_mul_right 100 (by omega)
  omega
theorem cntT_snoc {α : Type} {q : α → Bool} {l : List α} {i : Nat} {d : α} (h : l[i]? = some d) : (l.take (i + 1)).countP q = (l.take i).countP q + if q d = true then 1 else 0 := by
  rw [take_snocG h, List.countP_append, List.countP_singleton]
theorem cntT_le {α : Type} (q : α → Bool) (l : List α) (i : Nat) : (l.take i).countP q ≤ l.length := Nat.le_trans List.countP_le_length (List.length_take_le' i l)

set_option linter.unusedSimpArgs false in
set_option linter.unusedVariables false in
set_option maxRecDepth 100000 in
set_option maxHeartbeats 2000000 in
theorem counts_any (vu vg va vu' vg' va' : Value) (us us' : List Us) (gs gs' : List Gr) (ks ks' : List Ak) (w : World) (su : SlU w vu us) (sg : SlG w vg gs) (sa : SlA w va ks) (su' : SlU w vu' us') (sg' : SlG w vg' gs') (sa' : SlA w va' ks') (u70 : us.length ≤ 100) (g70 : gs.length ≤ 100) (k70 : ks.length ≤ 100) (u71 : us'.length ≤ 100) (g71 : gs'.length ≤ 100) (k71 : ks'.length ≤ 100) : Calls Try.prog 25 #[.agg #[vu, vg, va], .agg #[vu', vg', va']] w fun e w' => e = .returned (.tuple #[.int .i64 (mtc eqU us us' : Nat), .int .i64 (mtc eqG gs gs' : Nat), .int .i64 (mtc eqA ks ks' : Nat)]) ∧ Below w.heap.size w w' := by
  obtain ⟨pu, cu, e0, hlu, hcu, _⟩ := su.form us.length rfl
  subst e0
  obtain ⟨pu', cu', e0, hlu', hcu', _⟩ := su'.form us'.length rfl
  subst e0
  obtain ⟨pg, cg, e0, hlg, hcg, _⟩ := sg.form gs.length rfl
  subst e0
  obtain ⟨pg', cg', e0, hlg', hcg', _⟩ := sg'.form gs'.length rfl
  subst e0
  obtain ⟨pa, ca, e0, hla, hca, _⟩ := sa.form ks.length rfl
  subst e0
  obtain ⟨pa', ca', e0, hla', hca', _⟩ := sa'.form ks'.length rfl
  subst e0
  have BX := Lib.hid (show Below w.heap.size w ((w.alloc (.cells #[.slice pu us.length cu, .slice pg gs.length cg, .slice pa ks.length ca] 26)).alloc (.cells #[.slice pu' us'.length cu', .slice pg' gs'.length cg', .slice pa' ks'.length ca'] 26)) from ((Below.refl _ _).alloc (Nat.le_refl _) _).alloc (by simp) _)
  have SU := Lib.hid (su.below BX.out)
  have SU' := Lib.hid (su'.below BX.out)
  have SG := Lib.hid (sg.below BX.out)
  have SG' := Lib.hid (sg'.below BX.out)
  have SA := Lib.hid (sa.below BX.out)
  have SA' := Lib.hid (sa'.below BX.out)
  clear su sg sa su' sg' sa'
  go_enter Try.func25, Try.ntmps25
  go_wp2_with fail
  have OT := Lib.hid ((own_at (w := w) [.slice pu us.length cu, .slice pg gs.length cg, .slice pa ks.length ca] 26 rfl).alloc (.cells #[.slice pu' us'.length cu', .slice pg' gs'.length cg', .slice pa' ks'.length ca'] 26))
  have OY := Lib.hid (own_at (w := w.alloc (.cells #[.slice pu us.length cu, .slice pg gs.length cg, .slice pa ks.length ca] 26)) (n := w.heap.size + 1) [.slice pu' us'.length cu', .slice pg' gs'.length cg', .slice pa' ks'.length ca'] 26 (by simp))
  change Code.wp _ _ _ _ ((w.alloc (.cells #[.slice pu us.length cu, .slice pg gs.length cg, .slice pa ks.length ca] 26)).alloc (.cells #[.slice pu' us'.length cu', .slice pg' gs'.length cg', .slice pa' ks'.length ca'] 26))
  generalize ((w.alloc (.cells #[.slice pu us.length cu, .slice pg gs.length cg, .slice pa ks.length ca] 26)).alloc (.cells #[.slice pu' us'.length cu', .slice pg' gs'.length cg', .slice pa' ks'.length ca'] 26)) = w1 at OT OY BX SU SU' SG SG' SA SA' ⊢
  obtain ⟨t0, t1, t2, fT, zT⟩ := own3 OT.out
  obtain ⟨y0, y1, y2, fY, zY⟩ := own3 OY.out
  go_loopw [7, 25] (fun nn ii wz => ∃ (i : Nat), i ≤ us.length ∧ ii = .int .i64 i ∧ nn = .int .i64 (mtc eqU (us.take i) us' : Nat) ∧ Below w1.heap.size w1 wz) (fun _ i _ => us.length - (intOf i).toNat)
  case atStart => exact ⟨0, by omega, rfl, rfl, Below.refl _ _⟩
  case round =>
    rename World => wq
    clear t0 t1 t2 fT zT y0 y1 y2 fY zY
    obtain ⟨i, hi, rfl, rfl, hbe⟩ := hrel
    have BE := Lib.hid hbe
    clear hbe
    have j0 : (0 : Int) ≤ (i : Int) := Int.natCast_nonneg _
    have OTr := Lib.hid (OT.out.below BE.out)
    have OYr := Lib.hid (OY.out.below BE.out)
    obtain ⟨t0, t1, t2, fT, zT⟩ := own3 OTr.out
    obtain ⟨y0, y1, y2, fY, zY⟩ := own3 OYr.out
    by_cases hlt : i < us.length
    · obtain ⟨d, b, off, hd, rfl, hbl, _, d0, d1, d2, d3⟩ := SU.out.atU BE.out hlt
      have j1 : (i : Int) < (us.length : Int) := by omega
      have HD := Lib.hid (mtc_snoc (e := eqU) (m := us') hd)
      clear hd
      have oE := Lib.hid (own_at (w := wq) [.int .i64 d.s, .int .i64 d.o, .int .i64 d.p, .int .i64 d.m] 32 rfl)
      have OT1 := Lib.hid (OTr.out.alloc (.cells #[.int .i64 d.s, .int .i64 d.o, .int .i64 d.p, .int .i64 d.m] 32))
      have OY1 := Lib.hid (OYr.out.alloc (.cells #[.int .i64 d.s, .int .i64 d.o, .int .i64 d.p, .int .i64 d.m] 32))
      have B1 := Lib.hid (BE.out.alloc BE.out.size (.cells #[.int .i64 d.s, .int .i64 d.o, .int .i64 d.p, .int .i64 d.m] 32))
      obtain ⟨x0, x1, x2, x3, fE, zE⟩ := own4 oE.out
      have lb := mtc_take_le eqU i (show us.length ≤ 100 by omega) (show us'.length ≤ 100 by omega)
      go_wp2_with fail
      clear t0 t1 t2 fT zT y0 y1 y2 fY zY d0 d1 d2 d3 x0 x1 x2 x3 fE zE
      generalize wq.alloc (.cells #[.int .i64 d.s, .int .i64 d.o, .int .i64 d.p, .int .i64 d.m] 32) = wk at oE OT1 OY1 B1 ⊢
      go_loopw [7, 32] (fun nn ee wz => ∃ (e : Nat), e ≤ us'.length ∧ ee = .int .i64 e ∧ nn = .int .i64 (mtc eqU (us.take i) us' + (us'.take e).countP (eqU d) : Nat) ∧ Below wk.heap.size wk wz) (fun _ e _ => us'.length - (intOf e).toNat)
      case atStart => exact ⟨0, by omega, rfl, by simp, Below.refl _ _⟩
      case round =>
        rename World => wp
        obtain ⟨e, he, rfl, rfl, hbp⟩ := hrel
        have BP := Lib.hid hbp
        clear hbp
        have e0 : (0 : Int) ≤ (e : Int) := Int.natCast_nonneg _
        have oEp := Lib.hid (oE.out.below BP.out)
        have BT := Lib.hid (belowTo B1.out BP.out B1.out.size)
        have hcu := cntT_le (eqU d) us' e
        by_cases hle : e < us'.length
        · obtain ⟨a, b', off', ha, rfl, _, _, a0, a1, a2, a3⟩ := SU'.out.atU BT.out hle
          have e1 : (e : Int) < (us'.length : Int) := by omega
          have HA := Lib.hid (cntT_snoc (q := eqU d) ha)
          clear ha
          have oEq := Lib.hid (oEp.out.alloc (.cells #[.int .i64 a.s, .int .i64 a.o, .int .i64 a.p, .int .i64 a.m] 32))
          have oA := Lib.hid (own_at (w := wp) [.int .i64 a.s, .int .i64 a.o, .int .i64 a.p, .int .i64 a.m] 32 rfl)
          have BP2 := Lib.hid (BP.out.alloc BP.out.size (.cells #[.int .i64 a.s, .int .i64 a.o, .int .i64 a.p, .int .i64 a.m] 32))
          obtain ⟨x0, x1, x2, x3, fE, zE⟩ := own4 oEq.out
          obtain ⟨z0, z1, z2, z3, fA, zA⟩ := own4 oA.out
          have hcw : ((mtc eqU (us.take i) us' + (us'.take e).countP (eqU d) : Nat) : Int) < 100000 := by omega
          have hcz : (0 : Int) ≤ ((mtc eqU (us.take i) us' + (us'.take e).countP (eqU d) : Nat) : Int) := Int.natCast_nonneg _
          cases hq : eqU d a with
          | true =>
            have HQ := Lib.hid hq
            have hqq := eql_u_lit d a true hq
            clear hq
            go_wp2_with fail
            go_roundw
            case rel => exact ⟨e + 1, by omega, by go_num, by rw [HA.out, HQ.out]; go_num, BP2.out⟩
            case measure => simp [intOf]; omega
          | false =>
            have HQ := Lib.hid hq
            have hqq := eql_u_lit d a false hq
            clear hq
            go_wp2_with fail
            go_roundw
            case rel => exact ⟨e + 1, by omega, by go_num, by rw [HA.out, HQ.out]; simp, BP2.out⟩
            case measure => simp [intOf]; omega
        · obtain rfl : e = us'.length := by omega
          rw [List.take_length]
          go_wp2_with fail
          go_roundw
          case rel => exact ⟨i + 1, by omega, by go_num, by rw [HD.out], BT.out⟩
          case measure => simp [intOf]; omega
    · obtain rfl : i = us.length := by omega
      rw [List.take_length]
      go_wp2_with fail
      go_loopw [8, 46] (fun nn ii wz => ∃ (i : Nat), i ≤ gs.length ∧ ii = .int .i64 i ∧ nn = .int .i64 (mtc eqG (gs.take i) gs' : Nat) ∧ Below w1.heap.size w1 wz) (fun _ i _ => gs.length - (intOf i).toNat)
      case atStart => exact ⟨0, by omega, rfl, rfl, BE.out⟩
      case round =>
        rename World => wq
        clear t0 t1 t2 fT zT y0 y1 y2 fY zY hlt hi j0 BE OTr OYr
        obtain ⟨i, hi, rfl, rfl, hbe⟩ := hrel
        have BE2 := Lib.hid hbe
        clear hbe
        have j0 : (0 : Int) ≤ (i : Int) := Int.natCast_nonneg _
        have OTr := Lib.hid (OT.out.below BE2.out)
        have OYr := Lib.hid (OY.out.below BE2.out)
        obtain ⟨t0, t1, t2, fT, zT⟩ := own3 OTr.out
        obtain ⟨y0, y1, y2, fY, zY⟩ := own3 OYr.out
        by_cases hlt : i < gs.length
        · obtain ⟨d, b, off, hd, rfl, hbl, _, d0, d1, d2, d3, d4⟩ := SG.out.atG BE2.out hlt
          have j1 : (i : Int) < (gs.length : Int) := by omega
          have HD := Lib.hid (mtc_snoc (e := eqG) (m := gs') hd)
          clear hd
          have oE := Lib.hid (own_at (w := wq) [.int .i64 d.s, .int .i64 d.o, .int .i64 d.p, .int .i64 d.m, .int .i64 d.u] 34 rfl)
          have OT1 := Lib.hid (OTr.out.alloc (.cells #[.int .i64 d.s, .int .i64 d.o, .int .i64 d.p, .int .i64 d.m, .int .i64 d.u] 34))
          have OY1 := Lib.hid (OYr.out.alloc (.cells #[.int .i64 d.s, .int .i64 d.o, .int .i64 d.p, .int .i64 d.m, .int .i64 d.u] 34))
          have B1 := Lib.hid (BE2.out.alloc BE2.out.size (.cells #[.int .i64 d.s, .int .i64 d.o, .int .i64 d.p, .int .i64 d.m, .int .i64 d.u] 34))
          obtain ⟨x0, x1, x2, x3, x4, fE, zE⟩ := own5 oE.out
          have lb := mtc_take_le eqG i (show gs.length ≤ 100 by omega) (show gs'.length ≤ 100 by omega)
          go_wp2_with fail
          clear t0 t1 t2 fT zT y0 y1 y2 fY zY d0 d1 d2 d3 d4 x0 x1 x2 x3 x4 fE zE
          generalize wq.alloc (.cells #[.int .i64 d.s, .int .i64 d.o, .int .i64 d.p, .int .i64 d.m, .int .i64 d.u] 34) = wk at oE OT1 OY1 B1 ⊢
          go_loopw [8, 53] (fun nn ee wz => ∃ (e : Nat), e ≤ gs'.length ∧ ee = .int .i64 e ∧ nn = .int .i64 (mtc eqG (gs.take i) gs' + (gs'.take e).countP (eqG d) : Nat) ∧ Below wk.heap.size wk wz) (fun _ e _ => gs'.length - (intOf e).toNat)
          case atStart => exact ⟨0, by omega, rfl, by simp, Below.refl _ _⟩
          case round =>
            rename World => wp
            obtain ⟨e, he, rfl, rfl, hbp⟩ := hrel
            have BP := Lib.hid hbp
            clear hbp
            have e0 : (0 : Int) ≤ (e : Int) := Int.natCast_nonneg _
            have oEp := Lib.hid (oE.out.below BP.out)
            have BT := Lib.hid (belowTo B1.out BP.out B1.out.size)
            have hcu := cntT_le (eqG d) gs' e
            by_cases hle : e < gs'.length
            · obtain ⟨a, b', off', ha, rfl, _, _, a0, a1, a2, a3, a4⟩ := SG'.out.atG BT.out hle
              have e1 : (e : Int) < (gs'.length : Int) := by omega
              have HA := Lib.hid (cntT_snoc (q := eqG d) ha)
              clear ha
              have oEq := Lib.hid (oEp.out.alloc (.cells #[.int .i64 a.s, .int .i64 a.o, .int .i64 a.p, .int .i64 a.m, .int .i64 a.u] 34))
              have oA := Lib.hid (own_at (w := wp) [.int .i64 a.s, .int .i64 a.o, .int .i64 a.p, .int .i64 a.m, .int .i64 a.u] 34 rfl)
              have BP2 := Lib.hid (BP.out.alloc BP.out.size (.cells #[.int .i64 a.s, .int .i64 a.o, .int .i64 a.p, .int .i64 a.m, .int .i64 a.u] 34))
              obtain ⟨x0, x1, x2, x3, x4, fE, zE⟩ := own5 oEq.out
              obtain ⟨z0, z1, z2, z3, z4, fA, zA⟩ := own5 oA.out
              have hcw : ((mtc eqG (gs.take i) gs' + (gs'.take e).countP (eqG d) : Nat) : Int) < 100000 := by omega
              have hcz : (0 : Int) ≤ ((mtc eqG (gs.take i) gs' + (gs'.take e).countP (eqG d) : Nat) : Int) := Int.natCast_nonneg _
              cases hq : eqG d a with
              | true =>
                have HQ := Lib.hid hq
                have hqq := eql_g_lit d a true hq
                clear hq
                go_wp2_with fail
                go_roundw
                case rel => exact ⟨e + 1, by omega, by go_num, by rw [HA.out, HQ.out]; go_num, BP2.out⟩
                case measure => simp [intOf]; omega
              | false =>
                have HQ := Lib.hid hq
                have hqq := eql_g_lit d a false hq
                clear hq
                go_wp2_with fail
                go_roundw
                case rel => exact ⟨e + 1, by omega, by go_num, by rw [HA.out, HQ.out]; simp, BP2.out⟩
                case measure => simp [intOf]; omega
            · obtain rfl : e = gs'.length := by omega
              rw [List.take_length]
              go_wp2_with fail
              go_roundw
              case rel => exact ⟨i + 1, by omega, by go_num, by rw [HD.out], BT.out⟩
              case measure => simp [intOf]; omega
        · obtain rfl : i = gs.length := by omega
          rw [List.take_length]
          have BE := BE2
          clear BE2
          go_wp2_with fail
          go_loopw [9, 67] (fun nn ii wz => ∃ (i : Nat), i ≤ ks.length ∧ ii = .int .i64 i ∧ nn = .int .i64 (mtc eqA (ks.take i) ks' : Nat) ∧ Below w1.heap.size w1 wz) (fun _ i _ => ks.length - (intOf i).toNat)
          case atStart => exact ⟨0, by omega, rfl, rfl, BE.out⟩
          case round =>
            rename World => wq
            clear t0 t1 t2 fT zT y0 y1 y2 fY zY hlt hi j0 BE OTr OYr
            obtain ⟨i, hi, rfl, rfl, hbe⟩ := hrel
            have BE2 := Lib.hid hbe
            clear hbe
            have j0 : (0 : Int) ≤ (i : Int) := Int.natCast_nonneg _
            have OTr := Lib.hid (OT.out.below BE2.out)
            have OYr := Lib.hid (OY.out.below BE2.out)
            obtain ⟨t0, t1, t2, fT, zT⟩ := own3 OTr.out
            obtain ⟨y0, y1, y2, fY, zY⟩ := own3 OYr.out
            by_cases hlt : i < ks.length
            · obtain ⟨d, b, off, hd, rfl, hbl, _, d0, d1, d2⟩ := SA.out.atA BE2.out hlt
              have j1 : (i : Int) < (ks.length : Int) := by omega
              have HD := Lib.hid (mtc_snoc (e := eqA) (m := ks') hd)
              clear hd
              have oE := Lib.hid (own_at (w := wq) [.int .i64 d.s, .int .i64 d.o, .int .i64 d.p] 51 rfl)
              have OT1 := Lib.hid (OTr.out.alloc (.cells #[.int .i64 d.s, .int .i64 d.o, .int .i64 d.p] 51))
              have OY1 := Lib.hid (OYr.out.alloc (.cells #[.int .i64 d.s, .int .i64 d.o, .int .i64 d.p] 51))
              have B1 := Lib.hid (BE2.out.alloc BE2.out.size (.cells #[.int .i64 d.s, .int .i64 d.o, .int .i64 d.p] 51))
              obtain ⟨x0, x1, x2, fE, zE⟩ := own3 oE.out
              have lb := mtc_take_le eqA i (show ks.length ≤ 100 by omega) (show ks'.length ≤ 100 by omega)
              go_wp2_with fail
              clear t0 t1 t2 fT zT y0 y1 y2 fY zY d0 d1 d2 x0 x1 x2 fE zE
              generalize wq.alloc (.cells #[.int .i64 d.s, .int .i64 d.o, .int .i64 d.p] 51) = wk at oE OT1 OY1 B1 ⊢
              go_loopw [9, 74] (fun nn ee wz => ∃ (e : Nat), e ≤ ks'.length ∧ ee = .int .i64 e ∧ nn = .int .i64 (mtc eqA (ks.take i) ks' + (ks'.take e).countP (eqA d) : Nat) ∧ Below wk.heap.size wk wz) (fun _ e _ => ks'.length - (intOf e).toNat)
              case atStart => exact ⟨0, by omega, rfl, by simp, Below.refl _ _⟩
              case round =>
                rename World => wp
                obtain ⟨e, he, rfl, rfl, hbp⟩ := hrel
                have BP := Lib.hid hbp
                clear hbp
                have e0 : (0 : Int) ≤ (e : Int) := Int.natCast_nonneg _
                have oEp := Lib.hid (oE.out.below BP.out)
                have BT := Lib.hid (belowTo B1.out BP.out B1.out.size)
                have hcu := cntT_le (eqA d) ks' e
                by_cases hle : e < ks'.length
                · obtain ⟨a, b', off', ha, rfl, _, _, a0, a1, a2⟩ := SA'.out.atA BT.out hle
                  have e1 : (e : Int) < (ks'.length : Int) := by omega
                  have HA := Lib.hid (cntT_snoc (q := eqA d) ha)
                  clear ha
                  have oEq := Lib.hid (oEp.out.alloc (.cells #[.int .i64 a.s, .int .i64 a.o, .int .i64 a.p] 51))
                  have oA := Lib.hid (own_at (w := wp) [.int .i64 a.s, .int .i64 a.o, .int .i64 a.p] 51 rfl)
                  have BP2 := Lib.hid (BP.out.alloc BP.out.size (.cells #[.int .i64 a.s, .int .i64 a.o, .int .i64 a.p] 51))
                  obtain ⟨x0, x1, x2, fE, zE⟩ := own3 oEq.out
                  obtain ⟨z0, z1, z2, fA, zA⟩ := own3 oA.out
                  have hcw : ((mtc eqA (ks.take i) ks' + (ks'.take e).countP (eqA d) : Nat) : Int) < 100000 := by omega
                  have hcz : (0 : Int) ≤ ((mtc eqA (ks.take i) ks' + (ks'.take e).countP (eqA d) : Nat) : Int) := Int.natCast_nonneg _
                  cases hq : eqA d a with
                  | true =>
                    have HQ := Lib.hid hq
                    have hqq := eql_a_lit d a true hq
                    clear hq
                    go_wp2_with fail
                    go_roundw
                    case rel => exact ⟨e + 1, by omega, by go_num, by rw [HA.out, HQ.out]; go_num, BP2.out⟩
                    case measure => simp [intOf]; omega
                  | false =>
                    have HQ := Lib.hid hq
                    have hqq := eql_a_lit d a false hq
                    clear hq
                    go_wp2_with fail
                    go_roundw
                    case rel => exact ⟨e + 1, by omega, by go_num, by rw [HA.out, HQ.out]; simp, BP2.out⟩
                    case measure => simp [intOf]; omega
                · obtain rfl : e = ks'.length := by omega
                  rw [List.take_length]
                  go_wp2_with fail
                  go_roundw
                  case rel => exact ⟨i + 1, by omega, by go_num, by rw [HD.out], BT.out⟩
                  case measure => simp [intOf]; omega
            · obtain rfl : i = ks.length := by omega
              rw [List.take_length]
              have BE := BE2
              clear BE2
              go_wp2_with fail
              refine bodyPost_ret (v := .tuple #[.int .i64 (mtc eqU us us' : Nat), .int .i64 (mtc eqG gs gs' : Nat), .int .i64 (mtc eqA ks ks' : Nat)]) (by simp [results, Try.results25, go_sem, *]) rfl ⟨rfl, BX.out.trans (BE.out.mono BX.out.size)⟩

theorem counts_lit (vu vg va vu' vg' va' : Value) (us us' : List Us) (gs gs' : List Gr) (ks ks' : List Ak) (w : World) (su : SlU w vu us) (sg : SlG w vg gs) (sa : SlA w va ks) (su' : SlU w vu' us') (sg' : SlG w vg' gs') (sa' : SlA w va' ks') (u70 : us.length ≤ 100) (g70 : gs.length ≤ 100) (k70 : ks.length ≤ 100) (u71 : us'.length ≤ 100) (g71 : gs'.length ≤ 100) (k71 : ks'.length ≤ 100) (a b c : Nat) (h1 : mtc eqU us us' = a) (h2 : mtc eqG gs gs' = b) (h3 : mtc eqA ks ks' = c) : Calls Try.prog 25 #[.agg #[vu, vg, va], .agg #[vu', vg', va']] w fun e w' => e = .returned (.tuple #[.int .i64 (a : Int), .int .i64 (b : Int), .int .i64 (c : Int)]) ∧ Below w.heap.size w w' := by
  subst h1 h2 h3
  exact counts_any vu vg va vu' vg' va' us us' gs gs' ks ks' w su sg sa su' sg' sa' u70 g70 k70 u71 g71 k71

/-! ### what the counts are -/
theorem cnt_no {α : Type} {e : α → α → Bool} (he : ∀ a b, e a b = true ↔ a = b) {a : α} {m : List α} (h : ¬ a ∈ m) : m.countP (e a) = 0 := by
  rw [List.countP_eq_zero]
  intro b hb hq
  exact h ((he a b).1 hq ▸ hb)
theorem cnt_yes {α : Type} {e : α → α → Bool} (he : ∀ a b, e a b = true ↔ a = b) {sl : α → Int} {a : α} : ∀ {m : List α}, Srt sl m → a ∈ m → m.countP (e a) = 1
  | [], _, h => by simp at h
  | b :: m, hs, h => by
    obtain ⟨p, q⟩ := List.pairwise_cons.1 hs
    rw [List.countP_cons]
    by_cases hb : e a b = true
    · have hab := (he a b).1 hb
      subst hab
      rw [if_pos hb, cnt_no he (fun hm => by have := p _ hm; omega)]
    · rw [if_neg hb]
      rcases List.mem_cons.1 h with e2 | hm
      · exact absurd ((he a b).2 e2) hb
      · rw [cnt_yes he q hm]
theorem mtc_all {α : Type} {e : α → α → Bool} (he : ∀ a b, e a b = true ↔ a = b) {sl : α → Int} {m : List α} (h : Srt sl m) : ∀ {l : List α}, (∀ d ∈ l, d ∈ m) → mtc e l m = l.length
  | [], _ => rfl
  | a :: l, hl => by
    rw [mtc, cnt_yes he h (hl a (by simp)), mtc_all he h fun d hd => hl d (by simp [hd])]
    simp; omega
theorem mtc_part {α : Type} {e : α → α → Bool} (he : ∀ a b, e a b = true ↔ a = b) {sl : α → Int} {m : List α} (h : Srt sl m) (q : α → Bool) : ∀ {l : List α}, (∀ d ∈ l, q d = true ↔ d ∈ m) → mtc e l m = l.countP q
  | [], _ => rfl
  | a :: l, hl => by
    have ih := mtc_part he h q (l := l) fun d hd => hl d (by simp [hd])
    have ha := hl a (by simp)
    rw [mtc, List.countP_cons, ih]
    by_cases hq : q a = true
    · rw [cnt_yes he h (ha.1 hq), if_pos hq]; omega
    · rw [cnt_no he (fun hm => hq (ha.2 hm)), if_neg hq]; omega

end Go.Proofs.Ytdmadnoijhmbcaa

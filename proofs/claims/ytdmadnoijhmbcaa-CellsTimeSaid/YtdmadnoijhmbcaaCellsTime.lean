/- The walk of CellsTime. -/
import Derived.Test.YtdmadnoijhmbcaaHead12
import Derived.Test.YtdmadnoijhmbcaaRVld12
import Derived.Test.YtdmadnoijhmbcaaLaw12p
import Derived.Test.YtdmadnoijhmbcaaOpen12
import Derived.Test.YtdmadnoijhmbcaaFld12
namespace Go.Proofs.Ytdmadnoijhmbcaa
open Go.RowKit

set_option linter.unusedSimpArgs false in
set_option linter.unusedVariables false in
set_option maxRecDepth 100000 in
set_option maxHeartbeats 2000000 in
theorem time_few (vu vg va : Value) (us : List Us) (gs : List Gr) (ks : List Ak) (x y : Int) (w : World) (su : SlU w vu us) (sg : SlG w vg gs) (sa : SlA w va ks) (hf : fewB us gs ks = false) : Calls Try.prog 8 #[.agg #[vu, vg, va], .int .i64 x, .int .i64 y] w fun e w' => e = .returned (.bool true) ∧ Below w.heap.size w w' := by
  obtain ⟨pu, cu, e0, hlu, hcu, _⟩ := su.form us.length rfl
  subst e0
  obtain ⟨pg, cg, e0, hlg, hcg, _⟩ := sg.form gs.length rfl
  subst e0
  obtain ⟨pa, ca, e0, hla, hca, _⟩ := sa.form ks.length rfl
  subst e0
  have SU := Lib.hid su
  have SG := Lib.hid sg
  have SA := Lib.hid sa
  clear su sg sa
  have HF := Lib.hid hf
  clear hf
  go_enter Try.func8, Try.ntmps8
  go_wp2_with fail
  refine (head_true _).mono ?_
  rintro e w1 ⟨rfl, hb⟩
  replace SU := Lib.hid ((SU.out.below (belowNew _ _)).below hb)
  replace SG := Lib.hid ((SG.out.below (belowNew _ _)).below hb)
  replace SA := Lib.hid ((SA.out.below (belowNew _ _)).below hb)
  have oT : Own w1 w.heap.size [.slice pu us.length cu, .slice pg gs.length cg, .slice pa ks.length ca] 26 := (own_at _ _ rfl).below hb
  have bel := belowTo ((Below.refl w.heap.size w).alloc (by simp) _) hb (by simp)
  clear hb
  obtain ⟨cT0, cT1, cT2, fT, zT⟩ := own3 oT
  go_wp2_with fail
  refine (few_lit _ _ _ us gs ks _ SU.out SG.out SA.out false HF.out).mono ?_
  rintro e w2 ⟨rfl, hb⟩
  replace oT := oT.below hb
  replace SU := Lib.hid (SU.out.below hb)
  replace SG := Lib.hid (SG.out.below hb)
  replace SA := Lib.hid (SA.out.below hb)
  replace bel := belowTo bel hb (by exact bel.size)
  clear hb
  clear cT0 cT1 cT2 fT zT
  obtain ⟨cT0, cT1, cT2, fT, zT⟩ := own3 oT
  go_wp2_with fail
  go_ret
  exact ⟨rfl, bel⟩

theorem take_filtG {p : Gr → Bool} {l : List Gr} {i : Nat} {d : Gr} (h : l[i]? = some d) : (l.take (i + 1)).filter p = (l.take i).filter p ++ if p d then [d] else [] := by
  rw [take_snocG h, List.filter_append]
  cases e : p d
  · rw [List.filter_cons_of_neg (by simp [e])]; rfl
  · rw [List.filter_cons_of_pos (by simp [e])]; rfl
set_option linter.unusedSimpArgs false in
set_option linter.unusedVariables false in
set_option maxRecDepth 100000 in
set_option maxHeartbeats 2000000 in
theorem time_le (vu vg va : Value) (us : List Us) (gs : List Gr) (ks : List Ak) (x y : Int) (w : World) (su : SlU w vu us) (sg : SlG w vg gs) (sa : SlA w va ks) (hf : fewB us gs ks = true) (hxy : x < y) : Calls Try.prog 8 #[.agg #[vu, vg, va], .int .i64 x, .int .i64 y] w fun e w' => e = .returned (.bool true) ∧ Below w.heap.size w w' := by
  have u70 : us.length ≤ 70 := (fewB_iff.1 hf).1
  have g70 : gs.length ≤ 70 := (fewB_iff.1 hf).2.1
  have k70 : ks.length ≤ 70 := (fewB_iff.1 hf).2.2
  have TP := Lib.hid (time_plain gs x y)
  rw [show max x y = y by omega] at TP
  have m1 : ¬ y < x := by omega
  have m2 : x ≤ y := by omega
  have m3 : max x y = y := by omega
  obtain ⟨pu, cu, e0, hlu, hcu, _⟩ := su.form us.length rfl
  subst e0
  obtain ⟨pg, cg, e0, hlg, hcg, _⟩ := sg.form gs.length rfl
  subst e0
  obtain ⟨pa, ca, e0, hla, hca, _⟩ := sa.form ks.length rfl
  subst e0
  have SU := Lib.hid su
  have SG := Lib.hid sg
  have SA := Lib.hid sa
  clear su sg sa
  have iu0 : (0 : Int) ≤ (us.length : Int) := Int.natCast_nonneg _
  have ig0 : (0 : Int) ≤ (gs.length : Int) := Int.natCast_nonneg _
  have ia0 : (0 : Int) ≤ (ks.length : Int) := Int.natCast_nonneg _
  have iu : (us.length : Int) ≤ 70 := by omega
  have ig : (gs.length : Int) ≤ 70 := by omega
  have ia : (ks.length : Int) ≤ 70 := by omega
  have HF := Lib.hid hf
  clear hf
  obtain ⟨i0, hi, hz, hs0, hb0⟩ := info_parts info_g
  have IF := Lib.hid (And.intro hi (And.intro hz (And.intro hs0 hb0)))
  clear hi hz hs0 hb0
  have SU00 := SU
  have SG00 := SG
  have SA00 := SA
  go_enter Try.func8, Try.ntmps8
  go_wp2_with fail
  refine (head_true _).mono ?_
  rintro e w1 ⟨rfl, hb⟩
  replace SU := Lib.hid ((SU.out.below (belowNew _ _)).below hb)
  replace SG := Lib.hid ((SG.out.below (belowNew _ _)).below hb)
  replace SA := Lib.hid ((SA.out.below (belowNew _ _)).below hb)
  have oT : Own w1 w.heap.size [.slice pu us.length cu, .slice pg gs.length cg, .slice pa ks.length ca] 26 := (own_at _ _ rfl).below hb
  have bel := belowTo ((Below.refl w.heap.size w).alloc (by simp) _) hb (by simp)
  clear hb
  obtain ⟨cT0, cT1, cT2, fT, zT⟩ := own3 oT
  go_wp2_with fail
  refine (few_lit _ _ _ us gs ks _ SU.out SG.out SA.out true HF.out).mono ?_
  rintro e w2 ⟨rfl, hb⟩
  replace oT := oT.below hb
  replace SU := Lib.hid (SU.out.below hb)
  replace SG := Lib.hid (SG.out.below hb)
  replace SA := Lib.hid (SA.out.below hb)
  replace bel := belowTo bel hb (by exact bel.size)
  clear hb
  clear cT0 cT1 cT2 fT zT
  obtain ⟨cT0, cT1, cT2, fT, zT⟩ := own3 oT
  go_wp2_with fail
  refine (exp_any _ _ _ us gs ks y _ SU.out SG.out SA.out (by omega) (by omega) (by omega)).mono ?_
  rintro e w3 ⟨vx1, vx2, vx3, rfl, z1, z2, z3, hb⟩
  replace oT := oT.below hb
  replace SU := Lib.hid (SU.out.below hb)
  replace SG := Lib.hid (SG.out.below hb)
  replace SA := Lib.hid (SA.out.below hb)
  replace bel := belowTo bel hb (by exact bel.size)
  clear hb
  clear cT0 cT1 cT2 fT zT
  obtain ⟨cT0, cT1, cT2, fT, zT⟩ := own3 oT
  have XU0 := Lib.hid z1
  have XG0 := Lib.hid z2
  have XA0 := Lib.hid z3
  clear z1 z2 z3
  obtain ⟨px1, nx1, cx1, f0⟩ := XU0.out.slc
  subst f0
  obtain ⟨px2, nx2, cx2, f0⟩ := XG0.out.slc
  subst f0
  obtain ⟨px3, nx3, cx3, f0⟩ := XA0.out.slc
  subst f0
  go_wp2_with fail
  have OTh := Lib.hid ((oT.alloc (.cells #[.slice px1 nx1 cx1, .slice px2 nx2 cx2, .slice px3 nx3 cx3] 26)).alloc (.cells #[.slice pu us.length cu, .slice none 0 0, .slice pa ks.length ca] 26))
  have OXh := Lib.hid (show Own ((w3.alloc (.cells #[.slice px1 nx1 cx1, .slice px2 nx2 cx2, .slice px3 nx3 cx3] 26)).alloc (.cells #[.slice pu us.length cu, .slice none 0 0, .slice pa ks.length ca] 26)) w3.heap.size [.slice px1 nx1 cx1, .slice px2 nx2 cx2, .slice px3 nx3 cx3] 26 from (own_at _ _ rfl).alloc _)
  have OQh := Lib.hid (show Own ((w3.alloc (.cells #[.slice px1 nx1 cx1, .slice px2 nx2 cx2, .slice px3 nx3 cx3] 26)).alloc (.cells #[.slice pu us.length cu, .slice none 0 0, .slice pa ks.length ca] 26)) (w3.heap.size + 1) [.slice pu us.length cu, .slice none 0 0, .slice pa ks.length ca] 26 from own_at _ _ (by simp))
  have B35 := Lib.hid (show Below w3.heap.size w3 ((w3.alloc (.cells #[.slice px1 nx1 cx1, .slice px2 nx2 cx2, .slice px3 nx3 cx3] 26)).alloc (.cells #[.slice pu us.length cu, .slice none 0 0, .slice pa ks.length ca] 26)) from ((Below.refl _ _).alloc (Nat.le_refl _) _).alloc (by simp) _)
  have BLh := Lib.hid (bel.trans (B35.out.mono bel.size))
  have HSZ := Lib.hid (show ((w3.alloc (.cells #[.slice px1 nx1 cx1, .slice px2 nx2 cx2, .slice px3 nx3 cx3] 26)).alloc (.cells #[.slice pu us.length cu, .slice none 0 0, .slice pa ks.length ca] 26)).heap.size = w3.heap.size + 1 + 1 by simp)
  have ltT := zT
  have hws := bel.size
  clear oT bel SU SG SA cT0 cT1 cT2 fT zT
  generalize ((w3.alloc (.cells #[.slice px1 nx1 cx1, .slice px2 nx2 cx2, .slice px3 nx3 cx3] 26)).alloc (.cells #[.slice pu us.length cu, .slice none 0 0, .slice pa ks.length ca] 26)) = w5 at OTh OXh OQh B35 BLh HSZ ⊢
  have oTq := OTh.out
  have oXq := OXh.out
  have oQq := OQh.out
  obtain ⟨cT0, cT1, cT2, fT, zT⟩ := own3 oTq
  obtain ⟨cX0, cX1, cX2, fX, zX⟩ := own3 oXq
  obtain ⟨cQ0, cQ1, cQ2, fQ, zQ⟩ := own3 oQq
  clear oTq oXq oQq
  go_loopw [30] (fun ii wr => ∃ (i : Nat) (row : Value) (qs : List Gr), i ≤ gs.length ∧ ii = .int .i64 i ∧ qs = (gs.take i).filter (fun d => decide (x ≤ d.u) && decide (y ≤ d.u)) ∧ Own wr (w3.heap.size + 1) [.slice pu us.length cu, row, .slice pa ks.length ca] 26 ∧ wr.ownsRow w5.heap.size 34 5 row qs.length (flatT grL qs) ∧ Below (w3.heap.size + 1) w5 wr) (fun i _ => gs.length - (intOf i).toNat)
  case atStart => exact ⟨0, _, [], by omega, rfl, rfl, OQh.out, World.ownsRow_nil _ _ _ _, Below.refl _ _⟩
  case round =>
    clear cT0 cT1 cT2 fT zT cX0 cX1 cX2 fX zX cQ0 cQ1 cQ2 fQ zQ
    obtain ⟨i, row, qs, hi, rfl, hq, hoq, hown, bel5⟩ := hrel
    have HQ := Lib.hid hq
    have hql : qs.length ≤ 70 := by have h1 := List.length_filter_le (fun d : Gr => decide (x ≤ d.u) && decide (y ≤ d.u)) (gs.take i); have h2 := List.length_take_le' i gs; rw [← hq] at h1; omega
    have HOQ := Lib.hid hoq
    have HOWN := Lib.hid hown
    have BE := Lib.hid bel5
    have wz := BE.out.size
    have wz5 := HSZ.out
    clear hq hoq hown bel5
    have j0 : (0 : Int) ≤ (i : Int) := Int.natCast_nonneg _
    have oTr := Lib.hid (own_belowB OTh.out BE.out (by omega))
    have oXr := Lib.hid (own_belowB OXh.out BE.out (by omega))
    obtain ⟨t0, t1, t2, fT, zT⟩ := own3 oTr.out
    obtain ⟨q0, q1, q2, fQ, zQ⟩ := own3 HOQ.out
    have BELr := Lib.hid (show Below w.heap.size w wr from BLh.out.trans (BE.out.mono (by omega)))
    by_cases hlt : i < gs.length
    · obtain ⟨d, b, off, hd, rfl, hbl, _, d0, d1, d2, d3, d4⟩ := SG00.out.atG BELr.out hlt
      have j1 : (i : Int) < (gs.length : Int) := by omega
      have HD := Lib.hid (take_filtG (p := fun d : Gr => decide (x ≤ d.u) && decide (y ≤ d.u)) hd)
      clear hd
      have oE := Lib.hid (own_at (w := wr) [.int .i64 d.s, .int .i64 d.o, .int .i64 d.p, .int .i64 d.m, .int .i64 d.u] 34 rfl)
      have HOQ1 := Lib.hid (HOQ.out.alloc (.cells #[.int .i64 d.s, .int .i64 d.o, .int .i64 d.p, .int .i64 d.m, .int .i64 d.u] 34))
      have HOW1 := Lib.hid (HOWN.out.alloc (.cells #[.int .i64 d.s, .int .i64 d.o, .int .i64 d.p, .int .i64 d.m, .int .i64 d.u] 34))
      have BE1 := Lib.hid (BE.out.alloc (by omega) (.cells #[.int .i64 d.s, .int .i64 d.o, .int .i64 d.p, .int .i64 d.m, .int .i64 d.u] 34))
      obtain ⟨e0, e1, e2, e3, e4, fE, zE⟩ := own5 oE.out
      obtain ⟨k0, k1, k2, fK, zK⟩ := own3 HOQ1.out
      by_cases g1 : x ≤ d.u
      · by_cases g2 : y ≤ d.u
        · go_wp2_with (at_builtin; refine wpList_append_own _ rfl _ _ 23 rfl w5.heap.size 34 i0 _ 5 40 (by kernel_rfl) IF.out.1 IF.out.2.1 IF.out.2.2.1 IF.out.2.2.2 rfl (by decide) row qs.length (flatT grL qs) rfl (HOW1.out.alloc _) _ 1 1 (grL.f d) rfl rfl (newsTn (L := grL) (w := (wr.alloc (.cells #[.int .i64 d.s, .int .i64 d.o, .int .i64 d.p, .int .i64 d.m, .int .i64 d.u] 34))) (by first | rfl | simp) d 34) (grL.one _) ?qc4 ?qc5 ?qc6 ?_)
          case qc4 => unfold maxLen; omega
          case qc5 => omega
          case qc6 => have := BE1.out.size; simp at this ⊢; omega
          intro v2 w2 hown hgrow hnil
          have HG := Lib.hid (show ∀ k, row.ownBlock = some k → (w3.heap.size + 1) < k from fun k hk => by have := (HOWN.out.lt k hk).1; omega)
          have B2 := Lib.hid ((BE1.out.alloc (by have := BE1.out.size; omega) _).grown hgrow (by have := BE1.out.size; simp at this ⊢; omega) (fun k hk => by have := HG.out k hk; omega))
          have Q2 := Lib.hid (own_grown (HOQ1.out.alloc _) hgrow HG.out)
          obtain ⟨p2, n2, c2, f0⟩ := own_slc hown
          subst f0
          have H2 := Lib.hid hown
          clear hown hgrow hnil
          obtain ⟨u0, u1, u2, fU, zU⟩ := own3 Q2.out
          go_wp2_with fail
          have Q3 := Lib.hid (Q2.out.set 1 (.slice p2 n2 c2))
          have B3 := Lib.hid (B2.out.setCell (p := ⟨(w3.heap.size + 1), 1, none⟩) (by simp) (.slice p2 n2 c2))
          have H3 := Lib.hid (row_set H2.out (b := (w3.heap.size + 1)) (by omega) 1 (.slice p2 n2 c2))
          go_roundw
          case rel => exact ⟨i + 1, .slice p2 n2 c2, qs ++ [d], by omega, by go_num, by rw [HD.out, HQ.out]; simp [g1, g2], Q3.out, by have := H3.out; rw [flatT_append, flatT_one]; simpa [wz5] using this, B3.out⟩
          case measure => simp [intOf]; omega
        · go_wp2_with fail
          go_roundw
          case rel => exact ⟨i + 1, row, qs, by omega, by go_num, by rw [HD.out, HQ.out]; simp [g1, g2], HOQ1.out, HOW1.out, BE1.out⟩
          case measure => simp [intOf]; omega
      · go_wp2_with fail
        go_roundw
        case rel => exact ⟨i + 1, row, qs, by omega, by go_num, by rw [HD.out, HQ.out]; simp [g1], HOQ1.out, HOW1.out, BE1.out⟩
        case measure => simp [intOf]; omega
    · have hql2 : qs = (gs.filter (fun d => !decide (d.u < y))) := by have h := HQ.out; rw [List.take_of_length_le (by omega)] at h; exact h.trans TP.out.2
      have HQ2 := Lib.hid hql2
      have QG := Lib.hid (slt_of_own (L := grL) HOWN.out)
      clear hql2 HQ HOWN
      obtain ⟨pq, nq, cq, f0⟩ := QG.out.slc
      subst f0
      have QU := Lib.hid (SU00.out.below BELr.out)
      have QA := Lib.hid (SA00.out.below BELr.out)
      have oT := oTr.out
      have oX := oXr.out
      have oQ := HOQ.out
      have bel := BELr.out
      have XU := Lib.hid (slt_belowB XU0.out B35.out BE.out (by omega))
      have XG := Lib.hid (slt_belowB XG0.out B35.out BE.out (by omega))
      have XA := Lib.hid (slt_belowB XA0.out B35.out BE.out (by omega))
      have SU := Lib.hid (SU00.out.below BELr.out)
      have SG := Lib.hid (SG00.out.below BELr.out)
      have SA := Lib.hid (SA00.out.below BELr.out)
      clear t0 t1 t2 fT zT q0 q1 q2 fQ zQ oTr oXr HOQ
      obtain ⟨cT0, cT1, cT2, fT, zT⟩ := own3 oT
      obtain ⟨cX0, cX1, cX2, fX, zX⟩ := own3 oX
      obtain ⟨cQ0, cQ1, cQ2, fQ, zQ⟩ := own3 oQ
      go_wp2_with fail
      have OTk0 := Lib.hid oT.drew
      have OXk0 := Lib.hid oX.drew
      have OQk0 := Lib.hid oQ.drew
      have BBk0 := Lib.hid bel.drew
      have SUk0 := Lib.hid (SU.out.below (Below.refl _ _).drew)
      have SGk0 := Lib.hid (SG.out.below (Below.refl _ _).drew)
      have SAk0 := Lib.hid (SA.out.below (Below.refl _ _).drew)
      have XUk0 := Lib.hid (XU.out.below (Below.refl _ _).drew)
      have XGk0 := Lib.hid (XG.out.below (Below.refl _ _).drew)
      have XAk0 := Lib.hid (XA.out.below (Below.refl _ _).drew)
      have QUk0 := Lib.hid (QU.out.below (Below.refl _ _).drew)
      have QGk0 := Lib.hid (QG.out.below (Below.refl _ _).drew)
      have QAk0 := Lib.hid (QA.out.below (Below.refl _ _).drew)
      clear oT cT0 cT1 cT2 fT zT oX cX0 cX1 cX2 fX zX oQ cQ0 cQ1 cQ2 fQ zQ
      clear bel SU SG SA XU XG XA QU QG QA
      obtain ⟨hTk00, hTk01, hTk02, _, _⟩ := own3 OTk0.out
      obtain ⟨hXk00, hXk01, hXk02, _, _⟩ := own3 OXk0.out
      obtain ⟨hQk00, hQk01, hQk02, _, _⟩ := own3 OQk0.out
      refine region_H 16 #[false, false, false, false, false, false, false, false, false, false, false, false, false, false, false, false] (by kernel_rfl) (by kernel_rfl) (fun w' => w'.cell? ⟨w.heap.size, 0, none⟩ = some (.slice pu us.length cu) ∧ w'.cell? ⟨w.heap.size, 1, none⟩ = some (.slice pg gs.length cg) ∧ w'.cell? ⟨w.heap.size, 2, none⟩ = some (.slice pa ks.length ca) ∧ w'.cell? ⟨w3.heap.size, 0, none⟩ = some (.slice px1 nx1 cx1) ∧ w'.cell? ⟨w3.heap.size, 1, none⟩ = some (.slice px2 nx2 cx2) ∧ w'.cell? ⟨w3.heap.size, 2, none⟩ = some (.slice px3 nx3 cx3) ∧ w'.cell? ⟨(w3.heap.size + 1), 0, none⟩ = some (.slice pu us.length cu) ∧ w'.cell? ⟨(w3.heap.size + 1), 1, none⟩ = some (.slice pq nq cq) ∧ w'.cell? ⟨(w3.heap.size + 1), 2, none⟩ = some (.slice pa ks.length ca)) (by kernel_rfl) ?x1s (fun hHeld => ?x1r)
      case x1s => exact ⟨hTk00, hTk01, hTk02, hXk00, hXk01, hXk02, hQk00, hQk01, hQk02⟩
      refine wpH_take (i := 0) (some 51) (v := ?x2v) rfl (by kernel_rfl) (by kernel_rfl) (by kernel_rfl) rfl (fun _ _ _ h => h) (Or.inl ⟨by rfl, ?x2y⟩) hHeld ?x2r
      case x2y => (intro w hSw; (try dsimp only at hSw); go_simp; try with_reducible rfl)
      try simp only [Act.put, List.setIfInBounds_toArray, List.set_cons_zero, List.set_cons_succ]
      refine wpH_take (i := 1) (some 52) (v := ?x3v) rfl (by kernel_rfl) (by kernel_rfl) (by kernel_rfl) rfl (fun _ _ _ h => h) (Or.inl ⟨by rfl, ?x3y⟩) hHeld ?x3r
      case x3y => (intro w hSw; (try dsimp only at hSw); go_simp; try with_reducible rfl)
      try simp only [Act.put, List.setIfInBounds_toArray, List.set_cons_zero, List.set_cons_succ]
      refine wpH_take (i := 2) (some 53) (v := ?x4v) rfl (by kernel_rfl) (by kernel_rfl) (by kernel_rfl) rfl (fun _ _ _ h => h) (Or.inl ⟨by rfl, ?x4y⟩) hHeld ?x4r
      case x4y => (intro w hSw; (try dsimp only at hSw); go_simp; try with_reducible rfl)
      try simp only [Act.put, List.setIfInBounds_toArray, List.set_cons_zero, List.set_cons_succ]
      refine wpH_take (i := 3) (some 54) (v := ?x5v) rfl (by kernel_rfl) (by kernel_rfl) (by kernel_rfl) rfl (fun _ _ _ h => h) (Or.inl ⟨by rfl, ?x5y⟩) hHeld ?x5r
      case x5y => (intro w hSw; (try dsimp only at hSw); go_simp; try with_reducible rfl)
      try simp only [Act.put, List.setIfInBounds_toArray, List.set_cons_zero, List.set_cons_succ]
      refine wpH_take (i := 5) (some 56) (v := ?x6v) rfl (by kernel_rfl) (by kernel_rfl) (by kernel_rfl) rfl (fun _ _ _ h => h) (Or.inl ⟨by rfl, ?x6y⟩) hHeld ?x6r
      case x6y => (intro w hSw; (try dsimp only at hSw); go_simp; try with_reducible rfl)
      try simp only [Act.put, List.setIfInBounds_toArray, List.set_cons_zero, List.set_cons_succ]
      refine wpH_take (i := 7) (some 58) (v := ?x7v) rfl (by kernel_rfl) (by kernel_rfl) (by kernel_rfl) rfl (fun _ _ _ h => h) (Or.inl ⟨by rfl, ?x7y⟩) hHeld ?x7r
      case x7y => (intro w hSw; (try dsimp only at hSw); go_simp; try with_reducible rfl)
      try simp only [Act.put, List.setIfInBounds_toArray, List.set_cons_zero, List.set_cons_succ]
      refine wpH_one (i := 4) (by kernel_rfl) rfl (fun K hK => ?_)
      rw [if_pos (by rfl)]
      go_simp
      refine (exp_any _ _ _ us gs ks x _ SUk0.out SGk0.out SAk0.out (by omega) (by omega) (by omega)).mono ?_
      rintro e wk1 ⟨vy1, vy2, vy3, rfl, z1, z2, z3, hbb⟩
      have YUk1 := Lib.hid (show SlU wk1 vy1 us from z1)
      obtain ⟨pvy1, nvy1, cvy1, f0⟩ := YUk1.out.slc
      subst f0
      have YGk1 := Lib.hid (show SlG wk1 vy2 (gs.filter (fun d => !decide (d.u < x))) from z2)
      obtain ⟨pvy2, nvy2, cvy2, f0⟩ := YGk1.out.slc
      subst f0
      have YAk1 := Lib.hid (show SlA wk1 vy3 ks from z3)
      obtain ⟨pvy3, nvy3, cvy3, f0⟩ := YAk1.out.slc
      subst f0
      have OTk1 := Lib.hid (OTk0.out.below hbb)
      have OXk1 := Lib.hid (OXk0.out.below hbb)
      have OQk1 := Lib.hid (OQk0.out.below hbb)
      have SUk1 := Lib.hid (SUk0.out.below hbb)
      have SGk1 := Lib.hid (SGk0.out.below hbb)
      have SAk1 := Lib.hid (SAk0.out.below hbb)
      have XUk1 := Lib.hid (XUk0.out.below hbb)
      have XGk1 := Lib.hid (XGk0.out.below hbb)
      have XAk1 := Lib.hid (XAk0.out.below hbb)
      have QUk1 := Lib.hid (QUk0.out.below hbb)
      have QGk1 := Lib.hid (QGk0.out.below hbb)
      have QAk1 := Lib.hid (QAk0.out.below hbb)
      have BBk1 := Lib.hid (belowTo BBk0.out hbb BBk0.out.size)
      clear hbb OTk0 OXk0 OQk0 SUk0 SGk0 SAk0 XUk0 XGk0 XAk0 QUk0 QGk0 QAk0 BBk0 hTk00 hTk01 hTk02 hXk00 hXk01 hXk02 hQk00 hQk01 hQk02
      obtain ⟨hTk10, hTk11, hTk12, _, _⟩ := own3 OTk1.out
      obtain ⟨hXk10, hXk11, hXk12, _, _⟩ := own3 OXk1.out
      obtain ⟨hQk10, hQk11, hQk12, _, _⟩ := own3 OQk1.out
      refine hK.out _ _ (⟨hTk10, hTk11, hTk12, hXk10, hXk11, hXk12, hQk10, hQk11, hQk12⟩) ?_
      clear hK K hHeld
      intro hHeld
      try simp only [Act.put, List.setIfInBounds_toArray, List.set_cons_zero, List.set_cons_succ]
      refine wpH_one (i := 6) (by kernel_rfl) rfl (fun K hK => ?_)
      rw [if_pos (by rfl)]
      go_simp
      refine (exp_any _ _ _ us (gs.filter (fun d => !decide (d.u < x))) ks y _ YUk1.out YGk1.out YAk1.out (by omega) (by have := List.length_filter_le (fun d : Gr => !decide (d.u < x)) gs; omega) (by omega)).mono ?_
      rintro e wk2 ⟨vz1, vz2, vz3, rfl, z1, z2, z3, hbb⟩
      have ZUk2 := Lib.hid (show SlU wk2 vz1 us from z1)
      obtain ⟨pvz1, nvz1, cvz1, f0⟩ := ZUk2.out.slc
      subst f0
      have ZGk2 := Lib.hid (show SlG wk2 vz2 (gs.filter (fun d => !decide (d.u < y))) from by rw [TP.out.1] at z2; exact z2)
      obtain ⟨pvz2, nvz2, cvz2, f0⟩ := ZGk2.out.slc
      subst f0
      have ZAk2 := Lib.hid (show SlA wk2 vz3 ks from z3)
      obtain ⟨pvz3, nvz3, cvz3, f0⟩ := ZAk2.out.slc
      subst f0
      have OTk2 := Lib.hid (OTk1.out.below hbb)
      have OXk2 := Lib.hid (OXk1.out.below hbb)
      have OQk2 := Lib.hid (OQk1.out.below hbb)
      have SUk2 := Lib.hid (SUk1.out.below hbb)
      have SGk2 := Lib.hid (SGk1.out.below hbb)
      have SAk2 := Lib.hid (SAk1.out.below hbb)
      have XUk2 := Lib.hid (XUk1.out.below hbb)
      have XGk2 := Lib.hid (XGk1.out.below hbb)
      have XAk2 := Lib.hid (XAk1.out.below hbb)
      have QUk2 := Lib.hid (QUk1.out.below hbb)
      have QGk2 := Lib.hid (QGk1.out.below hbb)
      have QAk2 := Lib.hid (QAk1.out.below hbb)
      have BBk2 := Lib.hid (belowTo BBk1.out hbb BBk1.out.size)
      clear hbb OTk1 OXk1 OQk1 SUk1 SGk1 SAk1 XUk1 XGk1 XAk1 QUk1 QGk1 QAk1 YUk1 YGk1 YAk1 BBk1 hTk10 hTk11 hTk12 hXk10 hXk11 hXk12 hQk10 hQk11 hQk12
      obtain ⟨hTk20, hTk21, hTk22, _, _⟩ := own3 OTk2.out
      obtain ⟨hXk20, hXk21, hXk22, _, _⟩ := own3 OXk2.out
      obtain ⟨hQk20, hQk21, hQk22, _, _⟩ := own3 OQk2.out
      refine hK.out _ _ (⟨hTk20, hTk21, hTk22, hXk20, hXk21, hXk22, hQk20, hQk21, hQk22⟩) ?_
      clear hK K hHeld
      intro hHeld
      try simp only [Act.put, List.setIfInBounds_toArray, List.set_cons_zero, List.set_cons_succ]
      refine wpH_one (i := 8) (by kernel_rfl) rfl (fun K hK => ?_)
      rw [if_pos (by rfl)]
      go_simp
      refine (same_lit _ _ _ _ _ _ us us (gs.filter (fun d => !decide (d.u < y))) (gs.filter (fun d => !decide (d.u < y))) ks ks _ ZUk2.out ZGk2.out ZAk2.out XUk2.out XGk2.out XAk2.out (by omega) (by have := List.length_filter_le (fun d : Gr => !decide (d.u < y)) gs; omega) (by omega) true samT_rfl).mono ?_
      rintro e wk3 ⟨rfl, hbb⟩
      have OTk3 := Lib.hid (OTk2.out.below hbb)
      have OXk3 := Lib.hid (OXk2.out.below hbb)
      have OQk3 := Lib.hid (OQk2.out.below hbb)
      have SUk3 := Lib.hid (SUk2.out.below hbb)
      have SGk3 := Lib.hid (SGk2.out.below hbb)
      have SAk3 := Lib.hid (SAk2.out.below hbb)
      have XUk3 := Lib.hid (XUk2.out.below hbb)
      have XGk3 := Lib.hid (XGk2.out.below hbb)
      have XAk3 := Lib.hid (XAk2.out.below hbb)
      have QUk3 := Lib.hid (QUk2.out.below hbb)
      have QGk3 := Lib.hid (QGk2.out.below hbb)
      have QAk3 := Lib.hid (QAk2.out.below hbb)
      have BBk3 := Lib.hid (belowTo BBk2.out hbb BBk2.out.size)
      clear hbb OTk2 OXk2 OQk2 SUk2 SGk2 SAk2 XUk2 XGk2 XAk2 QUk2 QGk2 QAk2 ZUk2 ZGk2 ZAk2 BBk2 hTk20 hTk21 hTk22 hXk20 hXk21 hXk22 hQk20 hQk21 hQk22
      obtain ⟨hTk30, hTk31, hTk32, _, _⟩ := own3 OTk3.out
      obtain ⟨hXk30, hXk31, hXk32, _, _⟩ := own3 OXk3.out
      obtain ⟨hQk30, hQk31, hQk32, _, _⟩ := own3 OQk3.out
      refine hK.out _ _ (⟨hTk30, hTk31, hTk32, hXk30, hXk31, hXk32, hQk30, hQk31, hQk32⟩) ?_
      clear hK K hHeld
      intro hHeld
      try simp only [Act.put, List.setIfInBounds_toArray, List.set_cons_zero, List.set_cons_succ]
      refine wpH_take (i := 9) (some 60) (v := ?x11v) rfl (by kernel_rfl) (by kernel_rfl) (by kernel_rfl) rfl (fun _ _ _ h => h) (Or.inl ⟨by rfl, ?x11y⟩) hHeld ?x11r
      case x11y => (intro w hSw; (try dsimp only at hSw); go_simp; try with_reducible rfl)
      try simp only [Act.put, List.setIfInBounds_toArray, List.set_cons_zero, List.set_cons_succ]
      refine wpH_take (i := 10) (some 61) (v := ?x12v) rfl (by kernel_rfl) (by kernel_rfl) (by kernel_rfl) rfl (fun _ _ _ h => h) (Or.inl ⟨by rfl, ?x12y⟩) hHeld ?x12r
      case x12y => (intro w hSw; (try dsimp only at hSw); go_simp; try with_reducible rfl)
      try simp only [Act.put, List.setIfInBounds_toArray, List.set_cons_zero, List.set_cons_succ]
      refine wpH_take (i := 11) (some 62) (v := ?x13v) rfl (by kernel_rfl) (by kernel_rfl) (by kernel_rfl) rfl (fun _ _ _ h => h) (Or.inl ⟨by rfl, ?x13y⟩) hHeld ?x13r
      case x13y => (intro w hSw; (try dsimp only at hSw); go_simp; try with_reducible rfl)
      try simp only [Act.put, List.setIfInBounds_toArray, List.set_cons_zero, List.set_cons_succ]
      refine wpH_take (i := 12) (some 63) (v := ?x14v) rfl (by kernel_rfl) (by kernel_rfl) (by kernel_rfl) rfl (fun _ _ _ h => h) (Or.inl ⟨by rfl, ?x14y⟩) hHeld ?x14r
      case x14y => (intro w hSw; (try dsimp only at hSw); go_simp; try with_reducible rfl)
      try simp only [Act.put, List.setIfInBounds_toArray, List.set_cons_zero, List.set_cons_succ]
      refine wpH_one (i := 13) (by kernel_rfl) rfl (fun K hK => ?_)
      rw [if_pos (by rfl)]
      go_simp
      refine (same_lit _ _ _ _ _ _ us us (gs.filter (fun d => !decide (d.u < y))) qs ks ks _ XUk3.out XGk3.out XAk3.out QUk3.out QGk3.out QAk3.out (by omega) (by have := List.length_filter_le (fun d : Gr => !decide (d.u < y)) gs; omega) (by omega) true (samT_iff.2 ⟨rfl, HQ2.out.symm, rfl⟩)).mono ?_
      rintro e wk4 ⟨rfl, hbb⟩
      have OTk4 := Lib.hid (OTk3.out.below hbb)
      have OXk4 := Lib.hid (OXk3.out.below hbb)
      have OQk4 := Lib.hid (OQk3.out.below hbb)
      have SUk4 := Lib.hid (SUk3.out.below hbb)
      have SGk4 := Lib.hid (SGk3.out.below hbb)
      have SAk4 := Lib.hid (SAk3.out.below hbb)
      have XUk4 := Lib.hid (XUk3.out.below hbb)
      have XGk4 := Lib.hid (XGk3.out.below hbb)
      have XAk4 := Lib.hid (XAk3.out.below hbb)
      have QUk4 := Lib.hid (QUk3.out.below hbb)
      have QGk4 := Lib.hid (QGk3.out.below hbb)
      have QAk4 := Lib.hid (QAk3.out.below hbb)
      have BBk4 := Lib.hid (belowTo BBk3.out hbb BBk3.out.size)
      clear hbb OTk3 OXk3 OQk3 SUk3 SGk3 SAk3 XUk3 XGk3 XAk3 QUk3 QGk3 QAk3 BBk3 hTk30 hTk31 hTk32 hXk30 hXk31 hXk32 hQk30 hQk31 hQk32
      obtain ⟨hTk40, hTk41, hTk42, _, _⟩ := own3 OTk4.out
      obtain ⟨hXk40, hXk41, hXk42, _, _⟩ := own3 OXk4.out
      obtain ⟨hQk40, hQk41, hQk42, _, _⟩ := own3 OQk4.out
      refine hK.out _ _ (⟨hTk40, hTk41, hTk42, hXk40, hXk41, hXk42, hQk40, hQk41, hQk42⟩) ?_
      clear hK K hHeld
      intro hHeld
      try simp only [Act.put, List.setIfInBounds_toArray, List.set_cons_zero, List.set_cons_succ]
      refine wpH_take (i := 14) (some 65) (v := ?x16v) rfl (by kernel_rfl) (by kernel_rfl) (by kernel_rfl) rfl (fun _ _ _ h => h) (Or.inl ⟨by rfl, ?x16y⟩) hHeld ?x16r
      case x16y => (intro w hSw; (try dsimp only at hSw); go_simp; try with_reducible rfl)
      try simp only [Act.put, List.setIfInBounds_toArray, List.set_cons_zero, List.set_cons_succ]
      refine wpH_take (i := 15) (some 6) (v := ?x17v) rfl (by kernel_rfl) (by kernel_rfl) (by kernel_rfl) rfl (fun _ _ _ h => h) (Or.inl ⟨by rfl, ?x17y⟩) hHeld ?x17r
      case x17y => (intro w hSw; (try dsimp only at hSw); go_simp; try with_reducible rfl)
      try simp only [Act.put, List.setIfInBounds_toArray, List.set_cons_zero, List.set_cons_succ]
      refine wpAnyH_done (by kernel_rfl) ?_ _
      have oT := OTk4.out
      have oX := OXk4.out
      have oQ := OQk4.out
      have bel := BBk4.out
      have SU := SUk4
      have SG := SGk4
      have SA := SAk4
      have XU := XUk4
      have XG := XGk4
      have XA := XAk4
      have QU := QUk4
      have QG := QGk4
      have QA := QAk4
      clear OTk4 OXk4 OQk4 BBk4 SUk4 SGk4 SAk4 XUk4 XGk4 XAk4 QUk4 QGk4 QAk4 hTk40 hTk41 hTk42 hXk40 hXk41 hXk42 hQk40 hQk41 hQk42
      obtain ⟨cT0, cT1, cT2, fT, zT⟩ := own3 oT
      obtain ⟨cX0, cX1, cX2, fX, zX⟩ := own3 oX
      obtain ⟨cQ0, cQ1, cQ2, fQ, zQ⟩ := own3 oQ
      go_wp2_with fail
      go_ret
      exact ⟨rfl, bel⟩

set_option linter.unusedSimpArgs false in
set_option linter.unusedVariables false in
set_option maxRecDepth 100000 in
set_option maxHeartbeats 2000000 in
theorem time_eq (vu vg va : Value) (us : List Us) (gs : List Gr) (ks : List Ak) (x y : Int) (w : World) (su : SlU w vu us) (sg : SlG w vg gs) (sa : SlA w va ks) (hf : fewB us gs ks = true) (hxy : x = y) : Calls Try.prog 8 #[.agg #[vu, vg, va], .int .i64 x, .int .i64 y] w fun e w' => e = .returned (.bool true) ∧ Below w.heap.size w w' := by
  have u70 : us.length ≤ 70 := (fewB_iff.1 hf).1
  have g70 : gs.length ≤ 70 := (fewB_iff.1 hf).2.1
  have k70 : ks.length ≤ 70 := (fewB_iff.1 hf).2.2
  subst hxy
  have TP := Lib.hid (time_plain gs x x)
  rw [show max x x = x by omega] at TP
  obtain ⟨pu, cu, e0, hlu, hcu, _⟩ := su.form us.length rfl
  subst e0
  obtain ⟨pg, cg, e0, hlg, hcg, _⟩ := sg.form gs.length rfl
  subst e0
  obtain ⟨pa, ca, e0, hla, hca, _⟩ := sa.form ks.length rfl
  subst e0
  have SU := Lib.hid su
  have SG := Lib.hid sg
  have SA := Lib.hid sa
  clear su sg sa
  have iu0 : (0 : Int) ≤ (us.length : Int) := Int.natCast_nonneg _
  have ig0 : (0 : Int) ≤ (gs.length : Int) := Int.natCast_nonneg _
  have ia0 : (0 : Int) ≤ (ks.length : Int) := Int.natCast_nonneg _
  have iu : (us.length : Int) ≤ 70 := by omega
  have ig : (gs.length : Int) ≤ 70 := by omega
  have ia : (ks.length : Int) ≤ 70 := by omega
  have HF := Lib.hid hf
  clear hf
  obtain ⟨i0, hi, hz, hs0, hb0⟩ := info_parts info_g
  have IF := Lib.hid (And.intro hi (And.intro hz (And.intro hs0 hb0)))
  clear hi hz hs0 hb0
  have SU00 := SU
  have SG00 := SG
  have SA00 := SA
  go_enter Try.func8, Try.ntmps8
  go_wp2_with fail
  refine (head_true _).mono ?_
  rintro e w1 ⟨rfl, hb⟩
  replace SU := Lib.hid ((SU.out.below (belowNew _ _)).below hb)
  replace SG := Lib.hid ((SG.out.below (belowNew _ _)).below hb)
  replace SA := Lib.hid ((SA.out.below (belowNew _ _)).below hb)
  have oT : Own w1 w.heap.size [.slice pu us.length cu, .slice pg gs.length cg, .slice pa ks.length ca] 26 := (own_at _ _ rfl).below hb
  have bel := belowTo ((Below.refl w.heap.size w).alloc (by simp) _) hb (by simp)
  clear hb
  obtain ⟨cT0, cT1, cT2, fT, zT⟩ := own3 oT
  go_wp2_with fail
  refine (few_lit _ _ _ us gs ks _ SU.out SG.out SA.out true HF.out).mono ?_
  rintro e w2 ⟨rfl, hb⟩
  replace oT := oT.below hb
  replace SU := Lib.hid (SU.out.below hb)
  replace SG := Lib.hid (SG.out.below hb)
  replace SA := Lib.hid (SA.out.below hb)
  replace bel := belowTo bel hb (by exact bel.size)
  clear hb
  clear cT0 cT1 cT2 fT zT
  obtain ⟨cT0, cT1, cT2, fT, zT⟩ := own3 oT
  go_wp2_with fail
  refine (exp_any _ _ _ us gs ks x _ SU.out SG.out SA.out (by omega) (by omega) (by omega)).mono ?_
  rintro e w3 ⟨vx1, vx2, vx3, rfl, z1, z2, z3, hb⟩
  replace oT := oT.below hb
  replace SU := Lib.hid (SU.out.below hb)
  replace SG := Lib.hid (SG.out.below hb)
  replace SA := Lib.hid (SA.out.below hb)
  replace bel := belowTo bel hb (by exact bel.size)
  clear hb
  clear cT0 cT1 cT2 fT zT
  obtain ⟨cT0, cT1, cT2, fT, zT⟩ := own3 oT
  have XU0 := Lib.hid z1
  have XG0 := Lib.hid z2
  have XA0 := Lib.hid z3
  clear z1 z2 z3
  obtain ⟨px1, nx1, cx1, f0⟩ := XU0.out.slc
  subst f0
  obtain ⟨px2, nx2, cx2, f0⟩ := XG0.out.slc
  subst f0
  obtain ⟨px3, nx3, cx3, f0⟩ := XA0.out.slc
  subst f0
  go_wp2_with fail
  have OTh := Lib.hid ((oT.alloc (.cells #[.slice px1 nx1 cx1, .slice px2 nx2 cx2, .slice px3 nx3 cx3] 26)).alloc (.cells #[.slice pu us.length cu, .slice none 0 0, .slice pa ks.length ca] 26))
  have OXh := Lib.hid (show Own ((w3.alloc (.cells #[.slice px1 nx1 cx1, .slice px2 nx2 cx2, .slice px3 nx3 cx3] 26)).alloc (.cells #[.slice pu us.length cu, .slice none 0 0, .slice pa ks.length ca] 26)) w3.heap.size [.slice px1 nx1 cx1, .slice px2 nx2 cx2, .slice px3 nx3 cx3] 26 from (own_at _ _ rfl).alloc _)
  have OQh := Lib.hid (show Own ((w3.alloc (.cells #[.slice px1 nx1 cx1, .slice px2 nx2 cx2, .slice px3 nx3 cx3] 26)).alloc (.cells #[.slice pu us.length cu, .slice none 0 0, .slice pa ks.length ca] 26)) (w3.heap.size + 1) [.slice pu us.length cu, .slice none 0 0, .slice pa ks.length ca] 26 from own_at _ _ (by simp))
  have B35 := Lib.hid (show Below w3.heap.size w3 ((w3.alloc (.cells #[.slice px1 nx1 cx1, .slice px2 nx2 cx2, .slice px3 nx3 cx3] 26)).alloc (.cells #[.slice pu us.length cu, .slice none 0 0, .slice pa ks.length ca] 26)) from ((Below.refl _ _).alloc (Nat.le_refl _) _).alloc (by simp) _)
  have BLh := Lib.hid (bel.trans (B35.out.mono bel.size))
  have HSZ := Lib.hid (show ((w3.alloc (.cells #[.slice px1 nx1 cx1, .slice px2 nx2 cx2, .slice px3 nx3 cx3] 26)).alloc (.cells #[.slice pu us.length cu, .slice none 0 0, .slice pa ks.length ca] 26)).heap.size = w3.heap.size + 1 + 1 by simp)
  have ltT := zT
  have hws := bel.size
  clear oT bel SU SG SA cT0 cT1 cT2 fT zT
  generalize ((w3.alloc (.cells #[.slice px1 nx1 cx1, .slice px2 nx2 cx2, .slice px3 nx3 cx3] 26)).alloc (.cells #[.slice pu us.length cu, .slice none 0 0, .slice pa ks.length ca] 26)) = w5 at OTh OXh OQh B35 BLh HSZ ⊢
  have oTq := OTh.out
  have oXq := OXh.out
  have oQq := OQh.out
  obtain ⟨cT0, cT1, cT2, fT, zT⟩ := own3 oTq
  obtain ⟨cX0, cX1, cX2, fX, zX⟩ := own3 oXq
  obtain ⟨cQ0, cQ1, cQ2, fQ, zQ⟩ := own3 oQq
  clear oTq oXq oQq
  go_loopw [30] (fun ii wr => ∃ (i : Nat) (row : Value) (qs : List Gr), i ≤ gs.length ∧ ii = .int .i64 i ∧ qs = (gs.take i).filter (fun d => decide (x ≤ d.u) && decide (x ≤ d.u)) ∧ Own wr (w3.heap.size + 1) [.slice pu us.length cu, row, .slice pa ks.length ca] 26 ∧ wr.ownsRow w5.heap.size 34 5 row qs.length (flatT grL qs) ∧ Below (w3.heap.size + 1) w5 wr) (fun i _ => gs.length - (intOf i).toNat)
  case atStart => exact ⟨0, _, [], by omega, rfl, rfl, OQh.out, World.ownsRow_nil _ _ _ _, Below.refl _ _⟩
  case round =>
    clear cT0 cT1 cT2 fT zT cX0 cX1 cX2 fX zX cQ0 cQ1 cQ2 fQ zQ
    obtain ⟨i, row, qs, hi, rfl, hq, hoq, hown, bel5⟩ := hrel
    have HQ := Lib.hid hq
    have hql : qs.length ≤ 70 := by have h1 := List.length_filter_le (fun d : Gr => decide (x ≤ d.u) && decide (x ≤ d.u)) (gs.take i); have h2 := List.length_take_le' i gs; rw [← hq] at h1; omega
    have HOQ := Lib.hid hoq
    have HOWN := Lib.hid hown
    have BE := Lib.hid bel5
    have wz := BE.out.size
    have wz5 := HSZ.out
    clear hq hoq hown bel5
    have j0 : (0 : Int) ≤ (i : Int) := Int.natCast_nonneg _
    have oTr := Lib.hid (own_belowB OTh.out BE.out (by omega))
    have oXr := Lib.hid (own_belowB OXh.out BE.out (by omega))
    obtain ⟨t0, t1, t2, fT, zT⟩ := own3 oTr.out
    obtain ⟨q0, q1, q2, fQ, zQ⟩ := own3 HOQ.out
    have BELr := Lib.hid (show Below w.heap.size w wr from BLh.out.trans (BE.out.mono (by omega)))
    by_cases hlt : i < gs.length
    · obtain ⟨d, b, off, hd, rfl, hbl, _, d0, d1, d2, d3, d4⟩ := SG00.out.atG BELr.out hlt
      have j1 : (i : Int) < (gs.length : Int) := by omega
      have HD := Lib.hid (take_filtG (p := fun d : Gr => decide (x ≤ d.u) && decide (x ≤ d.u)) hd)
      clear hd
      have oE := Lib.hid (own_at (w := wr) [.int .i64 d.s, .int .i64 d.o, .int .i64 d.p, .int .i64 d.m, .int .i64 d.u] 34 rfl)
      have HOQ1 := Lib.hid (HOQ.out.alloc (.cells #[.int .i64 d.s, .int .i64 d.o, .int .i64 d.p, .int .i64 d.m, .int .i64 d.u] 34))
      have HOW1 := Lib.hid (HOWN.out.alloc (.cells #[.int .i64 d.s, .int .i64 d.o, .int .i64 d.p, .int .i64 d.m, .int .i64 d.u] 34))
      have BE1 := Lib.hid (BE.out.alloc (by omega) (.cells #[.int .i64 d.s, .int .i64 d.o, .int .i64 d.p, .int .i64 d.m, .int .i64 d.u] 34))
      obtain ⟨e0, e1, e2, e3, e4, fE, zE⟩ := own5 oE.out
      obtain ⟨k0, k1, k2, fK, zK⟩ := own3 HOQ1.out
      by_cases g1 : x ≤ d.u
      · have g2 := g1
        go_wp2_with (at_builtin; refine wpList_append_own _ rfl _ _ 23 rfl w5.heap.size 34 i0 _ 5 40 (by kernel_rfl) IF.out.1 IF.out.2.1 IF.out.2.2.1 IF.out.2.2.2 rfl (by decide) row qs.length (flatT grL qs) rfl (HOW1.out.alloc _) _ 1 1 (grL.f d) rfl rfl (newsTn (L := grL) (w := (wr.alloc (.cells #[.int .i64 d.s, .int .i64 d.o, .int .i64 d.p, .int .i64 d.m, .int .i64 d.u] 34))) (by first | rfl | simp) d 34) (grL.one _) ?qc4 ?qc5 ?qc6 ?_)
        case qc4 => unfold maxLen; omega
        case qc5 => omega
        case qc6 => have := BE1.out.size; simp at this ⊢; omega
        intro v2 w2 hown hgrow hnil
        have HG := Lib.hid (show ∀ k, row.ownBlock = some k → (w3.heap.size + 1) < k from fun k hk => by have := (HOWN.out.lt k hk).1; omega)
        have B2 := Lib.hid ((BE1.out.alloc (by have := BE1.out.size; omega) _).grown hgrow (by have := BE1.out.size; simp at this ⊢; omega) (fun k hk => by have := HG.out k hk; omega))
        have Q2 := Lib.hid (own_grown (HOQ1.out.alloc _) hgrow HG.out)
        obtain ⟨p2, n2, c2, f0⟩ := own_slc hown
        subst f0
        have H2 := Lib.hid hown
        clear hown hgrow hnil
        obtain ⟨u0, u1, u2, fU, zU⟩ := own3 Q2.out
        go_wp2_with fail
        have Q3 := Lib.hid (Q2.out.set 1 (.slice p2 n2 c2))
        have B3 := Lib.hid (B2.out.setCell (p := ⟨(w3.heap.size + 1), 1, none⟩) (by simp) (.slice p2 n2 c2))
        have H3 := Lib.hid (row_set H2.out (b := (w3.heap.size + 1)) (by omega) 1 (.slice p2 n2 c2))
        go_roundw
        case rel => exact ⟨i + 1, .slice p2 n2 c2, qs ++ [d], by omega, by go_num, by rw [HD.out, HQ.out]; simp [g1, g2], Q3.out, by have := H3.out; rw [flatT_append, flatT_one]; simpa [wz5] using this, B3.out⟩
        case measure => simp [intOf]; omega
      · go_wp2_with fail
        go_roundw
        case rel => exact ⟨i + 1, row, qs, by omega, by go_num, by rw [HD.out, HQ.out]; simp [g1], HOQ1.out, HOW1.out, BE1.out⟩
        case measure => simp [intOf]; omega
    · have hql2 : qs = (gs.filter (fun d => !decide (d.u < x))) := by have h := HQ.out; rw [List.take_of_length_le (by omega)] at h; exact h.trans TP.out.2
      have HQ2 := Lib.hid hql2
      have QG := Lib.hid (slt_of_own (L := grL) HOWN.out)
      clear hql2 HQ HOWN
      obtain ⟨pq, nq, cq, f0⟩ := QG.out.slc
      subst f0
      have QU := Lib.hid (SU00.out.below BELr.out)
      have QA := Lib.hid (SA00.out.below BELr.out)
      have oT := oTr.out
      have oX := oXr.out
      have oQ := HOQ.out
      have bel := BELr.out
      have XU := Lib.hid (slt_belowB XU0.out B35.out BE.out (by omega))
      have XG := Lib.hid (slt_belowB XG0.out B35.out BE.out (by omega))
      have XA := Lib.hid (slt_belowB XA0.out B35.out BE.out (by omega))
      have SU := Lib.hid (SU00.out.below BELr.out)
      have SG := Lib.hid (SG00.out.below BELr.out)
      have SA := Lib.hid (SA00.out.below BELr.out)
      clear t0 t1 t2 fT zT q0 q1 q2 fQ zQ oTr oXr HOQ
      obtain ⟨cT0, cT1, cT2, fT, zT⟩ := own3 oT
      obtain ⟨cX0, cX1, cX2, fX, zX⟩ := own3 oX
      obtain ⟨cQ0, cQ1, cQ2, fQ, zQ⟩ := own3 oQ
      go_wp2_with fail
      have OTk0 := Lib.hid oT.drew
      have OXk0 := Lib.hid oX.drew
      have OQk0 := Lib.hid oQ.drew
      have BBk0 := Lib.hid bel.drew
      have SUk0 := Lib.hid (SU.out.below (Below.refl _ _).drew)
      have SGk0 := Lib.hid (SG.out.below (Below.refl _ _).drew)
      have SAk0 := Lib.hid (SA.out.below (Below.refl _ _).drew)
      have XUk0 := Lib.hid (XU.out.below (Below.refl _ _).drew)
      have XGk0 := Lib.hid (XG.out.below (Below.refl _ _).drew)
      have XAk0 := Lib.hid (XA.out.below (Below.refl _ _).drew)
      have QUk0 := Lib.hid (QU.out.below (Below.refl _ _).drew)
      have QGk0 := Lib.hid (QG.out.below (Below.refl _ _).drew)
      have QAk0 := Lib.hid (QA.out.below (Below.refl _ _).drew)
      clear oT cT0 cT1 cT2 fT zT oX cX0 cX1 cX2 fX zX oQ cQ0 cQ1 cQ2 fQ zQ
      clear bel SU SG SA XU XG XA QU QG QA
      obtain ⟨hTk00, hTk01, hTk02, _, _⟩ := own3 OTk0.out
      obtain ⟨hXk00, hXk01, hXk02, _, _⟩ := own3 OXk0.out
      obtain ⟨hQk00, hQk01, hQk02, _, _⟩ := own3 OQk0.out
      refine region_H 16 #[false, false, false, false, false, false, false, false, false, false, false, false, false, false, false, false] (by kernel_rfl) (by kernel_rfl) (fun w' => w'.cell? ⟨w.heap.size, 0, none⟩ = some (.slice pu us.length cu) ∧ w'.cell? ⟨w.heap.size, 1, none⟩ = some (.slice pg gs.length cg) ∧ w'.cell? ⟨w.heap.size, 2, none⟩ = some (.slice pa ks.length ca) ∧ w'.cell? ⟨w3.heap.size, 0, none⟩ = some (.slice px1 nx1 cx1) ∧ w'.cell? ⟨w3.heap.size, 1, none⟩ = some (.slice px2 nx2 cx2) ∧ w'.cell? ⟨w3.heap.size, 2, none⟩ = some (.slice px3 nx3 cx3) ∧ w'.cell? ⟨(w3.heap.size + 1), 0, none⟩ = some (.slice pu us.length cu) ∧ w'.cell? ⟨(w3.heap.size + 1), 1, none⟩ = some (.slice pq nq cq) ∧ w'.cell? ⟨(w3.heap.size + 1), 2, none⟩ = some (.slice pa ks.length ca)) (by kernel_rfl) ?x18s (fun hHeld => ?x18r)
      case x18s => exact ⟨hTk00, hTk01, hTk02, hXk00, hXk01, hXk02, hQk00, hQk01, hQk02⟩
      refine wpH_take (i := 0) (some 51) (v := ?x19v) rfl (by kernel_rfl) (by kernel_rfl) (by kernel_rfl) rfl (fun _ _ _ h => h) (Or.inl ⟨by rfl, ?x19y⟩) hHeld ?x19r
      case x19y => (intro w hSw; (try dsimp only at hSw); go_simp; try with_reducible rfl)
      try simp only [Act.put, List.setIfInBounds_toArray, List.set_cons_zero, List.set_cons_succ]
      refine wpH_take (i := 1) (some 52) (v := ?x20v) rfl (by kernel_rfl) (by kernel_rfl) (by kernel_rfl) rfl (fun _ _ _ h => h) (Or.inl ⟨by rfl, ?x20y⟩) hHeld ?x20r
      case x20y => (intro w hSw; (try dsimp only at hSw); go_simp; try with_reducible rfl)
      try simp only [Act.put, List.setIfInBounds_toArray, List.set_cons_zero, List.set_cons_succ]
      refine wpH_take (i := 2) (some 53) (v := ?x21v) rfl (by kernel_rfl) (by kernel_rfl) (by kernel_rfl) rfl (fun _ _ _ h => h) (Or.inl ⟨by rfl, ?x21y⟩) hHeld ?x21r
      case x21y => (intro w hSw; (try dsimp only at hSw); go_simp; try with_reducible rfl)
      try simp only [Act.put, List.setIfInBounds_toArray, List.set_cons_zero, List.set_cons_succ]
      refine wpH_take (i := 3) (some 54) (v := ?x22v) rfl (by kernel_rfl) (by kernel_rfl) (by kernel_rfl) rfl (fun _ _ _ h => h) (Or.inl ⟨by rfl, ?x22y⟩) hHeld ?x22r
      case x22y => (intro w hSw; (try dsimp only at hSw); go_simp; try with_reducible rfl)
      try simp only [Act.put, List.setIfInBounds_toArray, List.set_cons_zero, List.set_cons_succ]
      refine wpH_take (i := 5) (some 56) (v := ?x23v) rfl (by kernel_rfl) (by kernel_rfl) (by kernel_rfl) rfl (fun _ _ _ h => h) (Or.inl ⟨by rfl, ?x23y⟩) hHeld ?x23r
      case x23y => (intro w hSw; (try dsimp only at hSw); go_simp; try with_reducible rfl)
      try simp only [Act.put, List.setIfInBounds_toArray, List.set_cons_zero, List.set_cons_succ]
      refine wpH_take (i := 7) (some 58) (v := ?x24v) rfl (by kernel_rfl) (by kernel_rfl) (by kernel_rfl) rfl (fun _ _ _ h => h) (Or.inl ⟨by rfl, ?x24y⟩) hHeld ?x24r
      case x24y => (intro w hSw; (try dsimp only at hSw); go_simp; try with_reducible rfl)
      try simp only [Act.put, List.setIfInBounds_toArray, List.set_cons_zero, List.set_cons_succ]
      refine wpH_one (i := 4) (by kernel_rfl) rfl (fun K hK => ?_)
      rw [if_pos (by rfl)]
      go_simp
      refine (exp_any _ _ _ us gs ks x _ SUk0.out SGk0.out SAk0.out (by omega) (by omega) (by omega)).mono ?_
      rintro e wk1 ⟨vy1, vy2, vy3, rfl, z1, z2, z3, hbb⟩
      have YUk1 := Lib.hid (show SlU wk1 vy1 us from z1)
      obtain ⟨pvy1, nvy1, cvy1, f0⟩ := YUk1.out.slc
      subst f0
      have YGk1 := Lib.hid (show SlG wk1 vy2 (gs.filter (fun d => !decide (d.u < x))) from z2)
      obtain ⟨pvy2, nvy2, cvy2, f0⟩ := YGk1.out.slc
      subst f0
      have YAk1 := Lib.hid (show SlA wk1 vy3 ks from z3)
      obtain ⟨pvy3, nvy3, cvy3, f0⟩ := YAk1.out.slc
      subst f0
      have OTk1 := Lib.hid (OTk0.out.below hbb)
      have OXk1 := Lib.hid (OXk0.out.below hbb)
      have OQk1 := Lib.hid (OQk0.out.below hbb)
      have SUk1 := Lib.hid (SUk0.out.below hbb)
      have SGk1 := Lib.hid (SGk0.out.below hbb)
      have SAk1 := Lib.hid (SAk0.out.below hbb)
      have XUk1 := Lib.hid (XUk0.out.below hbb)
      have XGk1 := Lib.hid (XGk0.out.below hbb)
      have XAk1 := Lib.hid (XAk0.out.below hbb)
      have QUk1 := Lib.hid (QUk0.out.below hbb)
      have QGk1 := Lib.hid (QGk0.out.below hbb)
      have QAk1 := Lib.hid (QAk0.out.below hbb)
      have BBk1 := Lib.hid (belowTo BBk0.out hbb BBk0.out.size)
      clear hbb OTk0 OXk0 OQk0 SUk0 SGk0 SAk0 XUk0 XGk0 XAk0 QUk0 QGk0 QAk0 BBk0 hTk00 hTk01 hTk02 hXk00 hXk01 hXk02 hQk00 hQk01 hQk02
      obtain ⟨hTk10, hTk11, hTk12, _, _⟩ := own3 OTk1.out
      obtain ⟨hXk10, hXk11, hXk12, _, _⟩ := own3 OXk1.out
      obtain ⟨hQk10, hQk11, hQk12, _, _⟩ := own3 OQk1.out
      refine hK.out _ _ (⟨hTk10, hTk11, hTk12, hXk10, hXk11, hXk12, hQk10, hQk11, hQk12⟩) ?_
      clear hK K hHeld
      intro hHeld
      try simp only [Act.put, List.setIfInBounds_toArray, List.set_cons_zero, List.set_cons_succ]
      refine wpH_one (i := 6) (by kernel_rfl) rfl (fun K hK => ?_)
      rw [if_pos (by rfl)]
      go_simp
      refine (exp_any _ _ _ us (gs.filter (fun d => !decide (d.u < x))) ks x _ YUk1.out YGk1.out YAk1.out (by omega) (by have := List.length_filter_le (fun d : Gr => !decide (d.u < x)) gs; omega) (by omega)).mono ?_
      rintro e wk2 ⟨vz1, vz2, vz3, rfl, z1, z2, z3, hbb⟩
      have ZUk2 := Lib.hid (show SlU wk2 vz1 us from z1)
      obtain ⟨pvz1, nvz1, cvz1, f0⟩ := ZUk2.out.slc
      subst f0
      have ZGk2 := Lib.hid (show SlG wk2 vz2 (gs.filter (fun d => !decide (d.u < x))) from by rw [TP.out.1] at z2; exact z2)
      obtain ⟨pvz2, nvz2, cvz2, f0⟩ := ZGk2.out.slc
      subst f0
      have ZAk2 := Lib.hid (show SlA wk2 vz3 ks from z3)
      obtain ⟨pvz3, nvz3, cvz3, f0⟩ := ZAk2.out.slc
      subst f0
      have OTk2 := Lib.hid (OTk1.out.below hbb)
      have OXk2 := Lib.hid (OXk1.out.below hbb)
      have OQk2 := Lib.hid (OQk1.out.below hbb)
      have SUk2 := Lib.hid (SUk1.out.below hbb)
      have SGk2 := Lib.hid (SGk1.out.below hbb)
      have SAk2 := Lib.hid (SAk1.out.below hbb)
      have XUk2 := Lib.hid (XUk1.out.below hbb)
      have XGk2 := Lib.hid (XGk1.out.below hbb)
      have XAk2 := Lib.hid (XAk1.out.below hbb)
      have QUk2 := Lib.hid (QUk1.out.below hbb)
      have QGk2 := Lib.hid (QGk1.out.below hbb)
      have QAk2 := Lib.hid (QAk1.out.below hbb)
      have BBk2 := Lib.hid (belowTo BBk1.out hbb BBk1.out.size)
      clear hbb OTk1 OXk1 OQk1 SUk1 SGk1 SAk1 XUk1 XGk1 XAk1 QUk1 QGk1 QAk1 YUk1 YGk1 YAk1 BBk1 hTk10 hTk11 hTk12 hXk10 hXk11 hXk12 hQk10 hQk11 hQk12
      obtain ⟨hTk20, hTk21, hTk22, _, _⟩ := own3 OTk2.out
      obtain ⟨hXk20, hXk21, hXk22, _, _⟩ := own3 OXk2.out
      obtain ⟨hQk20, hQk21, hQk22, _, _⟩ := own3 OQk2.out
      refine hK.out _ _ (⟨hTk20, hTk21, hTk22, hXk20, hXk21, hXk22, hQk20, hQk21, hQk22⟩) ?_
      clear hK K hHeld
      intro hHeld
      try simp only [Act.put, List.setIfInBounds_toArray, List.set_cons_zero, List.set_cons_succ]
      refine wpH_one (i := 8) (by kernel_rfl) rfl (fun K hK => ?_)
      rw [if_pos (by rfl)]
      go_simp
      refine (same_lit _ _ _ _ _ _ us us (gs.filter (fun d => !decide (d.u < x))) (gs.filter (fun d => !decide (d.u < x))) ks ks _ ZUk2.out ZGk2.out ZAk2.out XUk2.out XGk2.out XAk2.out (by omega) (by have := List.length_filter_le (fun d : Gr => !decide (d.u < x)) gs; omega) (by omega) true samT_rfl).mono ?_
      rintro e wk3 ⟨rfl, hbb⟩
      have OTk3 := Lib.hid (OTk2.out.below hbb)
      have OXk3 := Lib.hid (OXk2.out.below hbb)
      have OQk3 := Lib.hid (OQk2.out.below hbb)
      have SUk3 := Lib.hid (SUk2.out.below hbb)
      have SGk3 := Lib.hid (SGk2.out.below hbb)
      have SAk3 := Lib.hid (SAk2.out.below hbb)
      have XUk3 := Lib.hid (XUk2.out.below hbb)
      have XGk3 := Lib.hid (XGk2.out.below hbb)
      have XAk3 := Lib.hid (XAk2.out.below hbb)
      have QUk3 := Lib.hid (QUk2.out.below hbb)
      have QGk3 := Lib.hid (QGk2.out.below hbb)
      have QAk3 := Lib.hid (QAk2.out.below hbb)
      have BBk3 := Lib.hid (belowTo BBk2.out hbb BBk2.out.size)
      clear hbb OTk2 OXk2 OQk2 SUk2 SGk2 SAk2 XUk2 XGk2 XAk2 QUk2 QGk2 QAk2 ZUk2 ZGk2 ZAk2 BBk2 hTk20 hTk21 hTk22 hXk20 hXk21 hXk22 hQk20 hQk21 hQk22
      obtain ⟨hTk30, hTk31, hTk32, _, _⟩ := own3 OTk3.out
      obtain ⟨hXk30, hXk31, hXk32, _, _⟩ := own3 OXk3.out
      obtain ⟨hQk30, hQk31, hQk32, _, _⟩ := own3 OQk3.out
      refine hK.out _ _ (⟨hTk30, hTk31, hTk32, hXk30, hXk31, hXk32, hQk30, hQk31, hQk32⟩) ?_
      clear hK K hHeld
      intro hHeld
      try simp only [Act.put, List.setIfInBounds_toArray, List.set_cons_zero, List.set_cons_succ]
      refine wpH_take (i := 9) (some 60) (v := ?x28v) rfl (by kernel_rfl) (by kernel_rfl) (by kernel_rfl) rfl (fun _ _ _ h => h) (Or.inl ⟨by rfl, ?x28y⟩) hHeld ?x28r
      case x28y => (intro w hSw; (try dsimp only at hSw); go_simp; try with_reducible rfl)
      try simp only [Act.put, List.setIfInBounds_toArray, List.set_cons_zero, List.set_cons_succ]
      refine wpH_take (i := 10) (some 61) (v := ?x29v) rfl (by kernel_rfl) (by kernel_rfl) (by kernel_rfl) rfl (fun _ _ _ h => h) (Or.inl ⟨by rfl, ?x29y⟩) hHeld ?x29r
      case x29y => (intro w hSw; (try dsimp only at hSw); go_simp; try with_reducible rfl)
      try simp only [Act.put, List.setIfInBounds_toArray, List.set_cons_zero, List.set_cons_succ]
      refine wpH_take (i := 11) (some 62) (v := ?x30v) rfl (by kernel_rfl) (by kernel_rfl) (by kernel_rfl) rfl (fun _ _ _ h => h) (Or.inl ⟨by rfl, ?x30y⟩) hHeld ?x30r
      case x30y => (intro w hSw; (try dsimp only at hSw); go_simp; try with_reducible rfl)
      try simp only [Act.put, List.setIfInBounds_toArray, List.set_cons_zero, List.set_cons_succ]
      refine wpH_take (i := 12) (some 63) (v := ?x31v) rfl (by kernel_rfl) (by kernel_rfl) (by kernel_rfl) rfl (fun _ _ _ h => h) (Or.inl ⟨by rfl, ?x31y⟩) hHeld ?x31r
      case x31y => (intro w hSw; (try dsimp only at hSw); go_simp; try with_reducible rfl)
      try simp only [Act.put, List.setIfInBounds_toArray, List.set_cons_zero, List.set_cons_succ]
      refine wpH_one (i := 13) (by kernel_rfl) rfl (fun K hK => ?_)
      rw [if_pos (by rfl)]
      go_simp
      refine (same_lit _ _ _ _ _ _ us us (gs.filter (fun d => !decide (d.u < x))) qs ks ks _ XUk3.out XGk3.out XAk3.out QUk3.out QGk3.out QAk3.out (by omega) (by have := List.length_filter_le (fun d : Gr => !decide (d.u < x)) gs; omega) (by omega) true (samT_iff.2 ⟨rfl, HQ2.out.symm, rfl⟩)).mono ?_
      rintro e wk4 ⟨rfl, hbb⟩
      have OTk4 := Lib.hid (OTk3.out.below hbb)
      have OXk4 := Lib.hid (OXk3.out.below hbb)
      have OQk4 := Lib.hid (OQk3.out.below hbb)
      have SUk4 := Lib.hid (SUk3.out.below hbb)
      have SGk4 := Lib.hid (SGk3.out.below hbb)
      have SAk4 := Lib.hid (SAk3.out.below hbb)
      have XUk4 := Lib.hid (XUk3.out.below hbb)
      have XGk4 := Lib.hid (XGk3.out.below hbb)
      have XAk4 := Lib.hid (XAk3.out.below hbb)
      have QUk4 := Lib.hid (QUk3.out.below hbb)
      have QGk4 := Lib.hid (QGk3.out.below hbb)
      have QAk4 := Lib.hid (QAk3.out.below hbb)
      have BBk4 := Lib.hid (belowTo BBk3.out hbb BBk3.out.size)
      clear hbb OTk3 OXk3 OQk3 SUk3 SGk3 SAk3 XUk3 XGk3 XAk3 QUk3 QGk3 QAk3 BBk3 hTk30 hTk31 hTk32 hXk30 hXk31 hXk32 hQk30 hQk31 hQk32
      obtain ⟨hTk40, hTk41, hTk42, _, _⟩ := own3 OTk4.out
      obtain ⟨hXk40, hXk41, hXk42, _, _⟩ := own3 OXk4.out
      obtain ⟨hQk40, hQk41, hQk42, _, _⟩ := own3 OQk4.out
      refine hK.out _ _ (⟨hTk40, hTk41, hTk42, hXk40, hXk41, hXk42, hQk40, hQk41, hQk42⟩) ?_
      clear hK K hHeld
      intro hHeld
      try simp only [Act.put, List.setIfInBounds_toArray, List.set_cons_zero, List.set_cons_succ]
      refine wpH_take (i := 14) (some 65) (v := ?x33v) rfl (by kernel_rfl) (by kernel_rfl) (by kernel_rfl) rfl (fun _ _ _ h => h) (Or.inl ⟨by rfl, ?x33y⟩) hHeld ?x33r
      case x33y => (intro w hSw; (try dsimp only at hSw); go_simp; try with_reducible rfl)
      try simp only [Act.put, List.setIfInBounds_toArray, List.set_cons_zero, List.set_cons_succ]
      refine wpH_take (i := 15) (some 6) (v := ?x34v) rfl (by kernel_rfl) (by kernel_rfl) (by kernel_rfl) rfl (fun _ _ _ h => h) (Or.inl ⟨by rfl, ?x34y⟩) hHeld ?x34r
      case x34y => (intro w hSw; (try dsimp only at hSw); go_simp; try with_reducible rfl)
      try simp only [Act.put, List.setIfInBounds_toArray, List.set_cons_zero, List.set_cons_succ]
      refine wpAnyH_done (by kernel_rfl) ?_ _
      have oT := OTk4.out
      have oX := OXk4.out
      have oQ := OQk4.out
      have bel := BBk4.out
      have SU := SUk4
      have SG := SGk4
      have SA := SAk4
      have XU := XUk4
      have XG := XGk4
      have XA := XAk4
      have QU := QUk4
      have QG := QGk4
      have QA := QAk4
      clear OTk4 OXk4 OQk4 BBk4 SUk4 SGk4 SAk4 XUk4 XGk4 XAk4 QUk4 QGk4 QAk4 hTk40 hTk41 hTk42 hXk40 hXk41 hXk42 hQk40 hQk41 hQk42
      obtain ⟨cT0, cT1, cT2, fT, zT⟩ := own3 oT
      obtain ⟨cX0, cX1, cX2, fX, zX⟩ := own3 oX
      obtain ⟨cQ0, cQ1, cQ2, fQ, zQ⟩ := own3 oQ
      go_wp2_with fail
      go_ret
      exact ⟨rfl, bel⟩

set_option linter.unusedSimpArgs false in
set_option linter.unusedVariables false in
set_option maxRecDepth 100000 in
set_option maxHeartbeats 2000000 in
theorem time_gt (vu vg va : Value) (us : List Us) (gs : List Gr) (ks : List Ak) (x y : Int) (w : World) (su : SlU w vu us) (sg : SlG w vg gs) (sa : SlA w va ks) (hf : fewB us gs ks = true) (hxy : y < x) : Calls Try.prog 8 #[.agg #[vu, vg, va], .int .i64 x, .int .i64 y] w fun e w' => e = .returned (.bool true) ∧ Below w.heap.size w w' := by
  have u70 : us.length ≤ 70 := (fewB_iff.1 hf).1
  have g70 : gs.length ≤ 70 := (fewB_iff.1 hf).2.1
  have k70 : ks.length ≤ 70 := (fewB_iff.1 hf).2.2
  have TP := Lib.hid (time_plain gs x y)
  rw [show max x y = x by omega] at TP
  have m1 : ¬ x < y := by omega
  have m2 : y ≤ x := by omega
  have m3 : max x y = x := by omega
  obtain ⟨pu, cu, e0, hlu, hcu, _⟩ := su.form us.length rfl
  subst e0
  obtain ⟨pg, cg, e0, hlg, hcg, _⟩ := sg.form gs.length rfl
  subst e0
  obtain ⟨pa, ca, e0, hla, hca, _⟩ := sa.form ks.length rfl
  subst e0
  have SU := Lib.hid su
  have SG := Lib.hid sg
  have SA := Lib.hid sa
  clear su sg sa
  have iu0 : (0 : Int) ≤ (us.length : Int) := Int.natCast_nonneg _
  have ig0 : (0 : Int) ≤ (gs.length : Int) := Int.natCast_nonneg _
  have ia0 : (0 : Int) ≤ (ks.length : Int) := Int.natCast_nonneg _
  have iu : (us.length : Int) ≤ 70 := by omega
  have ig : (gs.length : Int) ≤ 70 := by omega
  have ia : (ks.length : Int) ≤ 70 := by omega
  have HF := Lib.hid hf
  clear hf
  obtain ⟨i0, hi, hz, hs0, hb0⟩ := info_parts info_g
  have IF := Lib.hid (And.intro hi (And.intro hz (And.intro hs0 hb0)))
  clear hi hz hs0 hb0
  have SU00 := SU
  have SG00 := SG
  have SA00 := SA
  go_enter Try.func8, Try.ntmps8
  go_wp2_with fail
  refine (head_true _).mono ?_
  rintro e w1 ⟨rfl, hb⟩
  replace SU := Lib.hid ((SU.out.below (belowNew _ _)).below hb)
  replace SG := Lib.hid ((SG.out.below (belowNew _ _)).below hb)
  replace SA := Lib.hid ((SA.out.below (belowNew _ _)).below hb)
  have oT : Own w1 w.heap.size [.slice pu us.length cu, .slice pg gs.length cg, .slice pa ks.length ca] 26 := (own_at _ _ rfl).below hb
  have bel := belowTo ((Below.refl w.heap.size w).alloc (by simp) _) hb (by simp)
  clear hb
  obtain ⟨cT0, cT1, cT2, fT, zT⟩ := own3 oT
  go_wp2_with fail
  refine (few_lit _ _ _ us gs ks _ SU.out SG.out SA.out true HF.out).mono ?_
  rintro e w2 ⟨rfl, hb⟩
  replace oT := oT.below hb
  replace SU := Lib.hid (SU.out.below hb)
  replace SG := Lib.hid (SG.out.below hb)
  replace SA := Lib.hid (SA.out.below hb)
  replace bel := belowTo bel hb (by exact bel.size)
  clear hb
  clear cT0 cT1 cT2 fT zT
  obtain ⟨cT0, cT1, cT2, fT, zT⟩ := own3 oT
  go_wp2_with fail
  refine (exp_any _ _ _ us gs ks x _ SU.out SG.out SA.out (by omega) (by omega) (by omega)).mono ?_
  rintro e w3 ⟨vx1, vx2, vx3, rfl, z1, z2, z3, hb⟩
  replace oT := oT.below hb
  replace SU := Lib.hid (SU.out.below hb)
  replace SG := Lib.hid (SG.out.below hb)
  replace SA := Lib.hid (SA.out.below hb)
  replace bel := belowTo bel hb (by exact bel.size)
  clear hb
  clear cT0 cT1 cT2 fT zT
  obtain ⟨cT0, cT1, cT2, fT, zT⟩ := own3 oT
  have XU0 := Lib.hid z1
  have XG0 := Lib.hid z2
  have XA0 := Lib.hid z3
  clear z1 z2 z3
  obtain ⟨px1, nx1, cx1, f0⟩ := XU0.out.slc
  subst f0
  obtain ⟨px2, nx2, cx2, f0⟩ := XG0.out.slc
  subst f0
  obtain ⟨px3, nx3, cx3, f0⟩ := XA0.out.slc
  subst f0
  go_wp2_with fail
  have OTh := Lib.hid ((oT.alloc (.cells #[.slice px1 nx1 cx1, .slice px2 nx2 cx2, .slice px3 nx3 cx3] 26)).alloc (.cells #[.slice pu us.length cu, .slice none 0 0, .slice pa ks.length ca] 26))
  have OXh := Lib.hid (show Own ((w3.alloc (.cells #[.slice px1 nx1 cx1, .slice px2 nx2 cx2, .slice px3 nx3 cx3] 26)).alloc (.cells #[.slice pu us.length cu, .slice none 0 0, .slice pa ks.length ca] 26)) w3.heap.size [.slice px1 nx1 cx1, .slice px2 nx2 cx2, .slice px3 nx3 cx3] 26 from (own_at _ _ rfl).alloc _)
  have OQh := Lib.hid (show Own ((w3.alloc (.cells #[.slice px1 nx1 cx1, .slice px2 nx2 cx2, .slice px3 nx3 cx3] 26)).alloc (.cells #[.slice pu us.length cu, .slice none 0 0, .slice pa ks.length ca] 26)) (w3.heap.size + 1) [.slice pu us.length cu, .slice none 0 0, .slice pa ks.length ca] 26 from own_at _ _ (by simp))
  have B35 := Lib.hid (show Below w3.heap.size w3 ((w3.alloc (.cells #[.slice px1 nx1 cx1, .slice px2 nx2 cx2, .slice px3 nx3 cx3] 26)).alloc (.cells #[.slice pu us.length cu, .slice none 0 0, .slice pa ks.length ca] 26)) from ((Below.refl _ _).alloc (Nat.le_refl _) _).alloc (by simp) _)
  have BLh := Lib.hid (bel.trans (B35.out.mono bel.size))
  have HSZ := Lib.hid (show ((w3.alloc (.cells #[.slice px1 nx1 cx1, .slice px2 nx2 cx2, .slice px3 nx3 cx3] 26)).alloc (.cells #[.slice pu us.length cu, .slice none 0 0, .slice pa ks.length ca] 26)).heap.size = w3.heap.size + 1 + 1 by simp)
  have ltT := zT
  have hws := bel.size
  clear oT bel SU SG SA cT0 cT1 cT2 fT zT
  generalize ((w3.alloc (.cells #[.slice px1 nx1 cx1, .slice px2 nx2 cx2, .slice px3 nx3 cx3] 26)).alloc (.cells #[.slice pu us.length cu, .slice none 0 0, .slice pa ks.length ca] 26)) = w5 at OTh OXh OQh B35 BLh HSZ ⊢
  have oTq := OTh.out
  have oXq := OXh.out
  have oQq := OQh.out
  obtain ⟨cT0, cT1, cT2, fT, zT⟩ := own3 oTq
  obtain ⟨cX0, cX1, cX2, fX, zX⟩ := own3 oXq
  obtain ⟨cQ0, cQ1, cQ2, fQ, zQ⟩ := own3 oQq
  clear oTq oXq oQq
  go_loopw [30] (fun ii wr => ∃ (i : Nat) (row : Value) (qs : List Gr), i ≤ gs.length ∧ ii = .int .i64 i ∧ qs = (gs.take i).filter (fun d => decide (x ≤ d.u) && decide (y ≤ d.u)) ∧ Own wr (w3.heap.size + 1) [.slice pu us.length cu, row, .slice pa ks.length ca] 26 ∧ wr.ownsRow w5.heap.size 34 5 row qs.length (flatT grL qs) ∧ Below (w3.heap.size + 1) w5 wr) (fun i _ => gs.length - (intOf i).toNat)
  case atStart => exact ⟨0, _, [], by omega, rfl, rfl, OQh.out, World.ownsRow_nil _ _ _ _, Below.refl _ _⟩
  case round =>
    clear cT0 cT1 cT2 fT zT cX0 cX1 cX2 fX zX cQ0 cQ1 cQ2 fQ zQ
    obtain ⟨i, row, qs, hi, rfl, hq, hoq, hown, bel5⟩ := hrel
    have HQ := Lib.hid hq
    have hql : qs.length ≤ 70 := by have h1 := List.length_filter_le (fun d : Gr => decide (x ≤ d.u) && decide (y ≤ d.u)) (gs.take i); have h2 := List.length_take_le' i gs; rw [← hq] at h1; omega
    have HOQ := Lib.hid hoq
    have HOWN := Lib.hid hown
    have BE := Lib.hid bel5
    have wz := BE.out.size
    have wz5 := HSZ.out
    clear hq hoq hown bel5
    have j0 : (0 : Int) ≤ (i : Int) := Int.natCast_nonneg _
    have oTr := Lib.hid (own_belowB OTh.out BE.out (by omega))
    have oXr := Lib.hid (own_belowB OXh.out BE.out (by omega))
    obtain ⟨t0, t1, t2, fT, zT⟩ := own3 oTr.out
    obtain ⟨q0, q1, q2, fQ, zQ⟩ := own3 HOQ.out
    have BELr := Lib.hid (show Below w.heap.size w wr from BLh.out.trans (BE.out.mono (by omega)))
    by_cases hlt : i < gs.length
    · obtain ⟨d, b, off, hd, rfl, hbl, _, d0, d1, d2, d3, d4⟩ := SG00.out.atG BELr.out hlt
      have j1 : (i : Int) < (gs.length : Int) := by omega
      have HD := Lib.hid (take_filtG (p := fun d : Gr => decide (x ≤ d.u) && decide (y ≤ d.u)) hd)
      clear hd
      have oE := Lib.hid (own_at (w := wr) [.int .i64 d.s, .int .i64 d.o, .int .i64 d.p, .int .i64 d.m, .int .i64 d.u] 34 rfl)
      have HOQ1 := Lib.hid (HOQ.out.alloc (.cells #[.int .i64 d.s, .int .i64 d.o, .int .i64 d.p, .int .i64 d.m, .int .i64 d.u] 34))
      have HOW1 := Lib.hid (HOWN.out.alloc (.cells #[.int .i64 d.s, .int .i64 d.o, .int .i64 d.p, .int .i64 d.m, .int .i64 d.u] 34))
      have BE1 := Lib.hid (BE.out.alloc (by omega) (.cells #[.int .i64 d.s, .int .i64 d.o, .int .i64 d.p, .int .i64 d.m, .int .i64 d.u] 34))
      obtain ⟨e0, e1, e2, e3, e4, fE, zE⟩ := own5 oE.out
      obtain ⟨k0, k1, k2, fK, zK⟩ := own3 HOQ1.out
      by_cases g1 : x ≤ d.u
      · by_cases g2 : y ≤ d.u
        · go_wp2_with (at_builtin; refine wpList_append_own _ rfl _ _ 23 rfl w5.heap.size 34 i0 _ 5 40 (by kernel_rfl) IF.out.1 IF.out.2.1 IF.out.2.2.1 IF.out.2.2.2 rfl (by decide) row qs.length (flatT grL qs) rfl (HOW1.out.alloc _) _ 1 1 (grL.f d) rfl rfl (newsTn (L := grL) (w := (wr.alloc (.cells #[.int .i64 d.s, .int .i64 d.o, .int .i64 d.p, .int .i64 d.m, .int .i64 d.u] 34))) (by first | rfl | simp) d 34) (grL.one _) ?qc4 ?qc5 ?qc6 ?_)
          case qc4 => unfold maxLen; omega
          case qc5 => omega
          case qc6 => have := BE1.out.size; simp at this ⊢; omega
          intro v2 w2 hown hgrow hnil
          have HG := Lib.hid (show ∀ k, row.ownBlock = some k → (w3.heap.size + 1) < k from fun k hk => by have := (HOWN.out.lt k hk).1; omega)
          have B2 := Lib.hid ((BE1.out.alloc (by have := BE1.out.size; omega) _).grown hgrow (by have := BE1.out.size; simp at this ⊢; omega) (fun k hk => by have := HG.out k hk; omega))
          have Q2 := Lib.hid (own_grown (HOQ1.out.alloc _) hgrow HG.out)
          obtain ⟨p2, n2, c2, f0⟩ := own_slc hown
          subst f0
          have H2 := Lib.hid hown
          clear hown hgrow hnil
          obtain ⟨u0, u1, u2, fU, zU⟩ := own3 Q2.out
          go_wp2_with fail
          have Q3 := Lib.hid (Q2.out.set 1 (.slice p2 n2 c2))
          have B3 := Lib.hid (B2.out.setCell (p := ⟨(w3.heap.size + 1), 1, none⟩) (by simp) (.slice p2 n2 c2))
          have H3 := Lib.hid (row_set H2.out (b := (w3.heap.size + 1)) (by omega) 1 (.slice p2 n2 c2))
          go_roundw
          case rel => exact ⟨i + 1, .slice p2 n2 c2, qs ++ [d], by omega, by go_num, by rw [HD.out, HQ.out]; simp [g1, g2], Q3.out, by have := H3.out; rw [flatT_append, flatT_one]; simpa [wz5] using this, B3.out⟩
          case measure => simp [intOf]; omega
        · omega
      · go_wp2_with fail
        go_roundw
        case rel => exact ⟨i + 1, row, qs, by omega, by go_num, by rw [HD.out, HQ.out]; simp [g1], HOQ1.out, HOW1.out, BE1.out⟩
        case measure => simp [intOf]; omega
    · have hql2 : qs = (gs.filter (fun d => !decide (d.u < x))) := by have h := HQ.out; rw [List.take_of_length_le (by omega)] at h; exact h.trans TP.out.2
      have HQ2 := Lib.hid hql2
      have QG := Lib.hid (slt_of_own (L := grL) HOWN.out)
      clear hql2 HQ HOWN
      obtain ⟨pq, nq, cq, f0⟩ := QG.out.slc
      subst f0
      have QU := Lib.hid (SU00.out.below BELr.out)
      have QA := Lib.hid (SA00.out.below BELr.out)
      have oT := oTr.out
      have oX := oXr.out
      have oQ := HOQ.out
      have bel := BELr.out
      have XU := Lib.hid (slt_belowB XU0.out B35.out BE.out (by omega))
      have XG := Lib.hid (slt_belowB XG0.out B35.out BE.out (by omega))
      have XA := Lib.hid (slt_belowB XA0.out B35.out BE.out (by omega))
      have SU := Lib.hid (SU00.out.below BELr.out)
      have SG := Lib.hid (SG00.out.below BELr.out)
      have SA := Lib.hid (SA00.out.below BELr.out)
      clear t0 t1 t2 fT zT q0 q1 q2 fQ zQ oTr oXr HOQ
      obtain ⟨cT0, cT1, cT2, fT, zT⟩ := own3 oT
      obtain ⟨cX0, cX1, cX2, fX, zX⟩ := own3 oX
      obtain ⟨cQ0, cQ1, cQ2, fQ, zQ⟩ := own3 oQ
      go_wp2_with fail
      have OTk0 := Lib.hid oT.drew
      have OXk0 := Lib.hid oX.drew
      have OQk0 := Lib.hid oQ.drew
      have BBk0 := Lib.hid bel.drew
      have SUk0 := Lib.hid (SU.out.below (Below.refl _ _).drew)
      have SGk0 := Lib.hid (SG.out.below (Below.refl _ _).drew)
      have SAk0 := Lib.hid (SA.out.below (Below.refl _ _).drew)
      have XUk0 := Lib.hid (XU.out.below (Below.refl _ _).drew)
      have XGk0 := Lib.hid (XG.out.below (Below.refl _ _).drew)
      have XAk0 := Lib.hid (XA.out.below (Below.refl _ _).drew)
      have QUk0 := Lib.hid (QU.out.below (Below.refl _ _).drew)
      have QGk0 := Lib.hid (QG.out.below (Below.refl _ _).drew)
      have QAk0 := Lib.hid (QA.out.below (Below.refl _ _).drew)
      clear oT cT0 cT1 cT2 fT zT oX cX0 cX1 cX2 fX zX oQ cQ0 cQ1 cQ2 fQ zQ
      clear bel SU SG SA XU XG XA QU QG QA
      obtain ⟨hTk00, hTk01, hTk02, _, _⟩ := own3 OTk0.out
      obtain ⟨hXk00, hXk01, hXk02, _, _⟩ := own3 OXk0.out
      obtain ⟨hQk00, hQk01, hQk02, _, _⟩ := own3 OQk0.out
      refine region_H 16 #[false, false, false, false, false, false, false, false, false, false, false, false, false, false, false, false] (by kernel_rfl) (by kernel_rfl) (fun w' => w'.cell? ⟨w.heap.size, 0, none⟩ = some (.slice pu us.length cu) ∧ w'.cell? ⟨w.heap.size, 1, none⟩ = some (.slice pg gs.length cg) ∧ w'.cell? ⟨w.heap.size, 2, none⟩ = some (.slice pa ks.length ca) ∧ w'.cell? ⟨w3.heap.size, 0, none⟩ = some (.slice px1 nx1 cx1) ∧ w'.cell? ⟨w3.heap.size, 1, none⟩ = some (.slice px2 nx2 cx2) ∧ w'.cell? ⟨w3.heap.size, 2, none⟩ = some (.slice px3 nx3 cx3) ∧ w'.cell? ⟨(w3.heap.size + 1), 0, none⟩ = some (.slice pu us.length cu) ∧ w'.cell? ⟨(w3.heap.size + 1), 1, none⟩ = some (.slice pq nq cq) ∧ w'.cell? ⟨(w3.heap.size + 1), 2, none⟩ = some (.slice pa ks.length ca)) (by kernel_rfl) ?x35s (fun hHeld => ?x35r)
      case x35s => exact ⟨hTk00, hTk01, hTk02, hXk00, hXk01, hXk02, hQk00, hQk01, hQk02⟩
      refine wpH_take (i := 0) (some 51) (v := ?x36v) rfl (by kernel_rfl) (by kernel_rfl) (by kernel_rfl) rfl (fun _ _ _ h => h) (Or.inl ⟨by rfl, ?x36y⟩) hHeld ?x36r
      case x36y => (intro w hSw; (try dsimp only at hSw); go_simp; try with_reducible rfl)
      try simp only [Act.put, List.setIfInBounds_toArray, List.set_cons_zero, List.set_cons_succ]
      refine wpH_take (i := 1) (some 52) (v := ?x37v) rfl (by kernel_rfl) (by kernel_rfl) (by kernel_rfl) rfl (fun _ _ _ h => h) (Or.inl ⟨by rfl, ?x37y⟩) hHeld ?x37r
      case x37y => (intro w hSw; (try dsimp only at hSw); go_simp; try with_reducible rfl)
      try simp only [Act.put, List.setIfInBounds_toArray, List.set_cons_zero, List.set_cons_succ]
      refine wpH_take (i := 2) (some 53) (v := ?x38v) rfl (by kernel_rfl) (by kernel_rfl) (by kernel_rfl) rfl (fun _ _ _ h => h) (Or.inl ⟨by rfl, ?x38y⟩) hHeld ?x38r
      case x38y => (intro w hSw; (try dsimp only at hSw); go_simp; try with_reducible rfl)
      try simp only [Act.put, List.setIfInBounds_toArray, List.set_cons_zero, List.set_cons_succ]
      refine wpH_take (i := 3) (some 54) (v := ?x39v) rfl (by kernel_rfl) (by kernel_rfl) (by kernel_rfl) rfl (fun _ _ _ h => h) (Or.inl ⟨by rfl, ?x39y⟩) hHeld ?x39r
      case x39y => (intro w hSw; (try dsimp only at hSw); go_simp; try with_reducible rfl)
      try simp only [Act.put, List.setIfInBounds_toArray, List.set_cons_zero, List.set_cons_succ]
      refine wpH_take (i := 5) (some 56) (v := ?x40v) rfl (by kernel_rfl) (by kernel_rfl) (by kernel_rfl) rfl (fun _ _ _ h => h) (Or.inl ⟨by rfl, ?x40y⟩) hHeld ?x40r
      case x40y => (intro w hSw; (try dsimp only at hSw); go_simp; try with_reducible rfl)
      try simp only [Act.put, List.setIfInBounds_toArray, List.set_cons_zero, List.set_cons_succ]
      refine wpH_take (i := 7) (some 58) (v := ?x41v) rfl (by kernel_rfl) (by kernel_rfl) (by kernel_rfl) rfl (fun _ _ _ h => h) (Or.inl ⟨by rfl, ?x41y⟩) hHeld ?x41r
      case x41y => (intro w hSw; (try dsimp only at hSw); go_simp; try with_reducible rfl)
      try simp only [Act.put, List.setIfInBounds_toArray, List.set_cons_zero, List.set_cons_succ]
      refine wpH_one (i := 4) (by kernel_rfl) rfl (fun K hK => ?_)
      rw [if_pos (by rfl)]
      go_simp
      refine (exp_any _ _ _ us gs ks x _ SUk0.out SGk0.out SAk0.out (by omega) (by omega) (by omega)).mono ?_
      rintro e wk1 ⟨vy1, vy2, vy3, rfl, z1, z2, z3, hbb⟩
      have YUk1 := Lib.hid (show SlU wk1 vy1 us from z1)
      obtain ⟨pvy1, nvy1, cvy1, f0⟩ := YUk1.out.slc
      subst f0
      have YGk1 := Lib.hid (show SlG wk1 vy2 (gs.filter (fun d => !decide (d.u < x))) from z2)
      obtain ⟨pvy2, nvy2, cvy2, f0⟩ := YGk1.out.slc
      subst f0
      have YAk1 := Lib.hid (show SlA wk1 vy3 ks from z3)
      obtain ⟨pvy3, nvy3, cvy3, f0⟩ := YAk1.out.slc
      subst f0
      have OTk1 := Lib.hid (OTk0.out.below hbb)
      have OXk1 := Lib.hid (OXk0.out.below hbb)
      have OQk1 := Lib.hid (OQk0.out.below hbb)
      have SUk1 := Lib.hid (SUk0.out.below hbb)
      have SGk1 := Lib.hid (SGk0.out.below hbb)
      have SAk1 := Lib.hid (SAk0.out.below hbb)
      have XUk1 := Lib.hid (XUk0.out.below hbb)
      have XGk1 := Lib.hid (XGk0.out.below hbb)
      have XAk1 := Lib.hid (XAk0.out.below hbb)
      have QUk1 := Lib.hid (QUk0.out.below hbb)
      have QGk1 := Lib.hid (QGk0.out.below hbb)
      have QAk1 := Lib.hid (QAk0.out.below hbb)
      have BBk1 := Lib.hid (belowTo BBk0.out hbb BBk0.out.size)
      clear hbb OTk0 OXk0 OQk0 SUk0 SGk0 SAk0 XUk0 XGk0 XAk0 QUk0 QGk0 QAk0 BBk0 hTk00 hTk01 hTk02 hXk00 hXk01 hXk02 hQk00 hQk01 hQk02
      obtain ⟨hTk10, hTk11, hTk12, _, _⟩ := own3 OTk1.out
      obtain ⟨hXk10, hXk11, hXk12, _, _⟩ := own3 OXk1.out
      obtain ⟨hQk10, hQk11, hQk12, _, _⟩ := own3 OQk1.out
      refine hK.out _ _ (⟨hTk10, hTk11, hTk12, hXk10, hXk11, hXk12, hQk10, hQk11, hQk12⟩) ?_
      clear hK K hHeld
      intro hHeld
      try simp only [Act.put, List.setIfInBounds_toArray, List.set_cons_zero, List.set_cons_succ]
      refine wpH_one (i := 6) (by kernel_rfl) rfl (fun K hK => ?_)
      rw [if_pos (by rfl)]
      go_simp
      refine (exp_any _ _ _ us (gs.filter (fun d => !decide (d.u < x))) ks y _ YUk1.out YGk1.out YAk1.out (by omega) (by have := List.length_filter_le (fun d : Gr => !decide (d.u < x)) gs; omega) (by omega)).mono ?_
      rintro e wk2 ⟨vz1, vz2, vz3, rfl, z1, z2, z3, hbb⟩
      have ZUk2 := Lib.hid (show SlU wk2 vz1 us from z1)
      obtain ⟨pvz1, nvz1, cvz1, f0⟩ := ZUk2.out.slc
      subst f0
      have ZGk2 := Lib.hid (show SlG wk2 vz2 (gs.filter (fun d => !decide (d.u < x))) from by rw [TP.out.1] at z2; exact z2)
      obtain ⟨pvz2, nvz2, cvz2, f0⟩ := ZGk2.out.slc
      subst f0
      have ZAk2 := Lib.hid (show SlA wk2 vz3 ks from z3)
      obtain ⟨pvz3, nvz3, cvz3, f0⟩ := ZAk2.out.slc
      subst f0
      have OTk2 := Lib.hid (OTk1.out.below hbb)
      have OXk2 := Lib.hid (OXk1.out.below hbb)
      have OQk2 := Lib.hid (OQk1.out.below hbb)
      have SUk2 := Lib.hid (SUk1.out.below hbb)
      have SGk2 := Lib.hid (SGk1.out.below hbb)
      have SAk2 := Lib.hid (SAk1.out.below hbb)
      have XUk2 := Lib.hid (XUk1.out.below hbb)
      have XGk2 := Lib.hid (XGk1.out.below hbb)
      have XAk2 := Lib.hid (XAk1.out.below hbb)
      have QUk2 := Lib.hid (QUk1.out.below hbb)
      have QGk2 := Lib.hid (QGk1.out.below hbb)
      have QAk2 := Lib.hid (QAk1.out.below hbb)
      have BBk2 := Lib.hid (belowTo BBk1.out hbb BBk1.out.size)
      clear hbb OTk1 OXk1 OQk1 SUk1 SGk1 SAk1 XUk1 XGk1 XAk1 QUk1 QGk1 QAk1 YUk1 YGk1 YAk1 BBk1 hTk10 hTk11 hTk12 hXk10 hXk11 hXk12 hQk10 hQk11 hQk12
      obtain ⟨hTk20, hTk21, hTk22, _, _⟩ := own3 OTk2.out
      obtain ⟨hXk20, hXk21, hXk22, _, _⟩ := own3 OXk2.out
      obtain ⟨hQk20, hQk21, hQk22, _, _⟩ := own3 OQk2.out
      refine hK.out _ _ (⟨hTk20, hTk21, hTk22, hXk20, hXk21, hXk22, hQk20, hQk21, hQk22⟩) ?_
      clear hK K hHeld
      intro hHeld
      try simp only [Act.put, List.setIfInBounds_toArray, List.set_cons_zero, List.set_cons_succ]
      refine wpH_one (i := 8) (by kernel_rfl) rfl (fun K hK => ?_)
      rw [if_pos (by rfl)]
      go_simp
      refine (same_lit _ _ _ _ _ _ us us (gs.filter (fun d => !decide (d.u < x))) (gs.filter (fun d => !decide (d.u < x))) ks ks _ ZUk2.out ZGk2.out ZAk2.out XUk2.out XGk2.out XAk2.out (by omega) (by have := List.length_filter_le (fun d : Gr => !decide (d.u < x)) gs; omega) (by omega) true samT_rfl).mono ?_
      rintro e wk3 ⟨rfl, hbb⟩
      have OTk3 := Lib.hid (OTk2.out.below hbb)
      have OXk3 := Lib.hid (OXk2.out.below hbb)
      have OQk3 := Lib.hid (OQk2.out.below hbb)
      have SUk3 := Lib.hid (SUk2.out.below hbb)
      have SGk3 := Lib.hid (SGk2.out.below hbb)
      have SAk3 := Lib.hid (SAk2.out.below hbb)
      have XUk3 := Lib.hid (XUk2.out.below hbb)
      have XGk3 := Lib.hid (XGk2.out.below hbb)
      have XAk3 := Lib.hid (XAk2.out.below hbb)
      have QUk3 := Lib.hid (QUk2.out.below hbb)
      have QGk3 := Lib.hid (QGk2.out.below hbb)
      have QAk3 := Lib.hid (QAk2.out.below hbb)
      have BBk3 := Lib.hid (belowTo BBk2.out hbb BBk2.out.size)
      clear hbb OTk2 OXk2 OQk2 SUk2 SGk2 SAk2 XUk2 XGk2 XAk2 QUk2 QGk2 QAk2 ZUk2 ZGk2 ZAk2 BBk2 hTk20 hTk21 hTk22 hXk20 hXk21 hXk22 hQk20 hQk21 hQk22
      obtain ⟨hTk30, hTk31, hTk32, _, _⟩ := own3 OTk3.out
      obtain ⟨hXk30, hXk31, hXk32, _, _⟩ := own3 OXk3.out
      obtain ⟨hQk30, hQk31, hQk32, _, _⟩ := own3 OQk3.out
      refine hK.out _ _ (⟨hTk30, hTk31, hTk32, hXk30, hXk31, hXk32, hQk30, hQk31, hQk32⟩) ?_
      clear hK K hHeld
      intro hHeld
      try simp only [Act.put, List.setIfInBounds_toArray, List.set_cons_zero, List.set_cons_succ]
      refine wpH_take (i := 9) (some 60) (v := ?x45v) rfl (by kernel_rfl) (by kernel_rfl) (by kernel_rfl) rfl (fun _ _ _ h => h) (Or.inl ⟨by rfl, ?x45y⟩) hHeld ?x45r
      case x45y => (intro w hSw; (try dsimp only at hSw); go_simp; try with_reducible rfl)
      try simp only [Act.put, List.setIfInBounds_toArray, List.set_cons_zero, List.set_cons_succ]
      refine wpH_take (i := 10) (some 61) (v := ?x46v) rfl (by kernel_rfl) (by kernel_rfl) (by kernel_rfl) rfl (fun _ _ _ h => h) (Or.inl ⟨by rfl, ?x46y⟩) hHeld ?x46r
      case x46y => (intro w hSw; (try dsimp only at hSw); go_simp; try with_reducible rfl)
      try simp only [Act.put, List.setIfInBounds_toArray, List.set_cons_zero, List.set_cons_succ]
      refine wpH_take (i := 11) (some 62) (v := ?x47v) rfl (by kernel_rfl) (by kernel_rfl) (by kernel_rfl) rfl (fun _ _ _ h => h) (Or.inl ⟨by rfl, ?x47y⟩) hHeld ?x47r
      case x47y => (intro w hSw; (try dsimp only at hSw); go_simp; try with_reducible rfl)
      try simp only [Act.put, List.setIfInBounds_toArray, List.set_cons_zero, List.set_cons_succ]
      refine wpH_take (i := 12) (some 63) (v := ?x48v) rfl (by kernel_rfl) (by kernel_rfl) (by kernel_rfl) rfl (fun _ _ _ h => h) (Or.inl ⟨by rfl, ?x48y⟩) hHeld ?x48r
      case x48y => (intro w hSw; (try dsimp only at hSw); go_simp; try with_reducible rfl)
      try simp only [Act.put, List.setIfInBounds_toArray, List.set_cons_zero, List.set_cons_succ]
      refine wpH_one (i := 13) (by kernel_rfl) rfl (fun K hK => ?_)
      rw [if_pos (by rfl)]
      go_simp
      refine (same_lit _ _ _ _ _ _ us us (gs.filter (fun d => !decide (d.u < x))) qs ks ks _ XUk3.out XGk3.out XAk3.out QUk3.out QGk3.out QAk3.out (by omega) (by have := List.length_filter_le (fun d : Gr => !decide (d.u < x)) gs; omega) (by omega) true (samT_iff.2 ⟨rfl, HQ2.out.symm, rfl⟩)).mono ?_
      rintro e wk4 ⟨rfl, hbb⟩
      have OTk4 := Lib.hid (OTk3.out.below hbb)
      have OXk4 := Lib.hid (OXk3.out.below hbb)
      have OQk4 := Lib.hid (OQk3.out.below hbb)
      have SUk4 := Lib.hid (SUk3.out.below hbb)
      have SGk4 := Lib.hid (SGk3.out.below hbb)
      have SAk4 := Lib.hid (SAk3.out.below hbb)
      have XUk4 := Lib.hid (XUk3.out.below hbb)
      have XGk4 := Lib.hid (XGk3.out.below hbb)
      have XAk4 := Lib.hid (XAk3.out.below hbb)
      have QUk4 := Lib.hid (QUk3.out.below hbb)
      have QGk4 := Lib.hid (QGk3.out.below hbb)
      have QAk4 := Lib.hid (QAk3.out.below hbb)
      have BBk4 := Lib.hid (belowTo BBk3.out hbb BBk3.out.size)
      clear hbb OTk3 OXk3 OQk3 SUk3 SGk3 SAk3 XUk3 XGk3 XAk3 QUk3 QGk3 QAk3 BBk3 hTk30 hTk31 hTk32 hXk30 hXk31 hXk32 hQk30 hQk31 hQk32
      obtain ⟨hTk40, hTk41, hTk42, _, _⟩ := own3 OTk4.out
      obtain ⟨hXk40, hXk41, hXk42, _, _⟩ := own3 OXk4.out
      obtain ⟨hQk40, hQk41, hQk42, _, _⟩ := own3 OQk4.out
      refine hK.out _ _ (⟨hTk40, hTk41, hTk42, hXk40, hXk41, hXk42, hQk40, hQk41, hQk42⟩) ?_
      clear hK K hHeld
      intro hHeld
      try simp only [Act.put, List.setIfInBounds_toArray, List.set_cons_zero, List.set_cons_succ]
      refine wpH_take (i := 14) (some 65) (v := ?x50v) rfl (by kernel_rfl) (by kernel_rfl) (by kernel_rfl) rfl (fun _ _ _ h => h) (Or.inl ⟨by rfl, ?x50y⟩) hHeld ?x50r
      case x50y => (intro w hSw; (try dsimp only at hSw); go_simp; try with_reducible rfl)
      try simp only [Act.put, List.setIfInBounds_toArray, List.set_cons_zero, List.set_cons_succ]
      refine wpH_take (i := 15) (some 6) (v := ?x51v) rfl (by kernel_rfl) (by kernel_rfl) (by kernel_rfl) rfl (fun _ _ _ h => h) (Or.inl ⟨by rfl, ?x51y⟩) hHeld ?x51r
      case x51y => (intro w hSw; (try dsimp only at hSw); go_simp; try with_reducible rfl)
      try simp only [Act.put, List.setIfInBounds_toArray, List.set_cons_zero, List.set_cons_succ]
      refine wpAnyH_done (by kernel_rfl) ?_ _
      have oT := OTk4.out
      have oX := OXk4.out
      have oQ := OQk4.out
      have bel := BBk4.out
      have SU := SUk4
      have SG := SGk4
      have SA := SAk4
      have XU := XUk4
      have XG := XGk4
      have XA := XAk4
      have QU := QUk4
      have QG := QGk4
      have QA := QAk4
      clear OTk4 OXk4 OQk4 BBk4 SUk4 SGk4 SAk4 XUk4 XGk4 XAk4 QUk4 QGk4 QAk4 hTk40 hTk41 hTk42 hXk40 hXk41 hXk42 hQk40 hQk41 hQk42
      obtain ⟨cT0, cT1, cT2, fT, zT⟩ := own3 oT
      obtain ⟨cX0, cX1, cX2, fX, zX⟩ := own3 oX
      obtain ⟨cQ0, cQ1, cQ2, fQ, zQ⟩ := own3 oQ
      go_wp2_with fail
      go_ret
      exact ⟨rfl, bel⟩

theorem cellsTime_walk (vu vg va : Value) (us : List Us) (gs : List Gr) (ks : List Ak) (x y : Int) (w : World) (su : SlU w vu us) (sg : SlG w vg gs) (sa : SlA w va ks) {q1 q2 : Prop} (_ : q1) (_ : q2) : Calls Try.prog 8 #[.agg #[vu, vg, va], .int .i64 x, .int .i64 y] w fun e w' => e = .returned (.bool true) ∧ Below w.heap.size w w' := by
  cases hf : fewB us gs ks with
  | false => exact time_few vu vg va us gs ks x y w su sg sa hf
  | true =>
    rcases Int.lt_trichotomy x y with h | h | h
    · exact time_le vu vg va us gs ks x y w su sg sa hf h
    · exact time_eq vu vg va us gs ks x y w su sg sa hf h
    · exact time_gt vu vg va us gs ks x y w su sg sa hf h

end Go.Proofs.Ytdmadnoijhmbcaa

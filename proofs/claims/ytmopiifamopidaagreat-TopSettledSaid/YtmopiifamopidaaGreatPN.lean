/- What Grant returns. No condition but those named. -/
import Derived.Test.YtmopiifamopidaaGreatPG
import Derived.Test.YtmopiifamopidaaGreatPI
import Derived.Test.YtmopiifamopidaaGreatPK
import Derived.Outline
import Derived.Deep.LoopGhost
set_option linter.unusedVariables false
set_option linter.unusedSimpArgs false
section
namespace Go.Proofs.YtmopiifamopidaaGreat
open Go.RowKit
set_option maxRecDepth 100000 in
set_option maxHeartbeats 2000000 in
theorem grt_bad (vu vg va : Value) (us : List Us) (gs : List Gr) (ks : List Ak) (N D me f : Int) (v : Value) (l : List Nr) (w : World) (su : SlU w vu us) (sg : SlG w vg gs) (sa : SlA w va ks) (u70 : us.length ≤ 70) (g70 : gs.length ≤ 70) (k70 : ks.length ≤ 70) (sl : SlN w v l) (ho : NsOk w l) (h1000 : l.length ≤ 1000) (hfew : ∀ r ∈ l, r.b.us.length ≤ 100 ∧ r.b.gs.length ≤ 100 ∧ r.b.ks.length ≤ 100) (f0 : 0 ≤ f) (f1 : f ≤ 1000000) (hs : sideB N D ⟨us, gs, ks⟩ me (l.map Nr.b) f = false) : Calls Tryz.prog 13 #[.agg #[.int .i64 N, .int .i64 D], .agg #[vu, vg, va], .int .i64 me, v, .int .i64 f] w (TblP w us gs ks) := by
 obtain ⟨pu, cu, e0, hlu, hcu, _⟩ := su.form us.length rfl
 subst e0
 obtain ⟨pg, cg, e0, hlg, hcg, _⟩ := sg.form gs.length rfl
 subst e0
 obtain ⟨pa, ca, e0, hla, hca, _⟩ := sa.form ks.length rfl
 subst e0
 have SU := Lib.hid su
 have SG := Lib.hid sg
 have SA := Lib.hid sa
 clear su sg sa
 have iu0 : (0 : Int) ≤ (us.length : Int) := Int.natCast_nonneg _
 have ig0 : (0 : Int) ≤ (gs.length : Int) := Int.natCast_nonneg _
 have ia0 : (0 : Int) ≤ (ks.length : Int) := Int.natCast_nonneg _
 have iu : (us.length : Int) ≤ 70 := by omega
 have ig : (gs.length : Int) ≤ 70 := by omega
 have ia : (ks.length : Int) ≤ 70 := by omega
 have HO := Lib.hid ho
 have HS := Lib.hid hs
 clear ho hs
 obtain ⟨p, cap, e0, hlc, hcm, hpn⟩ := sl.form l.length rfl
 subst e0
 have SL := Lib.hid sl
 unfold maxLen at hcm
 clear hpn sl
 go_enter Tryz.func13, Tryz.ntmps13
 go_wp2_with fail
 go_step3
 go_wp2_with fail
 refine (new_any _ _ _ us gs ks N D me f _ l _ (SU.out.below ((((Below.refl _ _).alloc (by exact Nat.le_refl _) _).alloc (by simp) _).alloc (by simp; omega) _)) (SG.out.below ((((Below.refl _ _).alloc (by exact Nat.le_refl _) _).alloc (by simp) _).alloc (by simp; omega) _)) (SA.out.below ((((Below.refl _ _).alloc (by exact Nat.le_refl _) _).alloc (by simp) _).alloc (by simp; omega) _)) u70 g70 k70 (SL.out.below ((((Below.refl _ _).alloc (by exact Nat.le_refl _) _).alloc (by simp) _).alloc (by simp; omega) _)) (HO.out.below ((((Below.refl _ _).alloc (by exact Nat.le_refl _) _).alloc (by simp) _).alloc (by simp; omega) _)) h1000 hfew false HS.out).mono ?_
 rintro e w1 ⟨rfl, hb⟩
 have oL : Own w1 w.heap.size [.int .i64 N, .int .i64 D] 31 := (((own_at _ _ rfl).alloc _).alloc _).below hb
 have oT : Own w1 (w.heap.size + 1) [.slice pu us.length cu, .slice pg gs.length cg, .slice pa ks.length ca] 43 := ((own_at _ _ (by simp)).alloc _).below hb
 have oR : Own w1 (w.heap.size + 1 + 1) [.slice none 0 0, .slice none 0 0, .slice none 0 0] 43 := (own_at _ _ (by simp)).below hb
 have bel := belowTo ((((Below.refl w.heap.size w).alloc (by simp) _).alloc (by simp) _).alloc (by simp; omega) _) hb (by simp; omega)
 clear hb
 obtain ⟨cL0, cL1, fL, zL⟩ := own2 oL
 obtain ⟨cT0, cT1, cT2, fT, zT⟩ := own3 oT
 obtain ⟨cR0, cR1, cR2, fR, zR⟩ := own3 oR
 go_wp2_with fail
 replace oL := (((oL.other (by first | (simp; done) | (simp; omega) | omega | (dsimp only; omega)) (a := ⟨w.heap.size + 1 + 1, 0, none⟩) (.slice pu us.length cu)).other (by first | (simp; done) | (simp; omega) | omega | (dsimp only; omega)) (a := ⟨w.heap.size + 1 + 1, 1, none⟩) (.slice pg gs.length cg)).other (by first | (simp; done) | (simp; omega) | omega | (dsimp only; omega)) (a := ⟨w.heap.size + 1 + 1, 2, none⟩) (.slice pa ks.length ca))
 replace oT := (((oT.other (by first | (simp; done) | (simp; omega) | omega | (dsimp only; omega)) (a := ⟨w.heap.size + 1 + 1, 0, none⟩) (.slice pu us.length cu)).other (by first | (simp; done) | (simp; omega) | omega | (dsimp only; omega)) (a := ⟨w.heap.size + 1 + 1, 1, none⟩) (.slice pg gs.length cg)).other (by first | (simp; done) | (simp; omega) | omega | (dsimp only; omega)) (a := ⟨w.heap.size + 1 + 1, 2, none⟩) (.slice pa ks.length ca))
 replace bel := (((bel.setCell (p := ⟨w.heap.size + 1 + 1, 0, none⟩) (by first | (simp; done) | (simp; omega) | omega | (dsimp only; omega)) (.slice pu us.length cu)).setCell (p := ⟨w.heap.size + 1 + 1, 1, none⟩) (by first | (simp; done) | (simp; omega) | omega | (dsimp only; omega)) (.slice pg gs.length cg)).setCell (p := ⟨w.heap.size + 1 + 1, 2, none⟩) (by first | (simp; done) | (simp; omega) | omega | (dsimp only; omega)) (.slice pa ks.length ca))
 replace oR : Own _ (w.heap.size + 1 + 1) [.slice pu us.length cu, .slice pg gs.length cg, .slice pa ks.length ca] 43 := (((oR.set 0 (.slice pu us.length cu)).set 1 (.slice pg gs.length cg)).set 2 (.slice pa ks.length ca))
 clear cL0 cL1 fL zL cT0 cT1 cT2 fT zT cR0 cR1 cR2 fR zR
 generalize (((w1.setCell ⟨w.heap.size + 1 + 1, 0, none⟩ (.slice pu us.length cu)).setCell ⟨w.heap.size + 1 + 1, 1, none⟩ (.slice pg gs.length cg)).setCell ⟨w.heap.size + 1 + 1, 2, none⟩ (.slice pa ks.length ca)) = w2 at oL oT oR bel ⊢
 obtain ⟨cL0, cL1, fL, zL⟩ := own2 oL
 obtain ⟨cT0, cT1, cT2, fT, zT⟩ := own3 oT
 obtain ⟨cR0, cR1, cR2, fR, zR⟩ := own3 oR
 rw [Exit.noGoto_ret]
 refine bodyPost_ret (v := .agg #[.slice pu us.length cu, .slice pg gs.length cg, .slice pa ks.length ca]) (by simp [results, Tryz.results13, go_sem, *]) rfl ⟨_, _, _, rfl, SU.out.below bel, SG.out.below bel, SA.out.below bel, bel⟩
def GI1 (w3 : World) (bT : Nat) (su sa : Sv) (pr : Option Addr) (cr : Nat) (q : Gr → Gr) (gs0 : List Gr) (i : Nat) (wz : World) : Prop := Own wz bT [.slice su.p su.n su.c, .slice pr gs0.length cr, .slice sa.p sa.n sa.c] 43 ∧ wz.ownsRow w3.heap.size 52 5 (.slice pr gs0.length cr) gs0.length (flatT grL (mixG q gs0 i)) ∧ Belo w3.heap.size bT w3 wz
def GI2 (wl : World) (bT : Nat) (T : Tb) (wz : World) : Prop := Belo wl.heap.size bT wl wz ∧ TabW wz bT T
def GI3 (wl : World) (bT bN : Nat) (cs : List Value) (T : Tb) (wz : World) : Prop := Belo wl.heap.size bT wl wz ∧ TabW wz bT T ∧ Own wz bN cs 86
set_option maxRecDepth 100000 in
set_option maxHeartbeats 8000000 in
theorem grt_ok (vu vg va : Value) (us : List Us) (gs : List Gr) (ks : List Ak) (N D me f : Int) (v : Value) (l : List Nr) (w : World) (su : SlU w vu us) (sg : SlG w vg gs) (sa : SlA w va ks) (u70 : us.length ≤ 70) (g70 : gs.length ≤ 70) (k70 : ks.length ≤ 70) (sl : SlN w v l) (ho : NsOk w l) (h1000 : l.length ≤ 1000) (hfew : ∀ r ∈ l, r.b.us.length ≤ 100 ∧ r.b.gs.length ≤ 100 ∧ r.b.ks.length ≤ 100) (f0 : 0 ≤ f) (f1 : f ≤ 1000000) (hs : sideB N D ⟨us, gs, ks⟩ me (l.map Nr.b) f = true) : Calls Tryz.prog 13 #[.agg #[.int .i64 N, .int .i64 D], .agg #[vu, vg, va], .int .i64 me, v, .int .i64 f] w (TblP w (grtF N D ⟨us, gs, ks⟩ me (l.map Nr.b) f).us (grtF N D ⟨us, gs, ks⟩ me (l.map Nr.b) f).gs (grtF N D ⟨us, gs, ks⟩ me (l.map Nr.b) f).ks) := by
 obtain ⟨pu, cu, e0, hlu, hcu, _⟩ := su.form us.length rfl
 subst e0
 obtain ⟨pg, cg, e0, hlg, hcg, _⟩ := sg.form gs.length rfl
 subst e0
 obtain ⟨pa, ca, e0, hla, hca, _⟩ := sa.form ks.length rfl
 subst e0
 have SU := Lib.hid su
 have SG := Lib.hid sg
 have SA := Lib.hid sa
 clear su sg sa
 have iu0 : (0 : Int) ≤ (us.length : Int) := Int.natCast_nonneg _
 have ig0 : (0 : Int) ≤ (gs.length : Int) := Int.natCast_nonneg _
 have ia0 : (0 : Int) ≤ (ks.length : Int) := Int.natCast_nonneg _
 have iu : (us.length : Int) ≤ 70 := by omega
 have ig : (gs.length : Int) ≤ 70 := by omega
 have ia : (ks.length : Int) ≤ 70 := by omega
 have HVAL := Lib.hid (side_val hs)
 have HO := Lib.hid ho
 have HS := Lib.hid hs
 clear ho hs
 obtain ⟨p, cap, e0, hlc, hcm, hpn⟩ := sl.form l.length rfl
 subst e0
 have SL := Lib.hid sl
 unfold maxLen at hcm
 clear hpn sl
 go_enter Tryz.func13, Tryz.ntmps13
 go_wp2_with fail
 go_step3
 go_wp2_with fail
 refine (new_any _ _ _ us gs ks N D me f _ l _ (SU.out.below ((((Below.refl _ _).alloc (by exact Nat.le_refl _) _).alloc (by simp) _).alloc (by simp; omega) _)) (SG.out.below ((((Below.refl _ _).alloc (by exact Nat.le_refl _) _).alloc (by simp) _).alloc (by simp; omega) _)) (SA.out.below ((((Below.refl _ _).alloc (by exact Nat.le_refl _) _).alloc (by simp) _).alloc (by simp; omega) _)) u70 g70 k70 (SL.out.below ((((Below.refl _ _).alloc (by exact Nat.le_refl _) _).alloc (by simp) _).alloc (by simp; omega) _)) (HO.out.below ((((Below.refl _ _).alloc (by exact Nat.le_refl _) _).alloc (by simp) _).alloc (by simp; omega) _)) h1000 hfew true HS.out).mono ?_
 rintro e w1 ⟨bs, ⟨sp, sn, sc⟩, S, rfl, os, s1, o1, hS, hbs, hb⟩
 dsimp only at os s1
 have e2 := s1.len_eq
 subst e2
 have oL : Own w1 w.heap.size [.int .i64 N, .int .i64 D] 31 := (((own_at _ _ rfl).alloc _).alloc _).below hb
 have oT : Own w1 (w.heap.size + 1) [.slice pu us.length cu, .slice pg gs.length cg, .slice pa ks.length ca] 43 := ((own_at _ _ (by simp)).alloc _).below hb
 have oR : Own w1 (w.heap.size + 1 + 1) [.slice none 0 0, .slice none 0 0, .slice none 0 0] 43 := (own_at _ _ (by simp)).below hb
 have bel := belowTo ((((Below.refl w.heap.size w).alloc (by simp) _).alloc (by simp) _).alloc (by simp; omega) _) hb (by simp; omega)
 clear hb
 obtain ⟨cL0, cL1, fL, zL⟩ := own2 oL
 obtain ⟨cT0, cT1, cT2, fT, zT⟩ := own3 oT
 obtain ⟨cR0, cR1, cR2, fR, zR⟩ := own3 oR
 simp only [World.size_alloc] at hbs
 have oS := os
 clear os
 have HSM := Lib.hid hS
 clear hS
 obtain ⟨cS0, cS1, cS2, cS3, cS4, fS, zS⟩ := own5 oS
 have SS := Lib.hid s1
 have OO := Lib.hid o1
 clear s1 o1
 go_wp2_with fail
 refine (exp_any _ _ _ us gs ks f _ (SU.out.below bel) (SG.out.below bel) (SA.out.below bel) u70 g70 k70).mono ?_
 rintro e w2 ⟨v1, v2, v3, rfl, e1, e2, e3, hb⟩
 replace oL := oL.below hb
 replace oT := oT.below hb
 replace oR := oR.below hb
 replace oS := oS.below hb
 replace SS := Lib.hid (SS.out.below hb)
 replace OO := Lib.hid (OO.out.below hb)
 replace bel := belowTo bel hb (by exact bel.size)
 clear hb
 clear cL0 cL1 fL zL cT0 cT1 cT2 fT zT cR0 cR1 cR2 fR zR cS0 cS1 cS2 cS3 cS4 fS zS
 obtain ⟨cL0, cL1, fL, zL⟩ := own2 oL
 obtain ⟨cT0, cT1, cT2, fT, zT⟩ := own3 oT
 obtain ⟨cR0, cR1, cR2, fR, zR⟩ := own3 oR
 obtain ⟨cS0, cS1, cS2, cS3, cS4, fS, zS⟩ := own5 oS
 obtain ⟨g0, hg0⟩ : ∃ g0, gs.filter (fun d => !decide (d.u < f)) = g0 := ⟨_, rfl⟩
 rw [hg0] at e2
 have g70b : g0.length ≤ 70 := by rw [← hg0]; exact Nat.le_trans (List.length_filter_le _ _) g70
 have HG0 := Lib.hid hg0
 clear hg0
 obtain ⟨p1, n1, c1, rfl⟩ := e1.slc
 obtain ⟨p2, n2, c2, rfl⟩ := e2.slc
 obtain ⟨p3, n3, c3, rfl⟩ := e3.slc
 have E1 := Lib.hid e1
 have E2 := Lib.hid e2
 have E3 := Lib.hid e3
 clear e1 e2 e3
 go_wp2_with fail
 replace SS := Lib.hid (((Belo.refl _ _ w2).set3 (.slice p1 n1 c1) (.slice p2 n2 c2) (.slice p3 n3 c3)).sln SS.out oT)
 replace OO := Lib.hid (((Belo.refl _ _ w2).set3 (.slice p1 n1 c1) (.slice p2 n2 c2) (.slice p3 n3 c3)).nsok OO.out oT)
 replace E1 := Lib.hid (E1.out.set3 numU oT (.slice p1 n1 c1) (.slice p2 n2 c2) (.slice p3 n3 c3))
 replace E2 := Lib.hid (E2.out.set3 numG oT (.slice p1 n1 c1) (.slice p2 n2 c2) (.slice p3 n3 c3))
 replace E3 := Lib.hid (E3.out.set3 numA oT (.slice p1 n1 c1) (.slice p2 n2 c2) (.slice p3 n3 c3))
 replace oL := (((oL.other (by first | (simp; done) | (simp; omega) | omega | (dsimp only; omega)) (a := ⟨w.heap.size + 1, 0, none⟩) (.slice p1 n1 c1)).other (by first | (simp; done) | (simp; omega) | omega | (dsimp only; omega)) (a := ⟨w.heap.size + 1, 1, none⟩) (.slice p2 n2 c2)).other (by first | (simp; done) | (simp; omega) | omega | (dsimp only; omega)) (a := ⟨w.heap.size + 1, 2, none⟩) (.slice p3 n3 c3))
 replace oR := (((oR.other (by first | (simp; done) | (simp; omega) | omega | (dsimp only; omega)) (a := ⟨w.heap.size + 1, 0, none⟩) (.slice p1 n1 c1)).other (by first | (simp; done) | (simp; omega) | omega | (dsimp only; omega)) (a := ⟨w.heap.size + 1, 1, none⟩) (.slice p2 n2 c2)).other (by first | (simp; done) | (simp; omega) | omega | (dsimp only; omega)) (a := ⟨w.heap.size + 1, 2, none⟩) (.slice p3 n3 c3))
 replace oS := (((oS.other (by first | (simp; done) | (simp; omega) | omega | (dsimp only; omega)) (a := ⟨w.heap.size + 1, 0, none⟩) (.slice p1 n1 c1)).other (by first | (simp; done) | (simp; omega) | omega | (dsimp only; omega)) (a := ⟨w.heap.size + 1, 1, none⟩) (.slice p2 n2 c2)).other (by first | (simp; done) | (simp; omega) | omega | (dsimp only; omega)) (a := ⟨w.heap.size + 1, 2, none⟩) (.slice p3 n3 c3))
 replace bel := (((bel.setCell (p := ⟨w.heap.size + 1, 0, none⟩) (by first | (simp; done) | (simp; omega) | omega | (dsimp only; omega)) (.slice p1 n1 c1)).setCell (p := ⟨w.heap.size + 1, 1, none⟩) (by first | (simp; done) | (simp; omega) | omega | (dsimp only; omega)) (.slice p2 n2 c2)).setCell (p := ⟨w.heap.size + 1, 2, none⟩) (by first | (simp; done) | (simp; omega) | omega | (dsimp only; omega)) (.slice p3 n3 c3))
 replace oT : Own _ (w.heap.size + 1) [.slice p1 n1 c1, .slice p2 n2 c2, .slice p3 n3 c3] 43 := (((oT.set 0 (.slice p1 n1 c1)).set 1 (.slice p2 n2 c2)).set 2 (.slice p3 n3 c3))
 clear cL0 cL1 fL zL cT0 cT1 cT2 fT zT cR0 cR1 cR2 fR zR cS0 cS1 cS2 cS3 cS4 fS zS
 generalize (((w2.setCell ⟨w.heap.size + 1, 0, none⟩ (.slice p1 n1 c1)).setCell ⟨w.heap.size + 1, 1, none⟩ (.slice p2 n2 c2)).setCell ⟨w.heap.size + 1, 2, none⟩ (.slice p3 n3 c3)) = w3 at oL oT oR oS SS OO E1 E2 E3 bel ⊢
 obtain ⟨cL0, cL1, fL, zL⟩ := own2 oL
 obtain ⟨cT0, cT1, cT2, fT, zT⟩ := own3 oT
 obtain ⟨cR0, cR1, cR2, fR, zR⟩ := own3 oR
 obtain ⟨cS0, cS1, cS2, cS3, cS4, fS, zS⟩ := own5 oS
 have oL3 := Lib.hid oL
 have oT3 := Lib.hid oT
 have oR3 := Lib.hid oR
 have oS3 := Lib.hid oS
 have E1x := E1
 have E2x := E2
 have E3x := E3
 have SSx := SS
 have OOx := OO
 have BB3 := Lib.hid bel
 have zT3 : w.heap.size + 1 < w3.heap.size := zT
 have zL3 : w.heap.size < w3.heap.size := zL
 have zS3 : bs < w3.heap.size := zS
 have zR3 : w.heap.size + 1 + 1 < w3.heap.size := zR
 go_wp2_with fail
 refine (clone_g _ g0 _ E2.out (by omega)).mono ?_
 rintro e w4 ⟨v4, rfl, r4, hb⟩
 have HB4 := Lib.hid ((Belo.refl w3.heap.size (w.heap.size + 1) w3).to hb)
 replace oL := oL.below hb
 replace oT := oT.below hb
 replace oR := oR.below hb
 replace oS := oS.below hb
 replace SS := Lib.hid (SS.out.below hb)
 replace OO := Lib.hid (OO.out.below hb)
 replace E1 := Lib.hid (E1.out.below hb)
 replace E2 := Lib.hid (E2.out.below hb)
 replace E3 := Lib.hid (E3.out.below hb)
 replace bel := belowTo bel hb (by exact bel.size)
 clear hb
 clear cL0 cL1 fL zL cT0 cT1 cT2 fT zT cR0 cR1 cR2 fR zR cS0 cS1 cS2 cS3 cS4 fS zS
 obtain ⟨cL0, cL1, fL, zL⟩ := own2 oL
 obtain ⟨cT0, cT1, cT2, fT, zT⟩ := own3 oT
 obtain ⟨cR0, cR1, cR2, fR, zR⟩ := own3 oR
 obtain ⟨cS0, cS1, cS2, cS3, cS4, fS, zS⟩ := own5 oS
 obtain ⟨pr, cr, rfl⟩ := row_form r4
 have ROW := Lib.hid r4
 clear r4 E2
 go_wp2_with fail
 replace SS := Lib.hid (((Belo.refl _ _ w4).set 1 (.slice pr g0.length cr)).sln SS.out oT)
 replace OO := Lib.hid (((Belo.refl _ _ w4).set 1 (.slice pr g0.length cr)).nsok OO.out oT)
 replace E1 := Lib.hid (((Belo.refl _ _ w4).set 1 (.slice pr g0.length cr)).slt E1.out numU oT)
 replace E3 := Lib.hid (((Belo.refl _ _ w4).set 1 (.slice pr g0.length cr)).slt E3.out numA oT)
 replace ROW := Lib.hid (row_setT ROW.out oT (by decide) 1 (.slice pr g0.length cr))
 replace HB4 := Lib.hid (HB4.out.set 1 (.slice pr g0.length cr))
 replace oL := (oL.other (by first | (simp; done) | (simp; omega) | omega | (dsimp only; omega)) (a := ⟨w.heap.size + 1, 1, none⟩) (.slice pr g0.length cr))
 replace oR := (oR.other (by first | (simp; done) | (simp; omega) | omega | (dsimp only; omega)) (a := ⟨w.heap.size + 1, 1, none⟩) (.slice pr g0.length cr))
 replace oS := (oS.other (by first | (simp; done) | (simp; omega) | omega | (dsimp only; omega)) (a := ⟨w.heap.size + 1, 1, none⟩) (.slice pr g0.length cr))
 replace bel := (bel.setCell (p := ⟨w.heap.size + 1, 1, none⟩) (by first | (simp; done) | (simp; omega) | omega | (dsimp only; omega)) (.slice pr g0.length cr))
 replace oT : Own _ (w.heap.size + 1) [.slice p1 n1 c1, .slice pr g0.length cr, .slice p3 n3 c3] 43 := (oT.set 1 (.slice pr g0.length cr))
 clear cL0 cL1 fL zL cT0 cT1 cT2 fT zT cR0 cR1 cR2 fR zR cS0 cS1 cS2 cS3 cS4 fS zS
 generalize (w4.setCell ⟨w.heap.size + 1, 1, none⟩ (.slice pr g0.length cr)) = w5 at oL oT oR oS SS OO E1 E3 ROW HB4 bel ⊢
 obtain ⟨cL0, cL1, fL, zL⟩ := own2 oL
 obtain ⟨cT0, cT1, cT2, fT, zT⟩ := own3 oT
 obtain ⟨cR0, cR1, cR2, fR, zR⟩ := own3 oR
 obtain ⟨cS0, cS1, cS2, cS3, cS4, fS, zS⟩ := own5 oS
 have hSl : S.length ≤ 1000 := by have h9 := congrArg List.length HSM.out; simp only [sidL, List.length_map] at h9; omega
 have GI0 := Lib.hid (show GI1 w3 (w.heap.size + 1) (⟨p1, n1, c1⟩ : Sv) (⟨p3, n3, c3⟩ : Sv) pr cr (gL1 me f (S.map Nr.b)) g0 0 w5 from ⟨oT, by simpa [mixG] using ROW.out, HB4.out⟩)
 clear SS OO E1 E3 ROW HB4 bel oL oT oR oS cL0 cL1 fL zL cT0 cT1 cT2 fT zT cR0 cR1 cR2 fR zR cS0 cS1 cS2 cS3 cS4 fS zS
 go_loopw [45] (fun ii wz => ∃ i : Nat, i ≤ g0.length ∧ ii = .int .i64 i ∧ GI1 w3 (w.heap.size + 1) (⟨p1, n1, c1⟩ : Sv) (⟨p3, n3, c3⟩ : Sv) pr cr (gL1 me f (S.map Nr.b)) g0 i wz) (fun ii _ => g0.length - (intOf ii).toNat)
 case atStart => exact ⟨0, by omega, rfl, GI0.out⟩
 case round =>
  obtain ⟨i, hi, rfl, oT, hrow, hB⟩ := hrel
  have HB := Lib.hid hB
  have HROW := Lib.hid hrow
  have OT := Lib.hid oT
  clear hB hrow oT
  have j0 : (0 : Int) ≤ (i : Int) := Int.natCast_nonneg _
  by_cases hlt : i < g0.length
  ·as_aux_lemma =>
    have j1 : (i : Int) < (g0.length : Int) := by omega
    obtain ⟨g, rfl, hg3, hgl⟩ := row_some HROW.out (by omega)
    obtain ⟨d, hd⟩ : ∃ d, g0[i]? = some d := ⟨_, List.getElem?_eq_getElem hlt⟩
    have HD := Lib.hid hd
    have HM := Lib.hid (mixG_at (q := (gL1 me f (S.map Nr.b))) hd)
    clear hd
    have hfz := HROW.out.frozenAt
    have e0 : wr.cell? ⟨g, i * 5, none⟩ = some (.int .i64 d.s) := by have h9 := (HROW.out.cellAt (i * 5 + 0) (by omega)).trans (flatT_at (L := grL) (j := 0) HM.out rfl); simpa using h9
    have e1 : wr.cell? ⟨g, i * 5 + 1, none⟩ = some (.int .i64 d.o) := by have h9 := (HROW.out.cellAt (i * 5 + 1) (by omega)).trans (flatT_at (L := grL) (j := 1) HM.out rfl); simpa using h9
    have e2 : wr.cell? ⟨g, i * 5 + 2, none⟩ = some (.int .i64 d.p) := by have h9 := (HROW.out.cellAt (i * 5 + 2) (by omega)).trans (flatT_at (L := grL) (j := 2) HM.out rfl); simpa using h9
    have e3 : wr.cell? ⟨g, i * 5 + 3, none⟩ = some (.int .i64 d.m) := by have h9 := (HROW.out.cellAt (i * 5 + 3) (by omega)).trans (flatT_at (L := grL) (j := 3) HM.out rfl); simpa using h9
    have e4 : wr.cell? ⟨g, i * 5 + 4, none⟩ = some (.int .i64 d.u) := by have h9 := (HROW.out.cellAt (i * 5 + 4) (by omega)).trans (flatT_at (L := grL) (j := 4) HM.out rfl); simpa using h9
    have oL := HB.out.own oL3.out zL3 (by omega)
    have oR := HB.out.own oR3.out zR3 (by omega)
    have oS := HB.out.own oS3.out zS3 (by omega)
    have SS := Lib.hid (HB.out.sln SSx.out oT3.out)
    have OO := Lib.hid (HB.out.nsok OOx.out oT3.out)
    have oT := OT.out
    have bel := Below.refl wr.heap.size wr
    clear oL oR
    obtain ⟨cS0, cS1, cS2, cS3, cS4, fS, zS⟩ := own5 oS
    obtain ⟨cT0, cT1, cT2, fT, zT⟩ := own3 oT
    cases hfn : fndF d.p (S.map Nr.b) with
    | none =>
     have HQ := Lib.hid (gL1_none (me := me) (f := f) hfn)
     have HFN := Lib.hid hfn
     clear hfn
     go_wp2_with fail
     refine (find_none bs N D me f ⟨sp, S.length, sc⟩ S d.p _ (oS.below (belowNew _ _)) (SS.out.below (belowNew _ _)) (OO.out.below (belowNew _ _)) hSl HFN.out).mono ?_
     rintro e w6 ⟨rfl, hb⟩
     replace oS := (oS.alloc _).below hb
     replace oT := (oT.alloc _).below hb
     replace SS := Lib.hid ((SS.out.below (belowNew _ _)).below hb)
     replace OO := Lib.hid ((OO.out.below (belowNew _ _)).below hb)
     have oG : Own w6 wr.heap.size [.int .i64 d.s, .int .i64 d.o, .int .i64 d.p, .int .i64 d.m, .int .i64 d.u] 52 := (own_at _ _ rfl).below hb
     replace bel := belowTo (bel.alloc (by have := bel.size; first | (simp; done) | (simp; omega)) _) hb (by have := bel.size; first | (simp; done) | (simp; omega))
     clear hb
     clear cS0 cS1 cS2 cS3 cS4 fS zS cT0 cT1 cT2 fT zT
     obtain ⟨cS0, cS1, cS2, cS3, cS4, fS, zS⟩ := own5 oS
     obtain ⟨cT0, cT1, cT2, fT, zT⟩ := own3 oT
     obtain ⟨cG0, cG1, cG2, cG3, cG4, fG, zG⟩ := own5 oG
     go_wp2_with (first | ((with_reducible refine storeNewN nr0 w6.heap.size ?_ ?_ ?_ ?_); (next => exact ⟨_, _, rfl, rfl, rfl⟩); (next => rfl); (next => first | rfl | simp)) | fail)
     go_roundw
     case rel => exact ⟨i + 1, by omega, by go_num, OT.out.below (bel.alloc bel.size _), (by rw [mixG_same HD.out HQ.out]; exact HROW.out.below (bel.alloc bel.size _)), HB.out.next (bel.alloc bel.size _) HB.out.size⟩
     case measure => simp [intOf]; omega
    | some nb =>
     have HFN := Lib.hid hfn
     clear hfn
     cases h1 : hrdB f nb with
     | false =>
      have H1 := Lib.hid h1
      have HQ := Lib.hid (gL1_no1 (me := me) HFN.out h1)
      clear h1
      go_wp2_with fail
      refine (find_some bs N D me f ⟨sp, S.length, sc⟩ S d.p nb _ (oS.below (belowNew _ _)) (SS.out.below (belowNew _ _)) (OO.out.below (belowNew _ _)) hSl HFN.out).mono ?_
      rintro e w6 ⟨r, rfl, rok, hrb, hb⟩
      replace oS := (oS.alloc _).below hb
      replace oT := (oT.alloc _).below hb
      replace SS := Lib.hid ((SS.out.below (belowNew _ _)).below hb)
      replace OO := Lib.hid ((OO.out.below (belowNew _ _)).below hb)
      have oG : Own w6 wr.heap.size [.int .i64 d.s, .int .i64 d.o, .int .i64 d.p, .int .i64 d.m, .int .i64 d.u] 52 := (own_at _ _ rfl).below hb
      replace bel := belowTo (bel.alloc (by have := bel.size; first | (simp; done) | (simp; omega)) _) hb (by have := bel.size; first | (simp; done) | (simp; omega))
      clear hb
      clear cS0 cS1 cS2 cS3 cS4 fS zS cT0 cT1 cT2 fT zT
      obtain ⟨cS0, cS1, cS2, cS3, cS4, fS, zS⟩ := own5 oS
      obtain ⟨cT0, cT1, cT2, fT, zT⟩ := own3 oT
      obtain ⟨cG0, cG1, cG2, cG3, cG4, fG, zG⟩ := own5 oG
      have RK := Lib.hid rok
      clear rok
      subst hrb
      go_wp2_with (first | ((with_reducible refine storeNewN r w6.heap.size ?_ ?_ ?_ ?_); (next => exact ⟨_, _, rfl, rfl, rfl⟩); (next => rfl); (next => first | rfl | simp)) | ((with_reducible refine loadNg r w6.heap.size 0 ?_ ?_ (rg_new w6 r) ?_); (next => exact ⟨_, rfl, rfl⟩); (next => rfl)) | fail)
      refine (calls_bool (hrd_any bs f r _ f0 f1 (oS.below (belowNew _ _)).lt ((oS.below (belowNew _ _)).cell (i := 4) rfl)) H1.out).mono ?_
      rintro e w7 ⟨rfl, hb⟩
      replace oS := (oS.alloc _).below hb
      replace oT := (oT.alloc _).below hb
      replace oG := (oG.alloc _).below hb
      replace SS := Lib.hid ((SS.out.below (belowNew _ _)).below hb)
      replace OO := Lib.hid ((OO.out.below (belowNew _ _)).below hb)
      replace RK := Lib.hid ((RK.out.below (belowNew _ _)).below hb)
      have oN : Own w7 w6.heap.size [.int .i64 r.b.fr, .int .i64 r.b.fm, .int .i64 0, .int .i64 0, .int .i64 0, .int .i64 0, .int .i64 0, .int .i64 0, .int .i64 0, .int .i64 0, .int .i64 0, .int .i64 0, .slice r.vu.p r.vu.n r.vu.c, .slice r.vg.p r.vg.n r.vg.c, .slice r.va.p r.va.n r.va.c, .slice none 0 0, .bool false, .slice none 0 0, .slice none 0 0, .slice none 0 0, .int .i64 0, .int .i64 0, .int .u64 0, .int .i64 0, .int .i64 0, .int .i64 0, .int .i64 0, .int .i64 0, .slice none 0 0, .slice none 0 0, .bool false] 86 := (own_at _ _ rfl).below hb
      replace bel := belowTo (bel.alloc (by have := bel.size; first | (simp; done) | (simp; omega)) _) hb (by have := bel.size; first | (simp; done) | (simp; omega))
      clear hb
      clear cS0 cS1 cS2 cS3 cS4 fS zS cT0 cT1 cT2 fT zT cG0 cG1 cG2 cG3 cG4 fG zG
      obtain ⟨cS0, cS1, cS2, cS3, cS4, fS, zS⟩ := own5 oS
      obtain ⟨cT0, cT1, cT2, fT, zT⟩ := own3 oT
      obtain ⟨cG0, cG1, cG2, cG3, cG4, fG, zG⟩ := own5 oG
      obtain ⟨cN0, cN1, cN12, cN13, cN14, fN, zN⟩ := own_nr (r := r) oN
      go_wp2_with fail
      go_roundw
      case rel => exact ⟨i + 1, by omega, by go_num, OT.out.below (bel), (by rw [mixG_same HD.out HQ.out]; exact HROW.out.below (bel)), HB.out.next (bel) HB.out.size⟩
      case measure => simp [intOf]; omega
     | true =>
      have H1 := Lib.hid h1
      clear h1
      cases h2 : telB me nb d.s d.o with
      | false =>
       have H2 := Lib.hid h2
       clear h2
       have HQ := Lib.hid (gL1_no2 (f := f) HFN.out H2.out)
       go_wp2_with fail
       refine (find_some bs N D me f ⟨sp, S.length, sc⟩ S d.p nb _ (oS.below (belowNew _ _)) (SS.out.below (belowNew _ _)) (OO.out.below (belowNew _ _)) hSl HFN.out).mono ?_
       rintro e w6 ⟨r, rfl, rok, hrb, hb⟩
       replace oS := (oS.alloc _).below hb
       replace oT := (oT.alloc _).below hb
       replace SS := Lib.hid ((SS.out.below (belowNew _ _)).below hb)
       replace OO := Lib.hid ((OO.out.below (belowNew _ _)).below hb)
       have oG : Own w6 wr.heap.size [.int .i64 d.s, .int .i64 d.o, .int .i64 d.p, .int .i64 d.m, .int .i64 d.u] 52 := (own_at _ _ rfl).below hb
       replace bel := belowTo (bel.alloc (by have := bel.size; first | (simp; done) | (simp; omega)) _) hb (by have := bel.size; first | (simp; done) | (simp; omega))
       clear hb
       clear cS0 cS1 cS2 cS3 cS4 fS zS cT0 cT1 cT2 fT zT
       obtain ⟨cS0, cS1, cS2, cS3, cS4, fS, zS⟩ := own5 oS
       obtain ⟨cT0, cT1, cT2, fT, zT⟩ := own3 oT
       obtain ⟨cG0, cG1, cG2, cG3, cG4, fG, zG⟩ := own5 oG
       have RK := Lib.hid rok
       clear rok
       subst hrb
       go_wp2_with (first | ((with_reducible refine storeNewN r w6.heap.size ?_ ?_ ?_ ?_); (next => exact ⟨_, _, rfl, rfl, rfl⟩); (next => rfl); (next => first | rfl | simp)) | ((with_reducible refine loadNg r w6.heap.size 0 ?_ ?_ (rg_new w6 r) ?_); (next => exact ⟨_, rfl, rfl⟩); (next => rfl)) | fail)
       refine (calls_bool (hrd_any bs f r _ f0 f1 (oS.below (belowNew _ _)).lt ((oS.below (belowNew _ _)).cell (i := 4) rfl)) H1.out).mono ?_
       rintro e w7 ⟨rfl, hb⟩
       replace oS := (oS.alloc _).below hb
       replace oT := (oT.alloc _).below hb
       replace oG := (oG.alloc _).below hb
       replace SS := Lib.hid ((SS.out.below (belowNew _ _)).below hb)
       replace OO := Lib.hid ((OO.out.below (belowNew _ _)).below hb)
       replace RK := Lib.hid ((RK.out.below (belowNew _ _)).below hb)
       have oN : Own w7 w6.heap.size [.int .i64 r.b.fr, .int .i64 r.b.fm, .int .i64 0, .int .i64 0, .int .i64 0, .int .i64 0, .int .i64 0, .int .i64 0, .int .i64 0, .int .i64 0, .int .i64 0, .int .i64 0, .slice r.vu.p r.vu.n r.vu.c, .slice r.vg.p r.vg.n r.vg.c, .slice r.va.p r.va.n r.va.c, .slice none 0 0, .bool false, .slice none 0 0, .slice none 0 0, .slice none 0 0, .int .i64 0, .int .i64 0, .int .u64 0, .int .i64 0, .int .i64 0, .int .i64 0, .int .i64 0, .int .i64 0, .slice none 0 0, .slice none 0 0, .bool false] 86 := (own_at _ _ rfl).below hb
       replace bel := belowTo (bel.alloc (by have := bel.size; first | (simp; done) | (simp; omega)) _) hb (by have := bel.size; first | (simp; done) | (simp; omega))
       clear hb
       clear cS0 cS1 cS2 cS3 cS4 fS zS cT0 cT1 cT2 fT zT cG0 cG1 cG2 cG3 cG4 fG zG
       obtain ⟨cS0, cS1, cS2, cS3, cS4, fS, zS⟩ := own5 oS
       obtain ⟨cT0, cT1, cT2, fT, zT⟩ := own3 oT
       obtain ⟨cG0, cG1, cG2, cG3, cG4, fG, zG⟩ := own5 oG
       obtain ⟨cN0, cN1, cN12, cN13, cN14, fN, zN⟩ := own_nr (r := r) oN
       have hrgN : w7.rangeAt w6.heap.size 0 (Nr.cells r) := fun j v hv => by rw [Nat.zero_add]; exact oN.cell hv
       go_wp2_with (first | ((with_reducible refine loadNg r w6.heap.size 0 ?_ ?_ hrgN ?_); (next => exact ⟨_, rfl, rfl⟩); (next => rfl)) | fail)
       clear hrgN
       refine (tel_any bs N D me f ⟨sp, S.length, sc⟩ r d.s d.o false _ oS RK.out H2.out).mono ?_
       rintro e w8 ⟨rfl, hb⟩
       replace oS := oS.below hb
       replace oT := oT.below hb
       replace oG := oG.below hb
       replace oN := oN.below hb
       replace SS := Lib.hid (SS.out.below hb)
       replace OO := Lib.hid (OO.out.below hb)
       replace RK := Lib.hid (RK.out.below hb)
       replace bel := belowTo bel hb (by exact bel.size)
       clear hb
       clear cS0 cS1 cS2 cS3 cS4 fS zS cT0 cT1 cT2 fT zT cG0 cG1 cG2 cG3 cG4 fG zG cN0 cN1 cN12 cN13 cN14 fN zN
       obtain ⟨cS0, cS1, cS2, cS3, cS4, fS, zS⟩ := own5 oS
       obtain ⟨cT0, cT1, cT2, fT, zT⟩ := own3 oT
       obtain ⟨cG0, cG1, cG2, cG3, cG4, fG, zG⟩ := own5 oG
       obtain ⟨cN0, cN1, cN12, cN13, cN14, fN, zN⟩ := own_nr (r := r) oN
       go_wp2_with fail
       go_roundw
       case rel => exact ⟨i + 1, by omega, by go_num, OT.out.below (bel), (by rw [mixG_same HD.out HQ.out]; exact HROW.out.below (bel)), HB.out.next (bel) HB.out.size⟩
       case measure => simp [intOf]; omega
      | true =>
       have H2 := Lib.hid h2
       clear h2
       have HQ := Lib.hid (gL1_yes HFN.out H1.out H2.out)
       go_wp2_with fail
       refine (find_some bs N D me f ⟨sp, S.length, sc⟩ S d.p nb _ (oS.below (belowNew _ _)) (SS.out.below (belowNew _ _)) (OO.out.below (belowNew _ _)) hSl HFN.out).mono ?_
       rintro e w6 ⟨r, rfl, rok, hrb, hb⟩
       replace oS := (oS.alloc _).below hb
       replace oT := (oT.alloc _).below hb
       replace SS := Lib.hid ((SS.out.below (belowNew _ _)).below hb)
       replace OO := Lib.hid ((OO.out.below (belowNew _ _)).below hb)
       have oG : Own w6 wr.heap.size [.int .i64 d.s, .int .i64 d.o, .int .i64 d.p, .int .i64 d.m, .int .i64 d.u] 52 := (own_at _ _ rfl).below hb
       replace bel := belowTo (bel.alloc (by have := bel.size; first | (simp; done) | (simp; omega)) _) hb (by have := bel.size; first | (simp; done) | (simp; omega))
       clear hb
       clear cS0 cS1 cS2 cS3 cS4 fS zS cT0 cT1 cT2 fT zT
       obtain ⟨cS0, cS1, cS2, cS3, cS4, fS, zS⟩ := own5 oS
       obtain ⟨cT0, cT1, cT2, fT, zT⟩ := own3 oT
       obtain ⟨cG0, cG1, cG2, cG3, cG4, fG, zG⟩ := own5 oG
       have RK := Lib.hid rok
       clear rok
       subst hrb
       go_wp2_with (first | ((with_reducible refine storeNewN r w6.heap.size ?_ ?_ ?_ ?_); (next => exact ⟨_, _, rfl, rfl, rfl⟩); (next => rfl); (next => first | rfl | simp)) | ((with_reducible refine loadNg r w6.heap.size 0 ?_ ?_ (rg_new w6 r) ?_); (next => exact ⟨_, rfl, rfl⟩); (next => rfl)) | fail)
       refine (calls_bool (hrd_any bs f r _ f0 f1 (oS.below (belowNew _ _)).lt ((oS.below (belowNew _ _)).cell (i := 4) rfl)) H1.out).mono ?_
       rintro e w7 ⟨rfl, hb⟩
       replace oS := (oS.alloc _).below hb
       replace oT := (oT.alloc _).below hb
       replace oG := (oG.alloc _).below hb
       replace SS := Lib.hid ((SS.out.below (belowNew _ _)).below hb)
       replace OO := Lib.hid ((OO.out.below (belowNew _ _)).below hb)
       replace RK := Lib.hid ((RK.out.below (belowNew _ _)).below hb)
       have oN : Own w7 w6.heap.size [.int .i64 r.b.fr, .int .i64 r.b.fm, .int .i64 0, .int .i64 0, .int .i64 0, .int .i64 0, .int .i64 0, .int .i64 0, .int .i64 0, .int .i64 0, .int .i64 0, .int .i64 0, .slice r.vu.p r.vu.n r.vu.c, .slice r.vg.p r.vg.n r.vg.c, .slice r.va.p r.va.n r.va.c, .slice none 0 0, .bool false, .slice none 0 0, .slice none 0 0, .slice none 0 0, .int .i64 0, .int .i64 0, .int .u64 0, .int .i64 0, .int .i64 0, .int .i64 0, .int .i64 0, .int .i64 0, .slice none 0 0, .slice none 0 0, .bool false] 86 := (own_at _ _ rfl).below hb
       replace bel := belowTo (bel.alloc (by have := bel.size; first | (simp; done) | (simp; omega)) _) hb (by have := bel.size; first | (simp; done) | (simp; omega))
       clear hb
       clear cS0 cS1 cS2 cS3 cS4 fS zS cT0 cT1 cT2 fT zT cG0 cG1 cG2 cG3 cG4 fG zG
       obtain ⟨cS0, cS1, cS2, cS3, cS4, fS, zS⟩ := own5 oS
       obtain ⟨cT0, cT1, cT2, fT, zT⟩ := own3 oT
       obtain ⟨cG0, cG1, cG2, cG3, cG4, fG, zG⟩ := own5 oG
       obtain ⟨cN0, cN1, cN12, cN13, cN14, fN, zN⟩ := own_nr (r := r) oN
       have hrgN : w7.rangeAt w6.heap.size 0 (Nr.cells r) := fun j v hv => by rw [Nat.zero_add]; exact oN.cell hv
       go_wp2_with (first | ((with_reducible refine loadNg r w6.heap.size 0 ?_ ?_ hrgN ?_); (next => exact ⟨_, rfl, rfl⟩); (next => rfl)) | fail)
       clear hrgN
       refine (tel_any bs N D me f ⟨sp, S.length, sc⟩ r d.s d.o true _ oS RK.out H2.out).mono ?_
       rintro e w8 ⟨rfl, hb⟩
       replace oS := oS.below hb
       replace oT := oT.below hb
       replace oG := oG.below hb
       replace oN := oN.below hb
       replace SS := Lib.hid (SS.out.below hb)
       replace OO := Lib.hid (OO.out.below hb)
       replace RK := Lib.hid (RK.out.below hb)
       replace bel := belowTo bel hb (by exact bel.size)
       clear hb
       clear cS0 cS1 cS2 cS3 cS4 fS zS cT0 cT1 cT2 fT zT cG0 cG1 cG2 cG3 cG4 fG zG cN0 cN1 cN12 cN13 cN14 fN zN
       obtain ⟨cS0, cS1, cS2, cS3, cS4, fS, zS⟩ := own5 oS
       obtain ⟨cT0, cT1, cT2, fT, zT⟩ := own3 oT
       obtain ⟨cG0, cG1, cG2, cG3, cG4, fG, zG⟩ := own5 oG
       obtain ⟨cN0, cN1, cN12, cN13, cN14, fN, zN⟩ := own_nr (r := r) oN
       have k4 := (bel.cell (p := ⟨g, i * 5 + 4, none⟩) hgl).trans e4
       have kf := fun o => (bel.frozen (p := ⟨g, o, none⟩) hgl).trans (hfz o)
       have hTg : ¬ w.heap.size + 1 = g := by omega
       by_cases hle : d.u ≤ f + 8
       ·have HU := Lib.hid (show max d.u (f + 8) = f + 8 by omega)
        go_wp2_with fail
        go_roundw
        case rel => exact ⟨i + 1, by omega, by go_num, oT.other (a := ⟨g, i * 5 + 4, none⟩) hTg _, (by rw [← mixG_step HD.out, HQ.out, HU.out]; exact rowG_set (f + 8) (HROW.out.below bel) HM.out), (HB.out.next bel HB.out.size).setB hg3 _ _⟩
        case measure => simp [intOf]; omega
       ·have hle2 : f + 8 < d.u := by omega
        clear hle
        have HU := Lib.hid (show max d.u (f + 8) = d.u by omega)
        go_wp2_with fail
        go_roundw
        case rel => exact ⟨i + 1, by omega, by go_num, oT.other (a := ⟨g, i * 5 + 4, none⟩) hTg _, (by rw [← mixG_step HD.out, HQ.out, HU.out]; exact rowG_set (d.u) (HROW.out.below bel) HM.out), (HB.out.next bel HB.out.size).setB hg3 _ _⟩
        case measure => simp [intOf]; omega
  ·obtain ⟨wl, rfl⟩ : ∃ wo : World, wo = wr := ⟨_, rfl⟩
   obtain rfl : i = g0.length := by omega
   have HVT := Lib.hid (show Tb.Val N D ⟨us, g0.map (gL1 me f (S.map Nr.b)), ks⟩ from by rw [← HG0.out, HSM.out]; exact grt0_val HVAL.out (side_f HS.out).2)
   obtain ⟨T1, hT1⟩ : ∃ T1 : Tb, T1 = ⟨us, g0.map (gL1 me f (S.map Nr.b)), ks⟩ := ⟨_, rfl⟩
   have HT1 := Lib.hid hT1
   rw [← hT1] at HVT
   have HTAB := Lib.hid (show TabW wl (w.heap.size + 1) T1 from by rw [hT1]; exact ⟨⟨p1, n1, c1⟩, ⟨pr, g0.length, cr⟩, ⟨p3, n3, c3⟩, OT.out, HB.out.slt E1x.out numU oT3.out, slt_of_own (L := grL) (by have h9 := HROW.out; rw [mixG_end] at h9; rw [List.length_map]; exact h9), HB.out.slt E3x.out numA oT3.out⟩)
   clear hT1
   have oL := HB.out.own oL3.out zL3 (by omega)
   have oR := HB.out.own oR3.out zR3 (by omega)
   have oS := HB.out.own oS3.out zS3 (by omega)
   have SS := Lib.hid (HB.out.sln SSx.out oT3.out)
   have OO := Lib.hid (HB.out.nsok OOx.out oT3.out)
   have oT := OT.out
   have oLl := Lib.hid oL
   have oRl := Lib.hid oR
   have oSl := Lib.hid oS
   have oTl := Lib.hid oT
   have SSl := SS
   have OOl := OO
   have zTl : w.heap.size + 1 < wl.heap.size := oT.lt
   have zLl : w.heap.size < wl.heap.size := oL.lt
   have zSl : bs < wl.heap.size := oS.lt
   have zRl : w.heap.size + 1 + 1 < wl.heap.size := oR.lt
   have BBl := Lib.hid (BB3.out.trans (HB.out.below (C := w.heap.size) (by omega) (by omega)))
   clear HROW OT HB
   obtain ⟨cS0, cS1, cS2, cS3, cS4, fS, zS⟩ := own5 oS
   go_wp2_with fail
   go_step3
   go_wp2_with fail
   clear cS0 cS1 cS2 cS3 cS4 fS zS oL oR oS oT SS OO
   go_loopw [86] (fun ii wz => ∃ i : Nat, i ≤ S.length ∧ ii = .int .i64 i ∧ GI2 wl (w.heap.size + 1) (((S.take i).map Nr.b).foldl (gtN N D me f (S.map Nr.b)) T1) wz) (fun ii _ => S.length - (intOf ii).toNat)
   case atStart => exact ⟨0, by omega, rfl, Belo.refl _ _ _, HTAB.out⟩
   case round =>
    obtain ⟨wo, rfl⟩ : ∃ wo : World, wo = wr := ⟨_, rfl⟩
    obtain ⟨i, hi2, rfl, hB, htab⟩ := hrel
    obtain ⟨Ti, hTi⟩ : ∃ Ti, ((S.take i).map Nr.b).foldl (gtN N D me f (S.map Nr.b)) T1 = Ti := ⟨_, rfl⟩
    have HVi := Lib.hid (show Ti.Val N D from by rw [← hTi]; exact foldl_inv (P := fun T : Tb => T.Val N D) (fun _ _ _ h => gtN_val h) HVT.out)
    rw [hTi] at htab
    have HTi := Lib.hid hTi
    have HB := Lib.hid hB
    have HTB := Lib.hid htab
    clear hB htab hTi
    have j0 : (0 : Int) ≤ (i : Int) := Int.natCast_nonneg _
    by_cases hlt2 : i < S.length
    ·have oL := HB.out.own oLl.out zLl (by omega)
     have oR := HB.out.own oRl.out zRl (by omega)
     have oS := HB.out.own oSl.out zSl (by omega)
     have SS := Lib.hid (HB.out.sln SSl.out oTl.out)
     have OO := Lib.hid (HB.out.nsok OOl.out oTl.out)
     obtain ⟨d, b, off, hd, rfl, hbl, _, hrg⟩ := SS.out.atN (Below.refl _ _) hlt2
     have j1 : (i : Int) < (S.length : Int) := by omega
     have HD := Lib.hid hd
     have HR := Lib.hid hrg
     have HMEM := Lib.hid (mem_of_at hd)
     clear hd hrg
     have bel := Below.refl wo.heap.size wo
     clear oR oL
     obtain ⟨cS0, cS1, cS2, cS3, cS4, fS, zS⟩ := own5 oS
     cases hh : hrdB f d.b with
     | false =>
      have HH := Lib.hid hh
      clear hh
      go_wp2_with (first | ((with_reducible refine loadN d b (off + i * 31) ?_ ?_ HR.out ?_); (next => rfl); (next => exact ⟨_, rfl, rfl⟩)) | ((with_reducible refine storeNewN d wo.heap.size ?_ ?_ ?_ ?_); (next => exact ⟨_, _, rfl, rfl, rfl⟩); (next => rfl); (next => first | rfl | simp)) | ((with_reducible refine loadNg d wo.heap.size 0 ?_ ?_ (rg_new wo d) ?_); (next => exact ⟨_, rfl, rfl⟩); (next => rfl)) | fail)
      refine (calls_bool (hrd_any bs f d _ f0 f1 (oS.below (belowNew _ _)).lt ((oS.below (belowNew _ _)).cell (i := 4) rfl)) HH.out).mono ?_
      rintro e w2 ⟨rfl, hb⟩
      replace oS := (oS.alloc _).below hb
      replace SS := Lib.hid ((SS.out.below (belowNew _ _)).below hb)
      replace OO := Lib.hid ((OO.out.below (belowNew _ _)).below hb)
      have oN : Own w2 wo.heap.size [.int .i64 d.b.fr, .int .i64 d.b.fm, .int .i64 0, .int .i64 0, .int .i64 0, .int .i64 0, .int .i64 0, .int .i64 0, .int .i64 0, .int .i64 0, .int .i64 0, .int .i64 0, .slice d.vu.p d.vu.n d.vu.c, .slice d.vg.p d.vg.n d.vg.c, .slice d.va.p d.va.n d.va.c, .slice none 0 0, .bool false, .slice none 0 0, .slice none 0 0, .slice none 0 0, .int .i64 0, .int .i64 0, .int .u64 0, .int .i64 0, .int .i64 0, .int .i64 0, .int .i64 0, .int .i64 0, .slice none 0 0, .slice none 0 0, .bool false] 86 := (own_at _ _ rfl).below hb
      replace bel := belowTo (bel.alloc (by have := bel.size; first | (simp; done) | (simp; omega)) _) hb (by have := bel.size; first | (simp; done) | (simp; omega))
      clear hb
      clear cS0 cS1 cS2 cS3 cS4 fS zS
      obtain ⟨cS0, cS1, cS2, cS3, cS4, fS, zS⟩ := own5 oS
      obtain ⟨cN0, cN1, cN12, cN13, cN14, fN, zN⟩ := own_nr (r := d) oN
      go_wp2_with fail
      go_roundw
      case rel => exact ⟨i + 1, by omega, by go_num, HB.out.next bel HB.out.size, by rw [fold_stepM HD.out, HTi.out, gtN_skip HH.out]; exact HTB.out.below bel⟩
      case measure => simp [intOf]; omega
     | true =>
      have HH := Lib.hid hh
      clear hh
      go_wp2_with (first | ((with_reducible refine loadN d b (off + i * 31) ?_ ?_ HR.out ?_); (next => rfl); (next => exact ⟨_, rfl, rfl⟩)) | ((with_reducible refine storeNewN d wo.heap.size ?_ ?_ ?_ ?_); (next => exact ⟨_, _, rfl, rfl, rfl⟩); (next => rfl); (next => first | rfl | simp)) | ((with_reducible refine loadNg d wo.heap.size 0 ?_ ?_ (rg_new wo d) ?_); (next => exact ⟨_, rfl, rfl⟩); (next => rfl)) | fail)
      refine (calls_bool (hrd_any bs f d _ f0 f1 (oS.below (belowNew _ _)).lt ((oS.below (belowNew _ _)).cell (i := 4) rfl)) HH.out).mono ?_
      rintro e w2 ⟨rfl, hb⟩
      replace oS := (oS.alloc _).below hb
      replace SS := Lib.hid ((SS.out.below (belowNew _ _)).below hb)
      replace OO := Lib.hid ((OO.out.below (belowNew _ _)).below hb)
      have oN : Own w2 wo.heap.size [.int .i64 d.b.fr, .int .i64 d.b.fm, .int .i64 0, .int .i64 0, .int .i64 0, .int .i64 0, .int .i64 0, .int .i64 0, .int .i64 0, .int .i64 0, .int .i64 0, .int .i64 0, .slice d.vu.p d.vu.n d.vu.c, .slice d.vg.p d.vg.n d.vg.c, .slice d.va.p d.va.n d.va.c, .slice none 0 0, .bool false, .slice none 0 0, .slice none 0 0, .slice none 0 0, .int .i64 0, .int .i64 0, .int .u64 0, .int .i64 0, .int .i64 0, .int .i64 0, .int .i64 0, .int .i64 0, .slice none 0 0, .slice none 0 0, .bool false] 86 := (own_at _ _ rfl).below hb
      replace bel := belowTo (bel.alloc (by have := bel.size; first | (simp; done) | (simp; omega)) _) hb (by have := bel.size; first | (simp; done) | (simp; omega))
      clear hb
      clear cS0 cS1 cS2 cS3 cS4 fS zS
      obtain ⟨cS0, cS1, cS2, cS3, cS4, fS, zS⟩ := own5 oS
      obtain ⟨cN0, cN1, cN12, cN13, cN14, fN, zN⟩ := own_nr (r := d) oN
      generalize hap : d.va.p = ap at oN cN14
      generalize han : d.va.n = an at oN cN14
      generalize hac : d.va.c = ac at oN cN14
      have HVA := Lib.hid (show d.va.v = .slice ap an ac by rw [← hap, ← han, ← hac]; rfl)
      clear hap han hac
      have hka := (OO.out d HMEM.out).2.2
      rw [HVA.out] at hka
      have e2 := hka.len_eq
      have hkl : d.b.ks.length ≤ maxLen := by obtain ⟨_, q, _, h1, h2, _⟩ := hka.form _ rfl; omega
      unfold maxLen at hkl
      clear hka
      subst e2
      obtain ⟨bN, hbN⟩ : ∃ bN, wo.heap.size = bN := ⟨_, rfl⟩
      have hNl : wl.heap.size ≤ bN := by rw [← hbN]; exact HB.out.size
      have hNT : bN ≠ w.heap.size + 1 := by omega
      rw [hbN] at oN cN0 cN1 cN12 cN13 cN14 zN fN
      have HBN := Lib.hid hbN
      clear hbN
      have HB2 := Lib.hid (HB.out.next bel HB.out.size)
      have HTB2 := Lib.hid (HTB.out.below bel)
      have oNl := Lib.hid oN
      rw [HBN.out]
      go_wp2_with fail
      clear cS0 cS1 cS2 cS3 cS4 fS zS cN0 cN1 cN12 cN13 cN14 fN zN oS oN SS OO bel HB HTB
      go_loopw [98] (fun jj wz => ∃ j : Nat, j ≤ d.b.ks.length ∧ jj = .int .i64 j ∧ GI3 wl (w.heap.size + 1) bN [.int .i64 d.b.fr, .int .i64 d.b.fm, .int .i64 0, .int .i64 0, .int .i64 0, .int .i64 0, .int .i64 0, .int .i64 0, .int .i64 0, .int .i64 0, .int .i64 0, .int .i64 0, .slice d.vu.p d.vu.n d.vu.c, .slice d.vg.p d.vg.n d.vg.c, .slice ap d.b.ks.length ac, .slice none 0 0, .bool false, .slice none 0 0, .slice none 0 0, .slice none 0 0, .int .i64 0, .int .i64 0, .int .u64 0, .int .i64 0, .int .i64 0, .int .i64 0, .int .i64 0, .int .i64 0, .slice none 0 0, .slice none 0 0, .bool false] ((d.b.ks.take j).foldl (gtA N D me f (S.map Nr.b) d.b.fm) Ti) wz) (fun jj _ => d.b.ks.length - (intOf jj).toNat)
      case atStart => exact ⟨0, by omega, rfl, HB2.out, HTB2.out, oNl.out⟩
      case round =>
       obtain ⟨j, hj, rfl, hB, htab, oN⟩ := hrel
       obtain ⟨Tj, hTj⟩ : ∃ Tj, (d.b.ks.take j).foldl (gtA N D me f (S.map Nr.b) d.b.fm) Ti = Tj := ⟨_, rfl⟩
       have HVj := Lib.hid (show Tj.Val N D from by rw [← hTj]; exact foldl_inv (P := fun T : Tb => T.Val N D) (fun _ _ _ h => gtA_val h) HVi.out)
       rw [hTj] at htab
       have HTj := Lib.hid hTj
       have HB := Lib.hid hB
       have HTB := Lib.hid htab
       have ON := Lib.hid oN
       clear hB htab hTj oN
       have i0 : (0 : Int) ≤ (j : Int) := Int.natCast_nonneg _
       by_cases hlt3 : j < d.b.ks.length
       ·have oL := HB.out.own oLl.out zLl (by omega)
        have oR := HB.out.own oRl.out zRl (by omega)
        have oS := HB.out.own oSl.out zSl (by omega)
        have SS := Lib.hid (HB.out.sln SSl.out oTl.out)
        have OO := Lib.hid (HB.out.nsok OOl.out oTl.out)
        have hka := (OO.out d HMEM.out).2.2
        rw [HVA.out] at hka
        obtain ⟨x, bx, ox, hx, rfl, hbxl, _, x0, x1, x2⟩ := hka.atA (Below.refl _ _) hlt3
        have i1 : (j : Int) < (d.b.ks.length : Int) := by omega
        have HX := Lib.hid hx
        clear hx hka
        have oN := ON.out
        have bel := Below.refl wr.heap.size wr
        obtain ⟨su, sg, sa, oT, t1, t2, t3⟩ := HTB.out
        have TU := Lib.hid t1
        have TG := Lib.hid t2
        have TA := Lib.hid t3
        have hl2 := us_len HVj.out
        clear t1 t2 t3 oR
        obtain ⟨cL0, cL1, fL, zL⟩ := own2 oL
        obtain ⟨cS0, cS1, cS2, cS3, cS4, fS, zS⟩ := own5 oS
        obtain ⟨cT0, cT1, cT2, fT, zT⟩ := own3 oT
        have cN1 := oN.cell (i := 1) rfl
        have fN := oN.frozen
        have zN := oN.lt
        cases hp : (x.p == me) with
        | false =>
         have hp2 : (x.p != me) = true := by simpa using hp
         have HC := Lib.hid (show (x.p == me && !usdB (S.map Nr.b) x.s x.o d.b.fm) = false by rw [hp]; rfl)
         go_wp2_with fail
         go_roundw
         case rel => exact ⟨j + 1, by omega, by go_num, HB.out.next (belowNew _ _) HB.out.size, by rw [fold_step HX.out, HTj.out, gtA_skip HC.out]; exact HTB.out.below (belowNew _ _), ON.out.below (belowNew _ _)⟩
         case measure => simp [intOf]; omega
        | true =>
         have hp2 : (x.p != me) = false := by simpa using hp
         obtain ⟨xu, hxu⟩ : ∃ xu, usdB (S.map Nr.b) x.s x.o d.b.fm = xu := ⟨_, rfl⟩
         have HXU := Lib.hid hxu
         have HP := Lib.hid hp
         cases xu with
         | true =>
          have HC := Lib.hid (show (x.p == me && !usdB (S.map Nr.b) x.s x.o d.b.fm) = false by rw [hxu]; simp)
          clear hxu hp
          go_wp2_with fail
          refine (usd_any bs N D me f ⟨_, S.length, sc⟩ S x.s x.o d.b.fm true _ (oS.below (belowNew _ _)) (SS.out.below (belowNew _ _)) (OO.out.below (belowNew _ _)) HXU.out).mono ?_
          rintro e w6 ⟨rfl, hb⟩
          replace oL := (oL.alloc _).below hb
          replace oS := (oS.alloc _).below hb
          replace oT := (oT.alloc _).below hb
          replace oN := (oN.alloc _).below hb
          replace SS := Lib.hid ((SS.out.below (belowNew _ _)).below hb)
          replace OO := Lib.hid ((OO.out.below (belowNew _ _)).below hb)
          replace TU := Lib.hid ((TU.out.below (belowNew _ _)).below hb)
          replace TG := Lib.hid ((TG.out.below (belowNew _ _)).below hb)
          replace TA := Lib.hid ((TA.out.below (belowNew _ _)).below hb)
          have oA : Own w6 wr.heap.size [.int .i64 x.s, .int .i64 x.o, .int .i64 x.p] 81 := (own_at _ _ rfl).below hb
          replace bel := belowTo (bel.alloc (by have := bel.size; first | (simp; done) | (simp; omega)) _) hb (by have := bel.size; first | (simp; done) | (simp; omega))
          clear hb
          clear cL0 cL1 fL zL cS0 cS1 cS2 cS3 cS4 fS zS cT0 cT1 cT2 fT zT cN1 fN zN
          obtain ⟨cL0, cL1, fL, zL⟩ := own2 oL
          obtain ⟨cS0, cS1, cS2, cS3, cS4, fS, zS⟩ := own5 oS
          obtain ⟨cT0, cT1, cT2, fT, zT⟩ := own3 oT
          have cN1 := oN.cell (i := 1) rfl
          have fN := oN.frozen
          have zN := oN.lt
          obtain ⟨cA0, cA1, cA2, fA, zA⟩ := own3 oA
          go_wp2_with fail
          go_roundw
          case rel => exact ⟨j + 1, by omega, by go_num, HB.out.next bel HB.out.size, by rw [fold_step HX.out, HTj.out, gtA_skip HC.out]; exact HTB.out.below bel, ON.out.below bel⟩
          case measure => simp [intOf]; omega
         | false =>
          have HC := Lib.hid (show (x.p == me && !usdB (S.map Nr.b) x.s x.o d.b.fm) = true by rw [hxu, hp]; rfl)
          clear hxu hp
          go_wp2_with fail
          refine (usd_any bs N D me f ⟨_, S.length, sc⟩ S x.s x.o d.b.fm false _ (oS.below (belowNew _ _)) (SS.out.below (belowNew _ _)) (OO.out.below (belowNew _ _)) HXU.out).mono ?_
          rintro e w6 ⟨rfl, hb⟩
          replace oL := (oL.alloc _).below hb
          replace oS := (oS.alloc _).below hb
          replace oT := (oT.alloc _).below hb
          replace oN := (oN.alloc _).below hb
          replace SS := Lib.hid ((SS.out.below (belowNew _ _)).below hb)
          replace OO := Lib.hid ((OO.out.below (belowNew _ _)).below hb)
          replace TU := Lib.hid ((TU.out.below (belowNew _ _)).below hb)
          replace TG := Lib.hid ((TG.out.below (belowNew _ _)).below hb)
          replace TA := Lib.hid ((TA.out.below (belowNew _ _)).below hb)
          have oA : Own w6 wr.heap.size [.int .i64 x.s, .int .i64 x.o, .int .i64 x.p] 81 := (own_at _ _ rfl).below hb
          replace bel := belowTo (bel.alloc (by have := bel.size; first | (simp; done) | (simp; omega)) _) hb (by have := bel.size; first | (simp; done) | (simp; omega))
          clear hb
          clear cL0 cL1 fL zL cS0 cS1 cS2 cS3 cS4 fS zS cT0 cT1 cT2 fT zT cN1 fN zN
          obtain ⟨cL0, cL1, fL, zL⟩ := own2 oL
          obtain ⟨cS0, cS1, cS2, cS3, cS4, fS, zS⟩ := own5 oS
          obtain ⟨cT0, cT1, cT2, fT, zT⟩ := own3 oT
          have cN1 := oN.cell (i := 1) rfl
          have fN := oN.frozen
          have zN := oN.lt
          obtain ⟨cA0, cA1, cA2, fA, zA⟩ := own3 oA
          obtain ⟨E, hE⟩ : ∃ E, agE N D Tj.us Tj.gs Tj.ks ⟨x.s, x.o, d.b.fm, f, f + 8⟩ = E := ⟨_, rfl⟩
          have HE := Lib.hid hE
          clear hE
          go_wp2_with fail
          refine (addg_lit _ _ _ Tj.us Tj.gs Tj.ks N D _ TU.out TG.out TA.out ⟨x.s, x.o, d.b.fm, f, f + 8⟩ (by omega) (by omega) (by omega) E HE.out).mono ?_
          rintro e w7 ⟨v1, v2, v3, rfl, e1, e2, e3, hb⟩
          replace oL := oL.below hb
          replace oS := oS.below hb
          replace oT := oT.below hb
          replace oN := oN.below hb
          replace oA := oA.below hb
          replace SS := Lib.hid (SS.out.below hb)
          replace OO := Lib.hid (OO.out.below hb)
          replace TU := Lib.hid (TU.out.below hb)
          replace TG := Lib.hid (TG.out.below hb)
          replace TA := Lib.hid (TA.out.below hb)
          replace bel := belowTo bel hb (by exact bel.size)
          clear hb
          clear cL0 cL1 fL zL cS0 cS1 cS2 cS3 cS4 fS zS cT0 cT1 cT2 fT zT cN1 fN zN cA0 cA1 cA2 fA zA
          obtain ⟨cL0, cL1, fL, zL⟩ := own2 oL
          obtain ⟨cS0, cS1, cS2, cS3, cS4, fS, zS⟩ := own5 oS
          obtain ⟨cT0, cT1, cT2, fT, zT⟩ := own3 oT
          have cN1 := oN.cell (i := 1) rfl
          have fN := oN.frozen
          have zN := oN.lt
          obtain ⟨cA0, cA1, cA2, fA, zA⟩ := own3 oA
          obtain ⟨y1, m1, k1, rfl⟩ := e1.slc
          obtain ⟨y2, m2, k2, rfl⟩ := e2.slc
          obtain ⟨y3, m3, k3, rfl⟩ := e3.slc
          have E1 := Lib.hid e1
          have E2 := Lib.hid e2
          have E3 := Lib.hid e3
          clear e1 e2 e3
          by_cases hE0 : E = 0
          ·subst hE0
           have HEs := Lib.hid HE.out
           have TN := Lib.hid ((set3_tab (T := ⟨Tj.us, adG ⟨x.s, x.o, d.b.fm, f, f + 8⟩ Tj.gs, una x.s Tj.ks⟩) (su := ⟨y1, m1, k1⟩) (sg := ⟨y2, m2, k2⟩) (sa := ⟨y3, m3, k3⟩) oT E1.out E2.out E3.out).below (belowNew _ (Obj.cells #[.slice y1 m1 k1, .slice y2 m2 k2, .slice y3 m3 k3] 43)))
           have BN := Lib.hid (((HB.out.next bel HB.out.size).set3 (.slice y1 m1 k1) (.slice y2 m2 k2) (.slice y3 m3 k3)).next (belowNew _ (Obj.cells #[.slice y1 m1 k1, .slice y2 m2 k2, .slice y3 m3 k3] 43)) (by have h1 := HB.out.size; have h2 := bel.size; simp; omega))
           have NN := Lib.hid (((((ON.out.below bel).other (a := ⟨w.heap.size + 1, 0, none⟩) hNT (.slice y1 m1 k1)).other (a := ⟨w.heap.size + 1, 1, none⟩) hNT (.slice y2 m2 k2)).other (a := ⟨w.heap.size + 1, 2, none⟩) hNT (.slice y3 m3 k3)).below (belowNew _ (Obj.cells #[.slice y1 m1 k1, .slice y2 m2 k2, .slice y3 m3 k3] 43)))
           go_wp2_with fail
           go_roundw
           case rel => exact ⟨j + 1, by omega, by go_num, BN.out, by rw [fold_step HX.out, HTj.out, gtA_ok HC.out HEs.out]; exact TN.out, NN.out⟩
           case measure => simp [intOf]; omega
          ·have hE1 : (E == 0) = false := by simpa using hE0
           have HC2 := Lib.hid (show ¬ agE N D Tj.us Tj.gs Tj.ks ⟨x.s, x.o, d.b.fm, f, f + 8⟩ = 0 by rw [HE.out]; exact hE0)
           clear hE0
           go_wp2_with fail
           go_roundw
           case rel => exact ⟨j + 1, by omega, by go_num, HB.out.next (bel.alloc bel.size _) HB.out.size, by rw [fold_step HX.out, HTj.out, gtA_not HC.out HC2.out]; exact HTB.out.below (bel.alloc bel.size _), ON.out.below (bel.alloc bel.size _)⟩
           case measure => simp [intOf]; omega
       ·have HTe := Lib.hid (show Tj = d.b.ks.foldl (gtA N D me f (S.map Nr.b) d.b.fm) Ti by rw [← HTj.out, List.take_of_length_le (by omega)])
        go_wp2_with fail
        go_roundw
        case rel => exact ⟨i + 1, by omega, by go_num, HB.out, by rw [fold_stepM HD.out, HTi.out, gtN_do HH.out, ← HTe.out]; exact HTB.out⟩
        case measure => simp [intOf]; omega
    ·have oL := HB.out.own oLl.out zLl (by omega)
     have oR := HB.out.own oRl.out zRl (by omega)
     have oS := HB.out.own oSl.out zSl (by omega)
     have SS := Lib.hid (HB.out.sln SSl.out oTl.out)
     have OO := Lib.hid (HB.out.nsok OOl.out oTl.out)
     obtain ⟨su, sg, sa, oT, t1, t2, t3⟩ := HTB.out
     have TU := Lib.hid t1
     have TG := Lib.hid t2
     have TA := Lib.hid t3
     have HTe := Lib.hid (show Ti = grtF N D ⟨us, gs, ks⟩ me (l.map Nr.b) f from by rw [← HTi.out, List.take_of_length_le (by omega), grtF, if_pos HS.out, HT1.out, HSM.out, HG0.out])
     have bel := BBl.out.trans (HB.out.below (by omega) (by omega))
     clear t1 t2 t3 oL
     obtain ⟨cR0, cR1, cR2, fR, zR⟩ := own3 oR
     obtain ⟨cT0, cT1, cT2, fT, zT⟩ := own3 oT
     go_wp2_with fail
     replace TU := Lib.hid (TU.out.set3 numU oR (.slice su.p su.n su.c) (.slice sg.p sg.n sg.c) (.slice sa.p sa.n sa.c))
     replace TG := Lib.hid (TG.out.set3 numG oR (.slice su.p su.n su.c) (.slice sg.p sg.n sg.c) (.slice sa.p sa.n sa.c))
     replace TA := Lib.hid (TA.out.set3 numA oR (.slice su.p su.n su.c) (.slice sg.p sg.n sg.c) (.slice sa.p sa.n sa.c))
     replace oT := (((oT.other (by first | (simp; done) | (simp; omega) | omega | (dsimp only; omega)) (a := ⟨w.heap.size + 1 + 1, 0, none⟩) (.slice su.p su.n su.c)).other (by first | (simp; done) | (simp; omega) | omega | (dsimp only; omega)) (a := ⟨w.heap.size + 1 + 1, 1, none⟩) (.slice sg.p sg.n sg.c)).other (by first | (simp; done) | (simp; omega) | omega | (dsimp only; omega)) (a := ⟨w.heap.size + 1 + 1, 2, none⟩) (.slice sa.p sa.n sa.c))
     replace bel := (((bel.setCell (p := ⟨w.heap.size + 1 + 1, 0, none⟩) (by first | (simp; done) | (simp; omega) | omega | (dsimp only; omega)) (.slice su.p su.n su.c)).setCell (p := ⟨w.heap.size + 1 + 1, 1, none⟩) (by first | (simp; done) | (simp; omega) | omega | (dsimp only; omega)) (.slice sg.p sg.n sg.c)).setCell (p := ⟨w.heap.size + 1 + 1, 2, none⟩) (by first | (simp; done) | (simp; omega) | omega | (dsimp only; omega)) (.slice sa.p sa.n sa.c))
     replace oR : Own _ (w.heap.size + 1 + 1) [.slice su.p su.n su.c, .slice sg.p sg.n sg.c, .slice sa.p sa.n sa.c] 43 := (((oR.set 0 (.slice su.p su.n su.c)).set 1 (.slice sg.p sg.n sg.c)).set 2 (.slice sa.p sa.n sa.c))
     clear cR0 cR1 cR2 fR zR cT0 cT1 cT2 fT zT
     generalize (((wo.setCell ⟨w.heap.size + 1 + 1, 0, none⟩ (.slice su.p su.n su.c)).setCell ⟨w.heap.size + 1 + 1, 1, none⟩ (.slice sg.p sg.n sg.c)).setCell ⟨w.heap.size + 1 + 1, 2, none⟩ (.slice sa.p sa.n sa.c)) = wf at oR oT TU TG TA bel ⊢
     obtain ⟨cR0, cR1, cR2, fR, zR⟩ := own3 oR
     obtain ⟨cT0, cT1, cT2, fT, zT⟩ := own3 oT
     try rw [Exit.noGoto_ret]
     rw [← HTe.out]
     refine bodyPost_ret (v := .agg #[.slice su.p su.n su.c, .slice sg.p sg.n sg.c, .slice sa.p sa.n sa.c]) (by simp [results, Tryz.results13, go_sem, *]) rfl ⟨_, _, _, rfl, TU.out, TG.out, TA.out, bel⟩
theorem grt_any (vu vg va : Value) (us : List Us) (gs : List Gr) (ks : List Ak) (N D me f : Int) (v : Value) (l : List Nr) (w : World) (su : SlU w vu us) (sg : SlG w vg gs) (sa : SlA w va ks) (u70 : us.length ≤ 70) (g70 : gs.length ≤ 70) (k70 : ks.length ≤ 70) (sl : SlN w v l) (ho : NsOk w l) (h1000 : l.length ≤ 1000) (hfew : ∀ r ∈ l, r.b.us.length ≤ 100 ∧ r.b.gs.length ≤ 100 ∧ r.b.ks.length ≤ 100) (f0 : 0 ≤ f) (f1 : f ≤ 1000000) : Calls Tryz.prog 13 #[.agg #[.int .i64 N, .int .i64 D], .agg #[vu, vg, va], .int .i64 me, v, .int .i64 f] w (TblP w (grtF N D ⟨us, gs, ks⟩ me (l.map Nr.b) f).us (grtF N D ⟨us, gs, ks⟩ me (l.map Nr.b) f).gs (grtF N D ⟨us, gs, ks⟩ me (l.map Nr.b) f).ks) := by
 cases hs : sideB N D ⟨us, gs, ks⟩ me (l.map Nr.b) f with
 | false => rw [show grtF N D ⟨us, gs, ks⟩ me (l.map Nr.b) f = ⟨us, gs, ks⟩ by simp [grtF, hs]]; exact grt_bad vu vg va us gs ks N D me f v l w su sg sa u70 g70 k70 sl ho h1000 hfew f0 f1 hs
 | true => exact grt_ok vu vg va us gs ks N D me f v l w su sg sa u70 g70 k70 sl ho h1000 hfew f0 f1 hs
end Go.Proofs.YtmopiifamopidaaGreat
end

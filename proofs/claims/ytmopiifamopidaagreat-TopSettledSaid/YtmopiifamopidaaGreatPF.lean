/- What cells.Valid returns, for slices of at most 70 entries. No condition but those named. -/
import Derived.Test.YtmopiifamopidaaGreatPB
import Derived.Test.YtmopiifamopidaaGreatPC
import Derived.Test.YtmopiifamopidaaGreatPA
set_option linter.unusedVariables false
set_option linter.unusedSimpArgs false
section
namespace Go.Proofs.YtmopiifamopidaaGreat
open Go.RowKit Go.Maps
def SndP (w : World) (B n : Nat) (ks more : List Int) (x : Bool) (e : Ending) (w' : World) : Prop := e = .returned (.bool x) ∧ w.grownBy w' (some B) ∧ (x = true → CntM w' B (n + more.length) (ks ++ more))
theorem CntM.step {w' : World} {b n : Nat} {ks : List Int} {D : DataW Unit} {k : Int} {c : Int} (hm : Maps.IsMap D) (hD : ∀ k : Int, D.atKey (.int .i64 k) (.lit (.int .i64 0)) = .lit (.int .i64 (ks.count k)) ∧ (Maps.has D (.int .i64 k) = true ↔ k ∈ ks))
  (hat : D.atKey (.int .i64 k) (.lit (.int .i64 0)) = .lit (.int .i64 c)) (ho : w'.ownsMap Tryz.prog 3 (plainElem (H := Unit) Tryz.prog 3) b (n + 1) (D.put (.int .i64 k) (.lit (.int .i64 (c + 1))))) : CntM w' b (n + 1) (ks ++ [k]) := by
 have hc : c = ks.count k := by
  have := (hD k).1
  rw [hat] at this
  simpa using this
 refine ⟨_, ho, hm.put _ _, fun j => ?_⟩
 by_cases e : j = k
 ·subst e
  have hk : Maps.has (D.put (.int .i64 j) (.lit (.int .i64 (c + 1)))) (.int .i64 j) = true := Maps.has_put_same hm (show WideAt.IsKeyLit (.int .i64 j) from trivial) _
  refine ⟨?_, by simp [hk]⟩
  rw [Maps.atKey_put_same hm (show WideAt.IsKeyLit (.int .i64 j) from trivial), hc]
  simp
 ·have hne : (Lit.int .i64 j) ≠ .int .i64 k := fun h => e (by injection h)
  rw [Maps.atKey_put_other hne, Maps.has_put_other hne, (hD j).1, (hD j).2]
  refine ⟨?_, by simp [e]⟩
  rw [List.count_append, List.count_eq_zero.2 (show j ∉ [k] by simpa using e)]
  simp
theorem cntM_le {ks : List Int} (k : Int) {c : Int} {D : DataW Unit} (hD : D.atKey (.int .i64 k) (.lit (.int .i64 0)) = .lit (.int .i64 (ks.count k))) (hat : D.atKey (.int .i64 k) (.lit (.int .i64 0)) = .lit (.int .i64 c)) : 0 ≤ c ∧ c ≤ ks.length := by
 rw [hat] at hD
 obtain rfl : c = ks.count k := by simpa using hD
 have := List.count_le_length (a := k) (l := ks)
 omega
theorem u_slot {N D : Int} {d : Us} (h : usB N D d = true) : 0 ≤ d.s ∧ d.s < D := by
 have h' : plcB d.s d.o d.p N D = true := by
  revert h
  unfold usB
  cases plcB d.s d.o d.p N D <;> simp
 exact (plcB_iff.1 h').1
theorem g_slot {N D : Int} {d : Gr} (h : grB N D d = true) : 0 ≤ d.s ∧ d.s < D := by
 have h' : plcB d.s d.o d.p N D = true := by
  revert h
  unfold grB
  cases plcB d.s d.o d.p N D <;> simp
 exact (plcB_iff.1 h').1
theorem a_slot {N D : Int} {d : Ak} (h : akB N D d = true) : 0 ≤ d.s ∧ d.s < D := by
 have h' : plcB d.s d.o d.p N D = true := by
  revert h
  unfold akB
  cases plcB d.s d.o d.p N D <;> simp
 exact (plcB_iff.1 h').1
set_option maxRecDepth 100000 in
set_option maxHeartbeats 2000000 in
theorem usnd_any (v : Value) (l : List Us) (N D : Int) (B n : Nat) (ks : List Int) (w : World) (sl : SlU w v l) (hm : CntM w B n ks) (hB : B < w.heap.size) (hn : n + l.length ≤ 1000) (hk : ks.length + l.length ≤ 1000) (hD : D ≤ 60) :
  Calls Tryz.prog 82 #[v, .agg #[.int .i64 N, .int .i64 D], .map (some B)] w fun e w' => SndP w B n ks (l.map Us.s) (sndU N D l) e w' := by
 obtain ⟨p, cap, e0, hlc, hcm, hpn⟩ := sl.form l.length rfl
 subst e0
 have SL := Lib.hid sl
 unfold maxLen at hcm
 clear hpn sl
 have HM := Lib.hid hm
 have hfc := field_cell
 have hlm : (l.map Us.s).length = l.length := List.length_map _
 clear hm
 go_enter Tryz.func82, Tryz.ntmps82
 go_wp2_with fail
 have OL := Lib.hid (own_at (w := w) [.int .i64 N, .int .i64 D] 31 rfl)
 have G0 := Lib.hid (show w.grownBy (w.alloc (.cells #[.int .i64 N, .int .i64 D] 31)) (some B) from grown_of_below (belowNew _ _))
 have SL1 := Lib.hid (SL.out.below (belowNew w (.cells #[.int .i64 N, .int .i64 D] 31)))
 have HM1 := Lib.hid (HM.out.below (belowNew w (.cells #[.int .i64 N, .int .i64 D] 31)))
 have hs1 : B < (w.alloc (.cells #[.int .i64 N, .int .i64 D] 31)).heap.size := HM1.out.lt
 generalize w.alloc (.cells #[.int .i64 N, .int .i64 D] 31) = w1 at OL G0 SL1 HM1 hs1 ⊢
 obtain ⟨L, hL⟩ : ∃ L, w.heap.size = L := ⟨_, rfl⟩
 rw [hL] at OL ⊢
 clear hL
 go_loopw [7, 12] (fun la ii wr => ∃ (i : Nat) (last : Int), i ≤ l.length ∧ ii = .int .i64 i ∧ la = .int .i64 last ∧ sndU N D l = sndF (usB N D) Us.s last (l.drop i) ∧ CntM wr B (n + i) (ks ++ (l.take i).map Us.s) ∧ w1.grownBy wr (some B)) (fun _ i _ => l.length - (intOf i).toNat)
 case atStart => exact ⟨0, -1, by omega, rfl, rfl, rfl, by simpa using HM1.out, grown_of_below (Below.refl _ _)⟩
 case round =>
  obtain ⟨i, last, hi, rfl, rfl, hT, hcm, hg⟩ := hrel
  have HT := Lib.hid hT
  have HC := Lib.hid hcm
  have G := Lib.hid hg
  have hbs : B < wr.heap.size := hcm.lt
  clear hT hcm hg
  have j0 : (0 : Int) ≤ (i : Int) := Int.natCast_nonneg _
  by_cases hlt : i < l.length
  ·have SLr := Lib.hid (SL1.out.grown HM1.out G.out)
   have OLr := Lib.hid (OL.out.grown HM1.out G.out)
   obtain ⟨d, b, off, hd, rfl, hbl, _, d0, d1, d2, d3⟩ := SLr.out.atU (Below.refl _ _) hlt
   have j1 : (i : Int) < (l.length : Int) := by omega
   have HS := Lib.hid (sndF_step (ok := usB N D) (sl := Us.s) (last := last) hd)
   have HD := Lib.hid (take_snocG hd)
   clear hd SLr
   obtain ⟨cL0, cL1, fL, zL⟩ := own2 OLr.out
   cases hv : usB N D d with
   | false =>
    have HV := Lib.hid hv
    clear hv
    go_wp2_with fail
    refine (uval_lit d N D false _ HV.out).mono ?_
    rintro e w2 ⟨rfl, hb⟩
    have OX := Lib.hid ((own_at (w := wr) [.int .i64 d.s, .int .i64 d.o, .int .i64 d.p, .int .i64 d.m] 128 rfl).below hb)
    have B2 := Lib.hid (belowTo (belowNew wr (.cells [.int .i64 d.s, .int .i64 d.o, .int .i64 d.p, .int .i64 d.m].toArray 128)) hb (by simp))
    clear hb cL0 cL1 fL zL d0 d1 d2 d3
    go_wp2_with fail
    go_ret
    exact ⟨ret_bool (by rw [HT.out, HS.out, HV.out]; rfl), (G0.out.andThen G.out (fun j hj => .inr hj)).andThen (grown_of_below (row := none) B2.out) (fun j hj => by cases hj), fun h => by rw [HT.out, HS.out, HV.out] at h; cases h⟩
   | true =>
    have HV := Lib.hid hv
    clear hv
    go_wp2_with fail
    refine (uval_lit d N D true _ HV.out).mono ?_
    rintro e w2 ⟨rfl, hb⟩
    have OX := Lib.hid ((own_at (w := wr) [.int .i64 d.s, .int .i64 d.o, .int .i64 d.p, .int .i64 d.m] 128 rfl).below hb)
    have B2 := Lib.hid (belowTo (belowNew wr (.cells [.int .i64 d.s, .int .i64 d.o, .int .i64 d.p, .int .i64 d.m].toArray 128)) hb (by simp))
    clear hb cL0 cL1 fL zL d0 d1 d2 d3
    obtain ⟨cX0, cX1, cX2, cX3, fX, zX⟩ := own4 OX.out
    by_cases hla : last < d.s
    ·have hla2 : decide (d.s ≤ last) = false := decide_eq_false (by omega)
     have hla3 := Lib.hid hla
     clear hla
     go_wp2_with fail
     refine (ucell_any d.s d.o d.p d.m _).mono ?_
     rintro e w3 ⟨rfl, hb⟩
     have O3 := Lib.hid (OX.out.below hb)
     have B3 := Lib.hid (belowTo B2.out hb B2.out.size)
     clear hb cX0 cX1 cX2 cX3 fX zX OX
     have OX := O3
     clear O3
     obtain ⟨cX0, cX1, cX2, cX3, fX, zX⟩ := own4 OX.out
     go_wp2_with fail
     refine (ucell_any d.s d.o d.p d.m _).mono ?_
     rintro e w4 ⟨rfl, hb⟩
     have O4 := Lib.hid (OX.out.below hb)
     have B4 := Lib.hid (belowTo B3.out hb B3.out.size)
     clear hb cX0 cX1 cX2 cX3 fX zX OX
     have OX := O4
     clear O4
     obtain ⟨cX0, cX1, cX2, cX3, fX, zX⟩ := own4 OX.out
     have HC4 := Lib.hid (HC.out.below B4.out)
     obtain ⟨DD, hown, hmap, hat0⟩ := HC4.out
     have HO := Lib.hid hown
     have HA := Lib.hid (And.intro hmap hat0)
     have HW := Lib.hid (show (Lit.int .i64 d.s).wf = true from WalkArith.wf_i64 (by have := u_slot HV.out; omega))
     clear hown hmap hat0 cX0 cX1 cX2 cX3 fX zX OX
     go_wp2_with (first | (at_lookup; refine wpList_lookup_own_int _ rfl _ _ 152 rfl 3 3 .i64 lawK Tryz.underlying152 Tryz.underlying3 (zeroK _) B (n + i) _ rfl HO.out _ _ rfl (keyOf_int_mk Tryz.underlying3 HW.out) ?_; intro c hat hwc; have HAT := Lib.hid hat; have hcb := cntM_le d.s (HA.out.2 d.s).1 hat; have HC0 : 0 ≤ c := hcb.1; have HC1 : c ≤ 2000 := (by have h1 := hcb.2; simp at h1; omega); clear hcb hat hwc) | (at_mapUpdate; refine wpList_mapUpdate_own _ rfl _ _ _ 152 rfl 3 3 lawK Tryz.underlying152 _ B (n + i) _ rfl HO.out (by unfold maxLen; omega) _ _ _ rfl rfl (keyOf_int_mk Tryz.underlying3 HW.out) _ [] (plainElem_int Tryz.underlying3 (WalkArith.wf_i64 (by omega))) ?_; intro w5 hown1 hgrow1; have HN := Lib.hid (CntM.step HA.out.1 HA.out.2 HAT.out hown1); have G5 := Lib.hid hgrow1; clear hown1 hgrow1) | fail)
     go_roundw
     case rel => exact ⟨i + 1, d.s, by omega, by go_num, rfl, by rw [HT.out, HS.out, HV.out, decide_eq_true (show last < d.s by have := hla3.out; omega)]; simp, by have := HN.out; rw [HD.out, List.map_append, ← List.append_assoc]; exact this, (G.out.andThen (grown_of_below (row := none) B4.out) (fun j hj => by cases hj)).andThen G5.out (fun j hj => .inr hj)⟩
     case measure => simp [intOf]; omega
    ·have hla2 : decide (d.s ≤ last) = true := decide_eq_true (by omega)
     have hla3 := Lib.hid hla
     clear hla
     go_wp2_with fail
     refine (ucell_any d.s d.o d.p d.m _).mono ?_
     rintro e w3 ⟨rfl, hb⟩
     have O3 := Lib.hid (OX.out.below hb)
     have B3 := Lib.hid (belowTo B2.out hb B2.out.size)
     clear hb cX0 cX1 cX2 cX3 fX zX OX
     have OX := O3
     clear O3
     obtain ⟨cX0, cX1, cX2, cX3, fX, zX⟩ := own4 OX.out
     go_wp2_with fail
     go_ret
     exact ⟨ret_bool (by rw [HT.out, HS.out, HV.out, decide_eq_false (show ¬ last < d.s by have := hla3.out; omega)]; rfl), (G0.out.andThen G.out (fun j hj => .inr hj)).andThen (grown_of_below (row := none) B3.out) (fun j hj => by cases hj), fun h => by rw [HT.out, HS.out, HV.out, decide_eq_false (show ¬ last < d.s by have := hla3.out; omega)] at h; cases h⟩
  ·have HE := Lib.hid (sndF_end (ok := usB N D) (sl := Us.s) (rs := l) (k := i) (last := last) (by omega))
   obtain rfl : i = l.length := by omega
   go_wp2_with fail
   go_ret
   exact ⟨ret_bool (by rw [HT.out, HE.out]), G0.out.andThen G.out (fun j hj => .inr hj), fun _ => by have := HC.out; rw [List.take_length] at this; rw [List.length_map]; exact this⟩
set_option maxRecDepth 100000 in
set_option maxHeartbeats 2000000 in
theorem gsnd_any (v : Value) (l : List Gr) (N D : Int) (B n : Nat) (ks : List Int) (w : World) (sl : SlG w v l) (hm : CntM w B n ks) (hB : B < w.heap.size) (hn : n + l.length ≤ 1000) (hk : ks.length + l.length ≤ 1000) (hD : D ≤ 60) :
  Calls Tryz.prog 84 #[v, .agg #[.int .i64 N, .int .i64 D], .map (some B)] w fun e w' => SndP w B n ks (l.map Gr.s) (sndG N D l) e w' := by
 obtain ⟨p, cap, e0, hlc, hcm, hpn⟩ := sl.form l.length rfl
 subst e0
 have SL := Lib.hid sl
 unfold maxLen at hcm
 clear hpn sl
 have HM := Lib.hid hm
 have hfc := field_cell
 have hlm : (l.map Gr.s).length = l.length := List.length_map _
 clear hm
 go_enter Tryz.func84, Tryz.ntmps84
 go_wp2_with fail
 have OL := Lib.hid (own_at (w := w) [.int .i64 N, .int .i64 D] 31 rfl)
 have G0 := Lib.hid (show w.grownBy (w.alloc (.cells #[.int .i64 N, .int .i64 D] 31)) (some B) from grown_of_below (belowNew _ _))
 have SL1 := Lib.hid (SL.out.below (belowNew w (.cells #[.int .i64 N, .int .i64 D] 31)))
 have HM1 := Lib.hid (HM.out.below (belowNew w (.cells #[.int .i64 N, .int .i64 D] 31)))
 have hs1 : B < (w.alloc (.cells #[.int .i64 N, .int .i64 D] 31)).heap.size := HM1.out.lt
 generalize w.alloc (.cells #[.int .i64 N, .int .i64 D] 31) = w1 at OL G0 SL1 HM1 hs1 ⊢
 obtain ⟨L, hL⟩ : ∃ L, w.heap.size = L := ⟨_, rfl⟩
 rw [hL] at OL ⊢
 clear hL
 go_loopw [7, 12] (fun la ii wr => ∃ (i : Nat) (last : Int), i ≤ l.length ∧ ii = .int .i64 i ∧ la = .int .i64 last ∧ sndG N D l = sndF (grB N D) Gr.s last (l.drop i) ∧ CntM wr B (n + i) (ks ++ (l.take i).map Gr.s) ∧ w1.grownBy wr (some B)) (fun _ i _ => l.length - (intOf i).toNat)
 case atStart => exact ⟨0, -1, by omega, rfl, rfl, rfl, by simpa using HM1.out, grown_of_below (Below.refl _ _)⟩
 case round =>
  obtain ⟨i, last, hi, rfl, rfl, hT, hcm, hg⟩ := hrel
  have HT := Lib.hid hT
  have HC := Lib.hid hcm
  have G := Lib.hid hg
  have hbs : B < wr.heap.size := hcm.lt
  clear hT hcm hg
  have j0 : (0 : Int) ≤ (i : Int) := Int.natCast_nonneg _
  by_cases hlt : i < l.length
  ·have SLr := Lib.hid (SL1.out.grown HM1.out G.out)
   have OLr := Lib.hid (OL.out.grown HM1.out G.out)
   obtain ⟨d, b, off, hd, rfl, hbl, _, d0, d1, d2, d3, d4⟩ := SLr.out.atG (Below.refl _ _) hlt
   have j1 : (i : Int) < (l.length : Int) := by omega
   have HS := Lib.hid (sndF_step (ok := grB N D) (sl := Gr.s) (last := last) hd)
   have HD := Lib.hid (take_snocG hd)
   clear hd SLr
   obtain ⟨cL0, cL1, fL, zL⟩ := own2 OLr.out
   cases hv : grB N D d with
   | false =>
    have HV := Lib.hid hv
    clear hv
    go_wp2_with fail
    refine (gval_lit d N D false _ HV.out).mono ?_
    rintro e w2 ⟨rfl, hb⟩
    have OX := Lib.hid ((own_at (w := wr) [.int .i64 d.s, .int .i64 d.o, .int .i64 d.p, .int .i64 d.m, .int .i64 d.u] 138 rfl).below hb)
    have B2 := Lib.hid (belowTo (belowNew wr (.cells [.int .i64 d.s, .int .i64 d.o, .int .i64 d.p, .int .i64 d.m, .int .i64 d.u].toArray 138)) hb (by simp))
    clear hb cL0 cL1 fL zL d0 d1 d2 d3 d4
    go_wp2_with fail
    go_ret
    exact ⟨ret_bool (by rw [HT.out, HS.out, HV.out]; rfl), (G0.out.andThen G.out (fun j hj => .inr hj)).andThen (grown_of_below (row := none) B2.out) (fun j hj => by cases hj), fun h => by rw [HT.out, HS.out, HV.out] at h; cases h⟩
   | true =>
    have HV := Lib.hid hv
    clear hv
    go_wp2_with fail
    refine (gval_lit d N D true _ HV.out).mono ?_
    rintro e w2 ⟨rfl, hb⟩
    have OX := Lib.hid ((own_at (w := wr) [.int .i64 d.s, .int .i64 d.o, .int .i64 d.p, .int .i64 d.m, .int .i64 d.u] 138 rfl).below hb)
    have B2 := Lib.hid (belowTo (belowNew wr (.cells [.int .i64 d.s, .int .i64 d.o, .int .i64 d.p, .int .i64 d.m, .int .i64 d.u].toArray 138)) hb (by simp))
    clear hb cL0 cL1 fL zL d0 d1 d2 d3 d4
    obtain ⟨cX0, cX1, cX2, cX3, cX4, fX, zX⟩ := own5 OX.out
    by_cases hla : last < d.s
    ·have hla2 : decide (d.s ≤ last) = false := decide_eq_false (by omega)
     have hla3 := Lib.hid hla
     clear hla
     go_wp2_with fail
     refine (gcell_any d.s d.o d.p d.m d.u _).mono ?_
     rintro e w3 ⟨rfl, hb⟩
     have O3 := Lib.hid (OX.out.below hb)
     have B3 := Lib.hid (belowTo B2.out hb B2.out.size)
     clear hb cX0 cX1 cX2 cX3 cX4 fX zX OX
     have OX := O3
     clear O3
     obtain ⟨cX0, cX1, cX2, cX3, cX4, fX, zX⟩ := own5 OX.out
     go_wp2_with fail
     refine (gcell_any d.s d.o d.p d.m d.u _).mono ?_
     rintro e w4 ⟨rfl, hb⟩
     have O4 := Lib.hid (OX.out.below hb)
     have B4 := Lib.hid (belowTo B3.out hb B3.out.size)
     clear hb cX0 cX1 cX2 cX3 cX4 fX zX OX
     have OX := O4
     clear O4
     obtain ⟨cX0, cX1, cX2, cX3, cX4, fX, zX⟩ := own5 OX.out
     have HC4 := Lib.hid (HC.out.below B4.out)
     obtain ⟨DD, hown, hmap, hat0⟩ := HC4.out
     have HO := Lib.hid hown
     have HA := Lib.hid (And.intro hmap hat0)
     have HW := Lib.hid (show (Lit.int .i64 d.s).wf = true from WalkArith.wf_i64 (by have := g_slot HV.out; omega))
     clear hown hmap hat0 cX0 cX1 cX2 cX3 cX4 fX zX OX
     go_wp2_with (first | (at_lookup; refine wpList_lookup_own_int _ rfl _ _ 152 rfl 3 3 .i64 lawK Tryz.underlying152 Tryz.underlying3 (zeroK _) B (n + i) _ rfl HO.out _ _ rfl (keyOf_int_mk Tryz.underlying3 HW.out) ?_; intro c hat hwc; have HAT := Lib.hid hat; have hcb := cntM_le d.s (HA.out.2 d.s).1 hat; have HC0 : 0 ≤ c := hcb.1; have HC1 : c ≤ 2000 := (by have h1 := hcb.2; simp at h1; omega); clear hcb hat hwc) | (at_mapUpdate; refine wpList_mapUpdate_own _ rfl _ _ _ 152 rfl 3 3 lawK Tryz.underlying152 _ B (n + i) _ rfl HO.out (by unfold maxLen; omega) _ _ _ rfl rfl (keyOf_int_mk Tryz.underlying3 HW.out) _ [] (plainElem_int Tryz.underlying3 (WalkArith.wf_i64 (by omega))) ?_; intro w5 hown1 hgrow1; have HN := Lib.hid (CntM.step HA.out.1 HA.out.2 HAT.out hown1); have G5 := Lib.hid hgrow1; clear hown1 hgrow1) | fail)
     go_roundw
     case rel => exact ⟨i + 1, d.s, by omega, by go_num, rfl, by rw [HT.out, HS.out, HV.out, decide_eq_true (show last < d.s by have := hla3.out; omega)]; simp, by have := HN.out; rw [HD.out, List.map_append, ← List.append_assoc]; exact this, (G.out.andThen (grown_of_below (row := none) B4.out) (fun j hj => by cases hj)).andThen G5.out (fun j hj => .inr hj)⟩
     case measure => simp [intOf]; omega
    ·have hla2 : decide (d.s ≤ last) = true := decide_eq_true (by omega)
     have hla3 := Lib.hid hla
     clear hla
     go_wp2_with fail
     refine (gcell_any d.s d.o d.p d.m d.u _).mono ?_
     rintro e w3 ⟨rfl, hb⟩
     have O3 := Lib.hid (OX.out.below hb)
     have B3 := Lib.hid (belowTo B2.out hb B2.out.size)
     clear hb cX0 cX1 cX2 cX3 cX4 fX zX OX
     have OX := O3
     clear O3
     obtain ⟨cX0, cX1, cX2, cX3, cX4, fX, zX⟩ := own5 OX.out
     go_wp2_with fail
     go_ret
     exact ⟨ret_bool (by rw [HT.out, HS.out, HV.out, decide_eq_false (show ¬ last < d.s by have := hla3.out; omega)]; rfl), (G0.out.andThen G.out (fun j hj => .inr hj)).andThen (grown_of_below (row := none) B3.out) (fun j hj => by cases hj), fun h => by rw [HT.out, HS.out, HV.out, decide_eq_false (show ¬ last < d.s by have := hla3.out; omega)] at h; cases h⟩
  ·have HE := Lib.hid (sndF_end (ok := grB N D) (sl := Gr.s) (rs := l) (k := i) (last := last) (by omega))
   obtain rfl : i = l.length := by omega
   go_wp2_with fail
   go_ret
   exact ⟨ret_bool (by rw [HT.out, HE.out]), G0.out.andThen G.out (fun j hj => .inr hj), fun _ => by have := HC.out; rw [List.take_length] at this; rw [List.length_map]; exact this⟩
set_option maxRecDepth 100000 in
set_option maxHeartbeats 2000000 in
theorem asnd_any (v : Value) (l : List Ak) (N D : Int) (B n : Nat) (ks : List Int) (w : World) (sl : SlA w v l) (hm : CntM w B n ks) (hB : B < w.heap.size) (hn : n + l.length ≤ 1000) (hk : ks.length + l.length ≤ 1000) (hD : D ≤ 60) :
  Calls Tryz.prog 86 #[v, .agg #[.int .i64 N, .int .i64 D], .map (some B)] w fun e w' => SndP w B n ks (l.map Ak.s) (sndA N D l) e w' := by
 obtain ⟨p, cap, e0, hlc, hcm, hpn⟩ := sl.form l.length rfl
 subst e0
 have SL := Lib.hid sl
 unfold maxLen at hcm
 clear hpn sl
 have HM := Lib.hid hm
 have hfc := field_cell
 have hlm : (l.map Ak.s).length = l.length := List.length_map _
 clear hm
 go_enter Tryz.func86, Tryz.ntmps86
 go_wp2_with fail
 have OL := Lib.hid (own_at (w := w) [.int .i64 N, .int .i64 D] 31 rfl)
 have G0 := Lib.hid (show w.grownBy (w.alloc (.cells #[.int .i64 N, .int .i64 D] 31)) (some B) from grown_of_below (belowNew _ _))
 have SL1 := Lib.hid (SL.out.below (belowNew w (.cells #[.int .i64 N, .int .i64 D] 31)))
 have HM1 := Lib.hid (HM.out.below (belowNew w (.cells #[.int .i64 N, .int .i64 D] 31)))
 have hs1 : B < (w.alloc (.cells #[.int .i64 N, .int .i64 D] 31)).heap.size := HM1.out.lt
 generalize w.alloc (.cells #[.int .i64 N, .int .i64 D] 31) = w1 at OL G0 SL1 HM1 hs1 ⊢
 obtain ⟨L, hL⟩ : ∃ L, w.heap.size = L := ⟨_, rfl⟩
 rw [hL] at OL ⊢
 clear hL
 go_loopw [7, 12] (fun la ii wr => ∃ (i : Nat) (last : Int), i ≤ l.length ∧ ii = .int .i64 i ∧ la = .int .i64 last ∧ sndA N D l = sndF (akB N D) Ak.s last (l.drop i) ∧ CntM wr B (n + i) (ks ++ (l.take i).map Ak.s) ∧ w1.grownBy wr (some B)) (fun _ i _ => l.length - (intOf i).toNat)
 case atStart => exact ⟨0, -1, by omega, rfl, rfl, rfl, by simpa using HM1.out, grown_of_below (Below.refl _ _)⟩
 case round =>
  obtain ⟨i, last, hi, rfl, rfl, hT, hcm, hg⟩ := hrel
  have HT := Lib.hid hT
  have HC := Lib.hid hcm
  have G := Lib.hid hg
  have hbs : B < wr.heap.size := hcm.lt
  clear hT hcm hg
  have j0 : (0 : Int) ≤ (i : Int) := Int.natCast_nonneg _
  by_cases hlt : i < l.length
  ·have SLr := Lib.hid (SL1.out.grown HM1.out G.out)
   have OLr := Lib.hid (OL.out.grown HM1.out G.out)
   obtain ⟨d, b, off, hd, rfl, hbl, _, d0, d1, d2⟩ := SLr.out.atA (Below.refl _ _) hlt
   have j1 : (i : Int) < (l.length : Int) := by omega
   have HS := Lib.hid (sndF_step (ok := akB N D) (sl := Ak.s) (last := last) hd)
   have HD := Lib.hid (take_snocG hd)
   clear hd SLr
   obtain ⟨cL0, cL1, fL, zL⟩ := own2 OLr.out
   cases hv : akB N D d with
   | false =>
    have HV := Lib.hid hv
    clear hv
    go_wp2_with fail
    refine (aval_lit d N D false _ HV.out).mono ?_
    rintro e w2 ⟨rfl, hb⟩
    have OX := Lib.hid ((own_at (w := wr) [.int .i64 d.s, .int .i64 d.o, .int .i64 d.p] 160 rfl).below hb)
    have B2 := Lib.hid (belowTo (belowNew wr (.cells [.int .i64 d.s, .int .i64 d.o, .int .i64 d.p].toArray 160)) hb (by simp))
    clear hb cL0 cL1 fL zL d0 d1 d2
    go_wp2_with fail
    go_ret
    exact ⟨ret_bool (by rw [HT.out, HS.out, HV.out]; rfl), (G0.out.andThen G.out (fun j hj => .inr hj)).andThen (grown_of_below (row := none) B2.out) (fun j hj => by cases hj), fun h => by rw [HT.out, HS.out, HV.out] at h; cases h⟩
   | true =>
    have HV := Lib.hid hv
    clear hv
    go_wp2_with fail
    refine (aval_lit d N D true _ HV.out).mono ?_
    rintro e w2 ⟨rfl, hb⟩
    have OX := Lib.hid ((own_at (w := wr) [.int .i64 d.s, .int .i64 d.o, .int .i64 d.p] 160 rfl).below hb)
    have B2 := Lib.hid (belowTo (belowNew wr (.cells [.int .i64 d.s, .int .i64 d.o, .int .i64 d.p].toArray 160)) hb (by simp))
    clear hb cL0 cL1 fL zL d0 d1 d2
    obtain ⟨cX0, cX1, cX2, fX, zX⟩ := own3 OX.out
    by_cases hla : last < d.s
    ·have hla2 : decide (d.s ≤ last) = false := decide_eq_false (by omega)
     have hla3 := Lib.hid hla
     clear hla
     go_wp2_with fail
     refine (acell_any d.s d.o d.p _).mono ?_
     rintro e w3 ⟨rfl, hb⟩
     have O3 := Lib.hid (OX.out.below hb)
     have B3 := Lib.hid (belowTo B2.out hb B2.out.size)
     clear hb cX0 cX1 cX2 fX zX OX
     have OX := O3
     clear O3
     obtain ⟨cX0, cX1, cX2, fX, zX⟩ := own3 OX.out
     go_wp2_with fail
     refine (acell_any d.s d.o d.p _).mono ?_
     rintro e w4 ⟨rfl, hb⟩
     have O4 := Lib.hid (OX.out.below hb)
     have B4 := Lib.hid (belowTo B3.out hb B3.out.size)
     clear hb cX0 cX1 cX2 fX zX OX
     have OX := O4
     clear O4
     obtain ⟨cX0, cX1, cX2, fX, zX⟩ := own3 OX.out
     have HC4 := Lib.hid (HC.out.below B4.out)
     obtain ⟨DD, hown, hmap, hat0⟩ := HC4.out
     have HO := Lib.hid hown
     have HA := Lib.hid (And.intro hmap hat0)
     have HW := Lib.hid (show (Lit.int .i64 d.s).wf = true from WalkArith.wf_i64 (by have := a_slot HV.out; omega))
     clear hown hmap hat0 cX0 cX1 cX2 fX zX OX
     go_wp2_with (first | (at_lookup; refine wpList_lookup_own_int _ rfl _ _ 152 rfl 3 3 .i64 lawK Tryz.underlying152 Tryz.underlying3 (zeroK _) B (n + i) _ rfl HO.out _ _ rfl (keyOf_int_mk Tryz.underlying3 HW.out) ?_; intro c hat hwc; have HAT := Lib.hid hat; have hcb := cntM_le d.s (HA.out.2 d.s).1 hat; have HC0 : 0 ≤ c := hcb.1; have HC1 : c ≤ 2000 := (by have h1 := hcb.2; simp at h1; omega); clear hcb hat hwc) | (at_mapUpdate; refine wpList_mapUpdate_own _ rfl _ _ _ 152 rfl 3 3 lawK Tryz.underlying152 _ B (n + i) _ rfl HO.out (by unfold maxLen; omega) _ _ _ rfl rfl (keyOf_int_mk Tryz.underlying3 HW.out) _ [] (plainElem_int Tryz.underlying3 (WalkArith.wf_i64 (by omega))) ?_; intro w5 hown1 hgrow1; have HN := Lib.hid (CntM.step HA.out.1 HA.out.2 HAT.out hown1); have G5 := Lib.hid hgrow1; clear hown1 hgrow1) | fail)
     go_roundw
     case rel => exact ⟨i + 1, d.s, by omega, by go_num, rfl, by rw [HT.out, HS.out, HV.out, decide_eq_true (show last < d.s by have := hla3.out; omega)]; simp, by have := HN.out; rw [HD.out, List.map_append, ← List.append_assoc]; exact this, (G.out.andThen (grown_of_below (row := none) B4.out) (fun j hj => by cases hj)).andThen G5.out (fun j hj => .inr hj)⟩
     case measure => simp [intOf]; omega
    ·have hla2 : decide (d.s ≤ last) = true := decide_eq_true (by omega)
     have hla3 := Lib.hid hla
     clear hla
     go_wp2_with fail
     refine (acell_any d.s d.o d.p _).mono ?_
     rintro e w3 ⟨rfl, hb⟩
     have O3 := Lib.hid (OX.out.below hb)
     have B3 := Lib.hid (belowTo B2.out hb B2.out.size)
     clear hb cX0 cX1 cX2 fX zX OX
     have OX := O3
     clear O3
     obtain ⟨cX0, cX1, cX2, fX, zX⟩ := own3 OX.out
     go_wp2_with fail
     go_ret
     exact ⟨ret_bool (by rw [HT.out, HS.out, HV.out, decide_eq_false (show ¬ last < d.s by have := hla3.out; omega)]; rfl), (G0.out.andThen G.out (fun j hj => .inr hj)).andThen (grown_of_below (row := none) B3.out) (fun j hj => by cases hj), fun h => by rw [HT.out, HS.out, HV.out, decide_eq_false (show ¬ last < d.s by have := hla3.out; omega)] at h; cases h⟩
  ·have HE := Lib.hid (sndF_end (ok := akB N D) (sl := Ak.s) (rs := l) (k := i) (last := last) (by omega))
   obtain rfl : i = l.length := by omega
   go_wp2_with fail
   go_ret
   exact ⟨ret_bool (by rw [HT.out, HE.out]), G0.out.andThen G.out (fun j hj => .inr hj), fun _ => by have := HC.out; rw [List.take_length] at this; rw [List.length_map]; exact this⟩
end Go.Proofs.YtmopiifamopidaaGreat
end
section
namespace Go.Proofs.YtmopiifamopidaaGreat
open Go.RowKit Go.Maps
theorem usnd_lit (v : Value) (l : List Us) (N D : Int) (B n : Nat) (ks : List Int) (x : Bool) (w : World) (sl : SlU w v l) (hm : CntM w B n ks) (hB : B < w.heap.size) (hn : n + l.length ≤ 1000) (hk : ks.length + l.length ≤ 1000) (hD : D ≤ 60) (h : sndU N D l = x) :
  Calls Tryz.prog 82 #[v, .agg #[.int .i64 N, .int .i64 D], .map (some B)] w fun e w' => SndP w B n ks (l.map Us.s) x e w' := by
 rw [← h]; exact usnd_any v l N D B n ks w sl hm hB hn hk hD
theorem gsnd_lit (v : Value) (l : List Gr) (N D : Int) (B n : Nat) (ks : List Int) (x : Bool) (w : World) (sl : SlG w v l) (hm : CntM w B n ks) (hB : B < w.heap.size) (hn : n + l.length ≤ 1000) (hk : ks.length + l.length ≤ 1000) (hD : D ≤ 60) (h : sndG N D l = x) :
  Calls Tryz.prog 84 #[v, .agg #[.int .i64 N, .int .i64 D], .map (some B)] w fun e w' => SndP w B n ks (l.map Gr.s) x e w' := by
 rw [← h]; exact gsnd_any v l N D B n ks w sl hm hB hn hk hD
theorem asnd_lit (v : Value) (l : List Ak) (N D : Int) (B n : Nat) (ks : List Int) (x : Bool) (w : World) (sl : SlA w v l) (hm : CntM w B n ks) (hB : B < w.heap.size) (hn : n + l.length ≤ 1000) (hk : ks.length + l.length ≤ 1000) (hD : D ≤ 60) (h : sndA N D l = x) :
  Calls Tryz.prog 86 #[v, .agg #[.int .i64 N, .int .i64 D], .map (some B)] w fun e w' => SndP w B n ks (l.map Ak.s) x e w' := by
 rw [← h]; exact asnd_any v l N D B n ks w sl hm hB hn hk hD
theorem nodup_count : ∀ l : List Int, l.Nodup ↔ ∀ a, l.count a ≤ 1
 | [] => by simp
 | x :: l => by
  have ih := nodup_count l
  rw [List.nodup_cons, ih]
  constructor
  ·rintro ⟨h1, h2⟩ a
   by_cases e : a = x
   ·subst e
    rw [List.count_cons_self, List.count_eq_zero.2 h1]
    exact Nat.le_refl _
   ·rw [List.count_cons_of_ne (fun h => e h.symm)]
    exact h2 a
  ·intro h
   refine ⟨fun hm => ?_, fun a => ?_⟩
   ·have h1 := h x
    rw [List.count_cons_self] at h1
    have := List.count_pos_iff.2 hm
    omega
   ·have := h a
    have h2 : l.count a ≤ (x :: l).count a := List.count_le_count_cons
    omega
def LeftOk (ks : List Int) (left : Lit → Bool) : Prop := ∀ k ∈ ks, left (.int .i64 k) = false → ks.count k ≤ 1
theorem left_start {ks : List Int} {left : Lit → Bool} (h : ∀ k : Int, left (.int .i64 k) = true ↔ k ∈ ks) : LeftOk ks left := fun k hk hl => by
 rw [(h k).2 hk] at hl; cases hl
theorem left_end {ks : List Int} {left : Lit → Bool} (h : LeftOk ks left) (hl : ∀ k, left k = false) : ks.Nodup := (nodup_count ks).2 fun a => by
 by_cases ha : a ∈ ks
 ·exact h a ha (hl _)
 ·rw [List.count_eq_zero.2 ha]; omega
theorem left_step {ks : List Int} {left : Lit → Bool} {x : Int} (h : LeftOk ks left) (hx : ks.count x ≤ 1) : LeftOk ks (fun z => left z && !z.sameKey (.int .i64 x)) := fun k hk hl => by
 by_cases e : k = x
 ·rw [e]; exact hx
 ·have hne : (Lit.int .i64 k).sameKey (.int .i64 x) = false := Maps.sameKey_ne (fun h => e (by injection h))
  simp only [hne, Bool.not_false, Bool.and_true] at hl
  exact h k hk hl
set_option maxRecDepth 100000 in
set_option maxHeartbeats 2000000 in
theorem vld_t0 (vu vg va : Value) (us : List Us) (gs : List Gr) (ks : List Ak) (N D : Int) (w : World) (su : SlU w vu us) (sg : SlG w vg gs) (sa : SlA w va ks) (u70 : us.length ≤ 70) (g70 : gs.length ≤ 70) (k70 : ks.length ≤ 70) (N0 : decide (N < 1) = true) : Calls Tryz.prog 43 #[.agg #[vu, vg, va], .agg #[.int .i64 N, .int .i64 D]] w fun e w' => e = .returned (.bool false) ∧ Below w.heap.size w w' := by
 obtain ⟨pu, cu, e0, hlu, hcu, _⟩ := su.form us.length rfl
 subst e0
 obtain ⟨pg, cg, e0, hlg, hcg, _⟩ := sg.form gs.length rfl
 subst e0
 obtain ⟨pa, ca, e0, hla, hca, _⟩ := sa.form ks.length rfl
 subst e0
 have SU := Lib.hid su
 have SG := Lib.hid sg
 have SA := Lib.hid sa
 clear su sg sa
 have iu0 : (0 : Int) ≤ (us.length : Int) := Int.natCast_nonneg _
 have ig0 : (0 : Int) ≤ (gs.length : Int) := Int.natCast_nonneg _
 have ia0 : (0 : Int) ≤ (ks.length : Int) := Int.natCast_nonneg _
 have iu : (us.length : Int) ≤ 70 := by omega
 have ig : (gs.length : Int) ≤ 70 := by omega
 have ia : (ks.length : Int) ≤ 70 := by omega
 go_enter Tryz.func43, Tryz.ntmps43
 go_wp2
 go_ret
 exact ⟨rfl, ((Below.refl _ _).alloc (Nat.le_refl _) _).alloc (by simp) _⟩
set_option maxRecDepth 100000 in
set_option maxHeartbeats 2000000 in
theorem vld_t1 (vu vg va : Value) (us : List Us) (gs : List Gr) (ks : List Ak) (N D : Int) (w : World) (su : SlU w vu us) (sg : SlG w vg gs) (sa : SlA w va ks) (u70 : us.length ≤ 70) (g70 : gs.length ≤ 70) (k70 : ks.length ≤ 70) (N0 : decide (N < 1) = false) (N1 : decide (60 < N) = true) : Calls Tryz.prog 43 #[.agg #[vu, vg, va], .agg #[.int .i64 N, .int .i64 D]] w fun e w' => e = .returned (.bool false) ∧ Below w.heap.size w w' := by
 obtain ⟨pu, cu, e0, hlu, hcu, _⟩ := su.form us.length rfl
 subst e0
 obtain ⟨pg, cg, e0, hlg, hcg, _⟩ := sg.form gs.length rfl
 subst e0
 obtain ⟨pa, ca, e0, hla, hca, _⟩ := sa.form ks.length rfl
 subst e0
 have SU := Lib.hid su
 have SG := Lib.hid sg
 have SA := Lib.hid sa
 clear su sg sa
 have iu0 : (0 : Int) ≤ (us.length : Int) := Int.natCast_nonneg _
 have ig0 : (0 : Int) ≤ (gs.length : Int) := Int.natCast_nonneg _
 have ia0 : (0 : Int) ≤ (ks.length : Int) := Int.natCast_nonneg _
 have iu : (us.length : Int) ≤ 70 := by omega
 have ig : (gs.length : Int) ≤ 70 := by omega
 have ia : (ks.length : Int) ≤ 70 := by omega
 go_enter Tryz.func43, Tryz.ntmps43
 go_wp2
 go_ret
 exact ⟨rfl, ((Below.refl _ _).alloc (Nat.le_refl _) _).alloc (by simp) _⟩
set_option maxRecDepth 100000 in
set_option maxHeartbeats 2000000 in
theorem vld_t2 (vu vg va : Value) (us : List Us) (gs : List Gr) (ks : List Ak) (N D : Int) (w : World) (su : SlU w vu us) (sg : SlG w vg gs) (sa : SlA w va ks) (u70 : us.length ≤ 70) (g70 : gs.length ≤ 70) (k70 : ks.length ≤ 70) (N0 : decide (N < 1) = false) (N1 : decide (60 < N) = false) (D0 : decide (D < 1) = true) : Calls Tryz.prog 43 #[.agg #[vu, vg, va], .agg #[.int .i64 N, .int .i64 D]] w fun e w' => e = .returned (.bool false) ∧ Below w.heap.size w w' := by
 obtain ⟨pu, cu, e0, hlu, hcu, _⟩ := su.form us.length rfl
 subst e0
 obtain ⟨pg, cg, e0, hlg, hcg, _⟩ := sg.form gs.length rfl
 subst e0
 obtain ⟨pa, ca, e0, hla, hca, _⟩ := sa.form ks.length rfl
 subst e0
 have SU := Lib.hid su
 have SG := Lib.hid sg
 have SA := Lib.hid sa
 clear su sg sa
 have iu0 : (0 : Int) ≤ (us.length : Int) := Int.natCast_nonneg _
 have ig0 : (0 : Int) ≤ (gs.length : Int) := Int.natCast_nonneg _
 have ia0 : (0 : Int) ≤ (ks.length : Int) := Int.natCast_nonneg _
 have iu : (us.length : Int) ≤ 70 := by omega
 have ig : (gs.length : Int) ≤ 70 := by omega
 have ia : (ks.length : Int) ≤ 70 := by omega
 go_enter Tryz.func43, Tryz.ntmps43
 go_wp2
 go_ret
 exact ⟨rfl, ((Below.refl _ _).alloc (Nat.le_refl _) _).alloc (by simp) _⟩
set_option maxRecDepth 100000 in
set_option maxHeartbeats 2000000 in
theorem vld_t3 (vu vg va : Value) (us : List Us) (gs : List Gr) (ks : List Ak) (N D : Int) (w : World) (su : SlU w vu us) (sg : SlG w vg gs) (sa : SlA w va ks) (u70 : us.length ≤ 70) (g70 : gs.length ≤ 70) (k70 : ks.length ≤ 70) (N0 : decide (N < 1) = false) (N1 : decide (60 < N) = false) (D0 : decide (D < 1) = false) (D1 : decide (60 < D) = true) : Calls Tryz.prog 43 #[.agg #[vu, vg, va], .agg #[.int .i64 N, .int .i64 D]] w fun e w' => e = .returned (.bool false) ∧ Below w.heap.size w w' := by
 obtain ⟨pu, cu, e0, hlu, hcu, _⟩ := su.form us.length rfl
 subst e0
 obtain ⟨pg, cg, e0, hlg, hcg, _⟩ := sg.form gs.length rfl
 subst e0
 obtain ⟨pa, ca, e0, hla, hca, _⟩ := sa.form ks.length rfl
 subst e0
 have SU := Lib.hid su
 have SG := Lib.hid sg
 have SA := Lib.hid sa
 clear su sg sa
 have iu0 : (0 : Int) ≤ (us.length : Int) := Int.natCast_nonneg _
 have ig0 : (0 : Int) ≤ (gs.length : Int) := Int.natCast_nonneg _
 have ia0 : (0 : Int) ≤ (ks.length : Int) := Int.natCast_nonneg _
 have iu : (us.length : Int) ≤ 70 := by omega
 have ig : (gs.length : Int) ≤ 70 := by omega
 have ia : (ks.length : Int) ≤ 70 := by omega
 go_enter Tryz.func43, Tryz.ntmps43
 go_wp2
 go_ret
 exact ⟨rfl, ((Below.refl _ _).alloc (Nat.le_refl _) _).alloc (by simp) _⟩
set_option maxRecDepth 100000 in
set_option maxHeartbeats 2000000 in
theorem vld_t4 (vu vg va : Value) (us : List Us) (gs : List Gr) (ks : List Ak) (N D : Int) (w : World) (su : SlU w vu us) (sg : SlG w vg gs) (sa : SlA w va ks) (u70 : us.length ≤ 70) (g70 : gs.length ≤ 70) (k70 : ks.length ≤ 70) (N0 : decide (N < 1) = false) (N1 : decide (60 < N) = false) (D0 : decide (D < 1) = false) (D1 : decide (60 < D) = false) (L0 : decide (24 < (us.length : Int) + (gs.length : Int)) = true) : Calls Tryz.prog 43 #[.agg #[vu, vg, va], .agg #[.int .i64 N, .int .i64 D]] w fun e w' => e = .returned (.bool false) ∧ Below w.heap.size w w' := by
 obtain ⟨pu, cu, e0, hlu, hcu, _⟩ := su.form us.length rfl
 subst e0
 obtain ⟨pg, cg, e0, hlg, hcg, _⟩ := sg.form gs.length rfl
 subst e0
 obtain ⟨pa, ca, e0, hla, hca, _⟩ := sa.form ks.length rfl
 subst e0
 have SU := Lib.hid su
 have SG := Lib.hid sg
 have SA := Lib.hid sa
 clear su sg sa
 have iu0 : (0 : Int) ≤ (us.length : Int) := Int.natCast_nonneg _
 have ig0 : (0 : Int) ≤ (gs.length : Int) := Int.natCast_nonneg _
 have ia0 : (0 : Int) ≤ (ks.length : Int) := Int.natCast_nonneg _
 have iu : (us.length : Int) ≤ 70 := by omega
 have ig : (gs.length : Int) ≤ 70 := by omega
 have ia : (ks.length : Int) ≤ 70 := by omega
 go_enter Tryz.func43, Tryz.ntmps43
 go_wp2
 go_ret
 exact ⟨rfl, ((Below.refl _ _).alloc (Nat.le_refl _) _).alloc (by simp) _⟩
set_option maxRecDepth 100000 in
set_option maxHeartbeats 2000000 in
theorem vld_t5 (vu vg va : Value) (us : List Us) (gs : List Gr) (ks : List Ak) (N D : Int) (w : World) (su : SlU w vu us) (sg : SlG w vg gs) (sa : SlA w va ks) (u70 : us.length ≤ 70) (g70 : gs.length ≤ 70) (k70 : ks.length ≤ 70) (N0 : decide (N < 1) = false) (N1 : decide (60 < N) = false) (D0 : decide (D < 1) = false) (D1 : decide (60 < D) = false) (L0 : decide (24 < (us.length : Int) + (gs.length : Int)) = false) (L1 : decide (24 < (ks.length : Int)) = true) : Calls Tryz.prog 43 #[.agg #[vu, vg, va], .agg #[.int .i64 N, .int .i64 D]] w fun e w' => e = .returned (.bool false) ∧ Below w.heap.size w w' := by
 obtain ⟨pu, cu, e0, hlu, hcu, _⟩ := su.form us.length rfl
 subst e0
 obtain ⟨pg, cg, e0, hlg, hcg, _⟩ := sg.form gs.length rfl
 subst e0
 obtain ⟨pa, ca, e0, hla, hca, _⟩ := sa.form ks.length rfl
 subst e0
 have SU := Lib.hid su
 have SG := Lib.hid sg
 have SA := Lib.hid sa
 clear su sg sa
 have iu0 : (0 : Int) ≤ (us.length : Int) := Int.natCast_nonneg _
 have ig0 : (0 : Int) ≤ (gs.length : Int) := Int.natCast_nonneg _
 have ia0 : (0 : Int) ≤ (ks.length : Int) := Int.natCast_nonneg _
 have iu : (us.length : Int) ≤ 70 := by omega
 have ig : (gs.length : Int) ≤ 70 := by omega
 have ia : (ks.length : Int) ≤ 70 := by omega
 go_enter Tryz.func43, Tryz.ntmps43
 go_wp2
 go_ret
 exact ⟨rfl, ((Below.refl _ _).alloc (Nat.le_refl _) _).alloc (by simp) _⟩
set_option maxRecDepth 100000 in
set_option maxHeartbeats 2000000 in
theorem vld_u (vu vg va : Value) (us : List Us) (gs : List Gr) (ks : List Ak) (N D : Int) (w : World) (su : SlU w vu us) (sg : SlG w vg gs) (sa : SlA w va ks) (u70 : us.length ≤ 70) (g70 : gs.length ≤ 70) (k70 : ks.length ≤ 70) (N0 : decide (N < 1) = false) (N1 : decide (60 < N) = false) (D0 : decide (D < 1) = false) (D1 : decide (60 < D) = false) (L0 : decide (24 < (us.length : Int) + (gs.length : Int)) = false) (L1 : decide (24 < (ks.length : Int)) = false) (hs : sndU N D us = false) : Calls Tryz.prog 43 #[.agg #[vu, vg, va], .agg #[.int .i64 N, .int .i64 D]] w fun e w' => e = .returned (.bool false) ∧ Below w.heap.size w w' := by
 obtain ⟨pu, cu, e0, hlu, hcu, _⟩ := su.form us.length rfl
 subst e0
 obtain ⟨pg, cg, e0, hlg, hcg, _⟩ := sg.form gs.length rfl
 subst e0
 obtain ⟨pa, ca, e0, hla, hca, _⟩ := sa.form ks.length rfl
 subst e0
 have SU := Lib.hid su
 have SG := Lib.hid sg
 have SA := Lib.hid sa
 clear su sg sa
 have iu0 : (0 : Int) ≤ (us.length : Int) := Int.natCast_nonneg _
 have ig0 : (0 : Int) ≤ (gs.length : Int) := Int.natCast_nonneg _
 have ia0 : (0 : Int) ≤ (ks.length : Int) := Int.natCast_nonneg _
 have iu : (us.length : Int) ≤ 70 := by omega
 have ig : (gs.length : Int) ≤ 70 := by omega
 have ia : (ks.length : Int) ≤ 70 := by omega
 have hmm := @run_makeMap Tryz.prog
 have hD60 : D ≤ 60 := by have := of_decide_eq_false D1; omega
 have HSU := Lib.hid hs
 clear hs
 go_enter Tryz.func43, Tryz.ntmps43
 go_wp2_with fail
 have OTx := Lib.hid ((((own_at (w := w) [.slice pu us.length cu, .slice pg gs.length cg, .slice pa ks.length ca] 43 rfl).alloc (.cells #[.int .i64 N, .int .i64 D] 31)).alloc (.map #[] 0)))
 have OYx := Lib.hid (((own_at (w := w.alloc (.cells #[.slice pu us.length cu, .slice pg gs.length cg, .slice pa ks.length ca] 43)) (n := w.heap.size + 1) [.int .i64 N, .int .i64 D] 31 (by simp)).alloc (.map #[] 0)))
 have HMx := Lib.hid (cnt_made ((w.alloc (.cells #[.slice pu us.length cu, .slice pg gs.length cg, .slice pa ks.length ca] 43)).alloc (.cells #[.int .i64 N, .int .i64 D] 31)))
 have BBx := Lib.hid ((((Below.refl w.heap.size w).alloc (Nat.le_refl _) (.cells #[.slice pu us.length cu, .slice pg gs.length cg, .slice pa ks.length ca] 43)).alloc (by simp) (.cells #[.int .i64 N, .int .i64 D] 31)).alloc (by simp; omega) (.map #[] 0))
 have SUx := Lib.hid (SU.out.below BBx.out)
 have SGx := Lib.hid (SG.out.below BBx.out)
 have SAx := Lib.hid (SA.out.below BBx.out)
 obtain ⟨B, hB⟩ : ∃ B, ((w.alloc (.cells #[.slice pu us.length cu, .slice pg gs.length cg, .slice pa ks.length ca] 43)).alloc (.cells #[.int .i64 N, .int .i64 D] 31)).heap.size = B := ⟨_, rfl⟩
 have hbw2 : w.heap.size ≤ B := by rw [← hB]; simp; omega
 rw [hB] at HMx
 have hB' : w.heap.size + 1 + 1 = B := by rw [← hB]; simp
 rw [hB']
 have hbw := BBx.out.size
 clear hB hB'
 change Code.wp _ _ _ _ (((w.alloc (.cells #[.slice pu us.length cu, .slice pg gs.length cg, .slice pa ks.length ca] 43)).alloc (.cells #[.int .i64 N, .int .i64 D] 31)).alloc (.map #[] 0))
 generalize ((w.alloc (.cells #[.slice pu us.length cu, .slice pg gs.length cg, .slice pa ks.length ca] 43)).alloc (.cells #[.int .i64 N, .int .i64 D] 31)).alloc (.map #[] 0) = W at OTx OYx HMx BBx SUx SGx SAx hbw ⊢
 have OT0 := Lib.hid (OTx.out.drew)
 have OY0 := Lib.hid (OYx.out.drew)
 have BD := Lib.hid (Below.refl W.heap.size W).drew
 have HM0 := Lib.hid (HMx.out.below BD.out)
 have SU0 := Lib.hid (SUx.out.below BD.out)
 have SG0 := Lib.hid (SGx.out.below BD.out)
 have SA0 := Lib.hid (SAx.out.below BD.out)
 have BB0 := Lib.hid (BBx.out.drew)
 clear OTx OYx HMx BBx SUx SGx SAx BD SU SG SA
 obtain ⟨t0, t1, t2, _, _⟩ := own3 OT0.out
 obtain ⟨y0, y1, _, _⟩ := own2 OY0.out
 refine region_H 25 #[false, false, false, false, false, false, false, false, false, false, false, false, false, false, false, false, false, false, false, false, false, false, false, false, false] (by kernel_rfl) (by kernel_rfl) (fun w' => w'.cell? ⟨w.heap.size, 0, none⟩ = some (.slice pu us.length cu) ∧ w'.cell? ⟨w.heap.size, 1, none⟩ = some (.slice pg gs.length cg) ∧ w'.cell? ⟨w.heap.size, 2, none⟩ = some (.slice pa ks.length ca) ∧ w'.cell? ⟨w.heap.size + 1, 0, none⟩ = some (.int .i64 N) ∧ w'.cell? ⟨w.heap.size + 1, 1, none⟩ = some (.int .i64 D)) (by kernel_rfl) ?x1s (fun hHeld => ?x1r)
 case x1s => exact ⟨t0, t1, t2, y0, y1⟩
 refine tH 0 43 ?_
 refine tH 1 44 ?_
 refine tH 3 46 ?_
 refine tH 4 47 ?_
 refine wpH_one (i := 2) (by kernel_rfl) rfl (fun K hK => ?_)
 rw [if_pos (by rfl)]
 go_simp
 refine (uent_any _ us _ SU0.out (by omega)).mono ?_
 rintro e wa0 ⟨v0, rfl, hsl, hb⟩
 have E0 := Lib.hid (hsl)
 have OTa0 := Lib.hid (OT0.out.below hb)
 have OYa0 := Lib.hid (OY0.out.below hb)
 have HMa0 := Lib.hid (HM0.out.below hb)
 have BA0 := Lib.hid (belowTo BB0.out hb BB0.out.size)
 have SGa0 := Lib.hid (SG0.out.below hb)
 have SAa0 := Lib.hid (SA0.out.below hb)
 clear hsl hb
 obtain ⟨p0, c0, f0, _, _, _⟩ := E0.out.form us.length rfl
 subst f0
 obtain ⟨a00, a01, a02, _, _⟩ := own3 OTa0.out
 obtain ⟨a03, a04, _, _⟩ := own2 OYa0.out
 refine hK.out _ _ (⟨a00, a01, a02, a03, a04⟩) ?_
 clear hK K hHeld
 intro hHeld
 try simp only [Act.put, List.setIfInBounds_toArray, List.set_cons_zero, List.set_cons_succ]
 refine wpH_one (i := 5) (by kernel_rfl) rfl (fun K hK => ?_)
 rw [if_pos (by rfl)]
 go_simp
 refine (usnd_lit _ us N D B 0 ([] : List Int) false _ E0.out HMa0.out HMa0.out.lt (by first | omega | (simp; omega)) (by first | omega | (simp; omega)) hD60 HSU.out).mono ?_
 rintro e wb0 ⟨rfl, hg, hcnt⟩
 have OT1 := Lib.hid (OTa0.out.grown HMa0.out hg)
 have OY1 := Lib.hid (OYa0.out.grown HMa0.out hg)
 have BB1 := Lib.hid (BA0.out.grown hg BA0.out.size (fun k hk => by cases hk; exact hbw2))
 have SG1 := Lib.hid (SGa0.out.grown HMa0.out hg)
 have SA1 := Lib.hid (SAa0.out.grown HMa0.out hg)
 clear hg hcnt
 obtain ⟨b00, b01, b02, _, _⟩ := own3 OT1.out
 obtain ⟨b03, b04, _, _⟩ := own2 OY1.out
 refine hK.out _ _ (⟨b00, b01, b02, b03, b04⟩) ?_
 clear hK K hHeld
 intro hHeld
 try simp only [Act.put, List.setIfInBounds_toArray, List.set_cons_zero, List.set_cons_succ]
 refine tH 6 49 ?_
 refine tH 7 50 ?_
 refine nH 8 51 ?_
 refine nH 9 52 ?_
 refine nH 10 53 ?_
 refine nH 11 54 ?_
 refine nH 12 55 ?_
 refine nH 13 56 ?_
 refine nH 14 57 ?_
 refine tH 15 58 ?_
 refine tH 16 59 ?_
 refine nH 17 60 ?_
 refine nH 18 61 ?_
 refine nH 19 62 ?_
 refine nH 20 63 ?_
 refine nH 21 64 ?_
 refine nH 22 65 ?_
 refine nH 23 66 ?_
 refine tH 24 67 ?_
 refine wpAnyH_done (by kernel_rfl) ?_ _
 go_wp2
 go_ret
 exact ⟨rfl, BB1.out⟩
set_option maxRecDepth 100000 in
set_option maxHeartbeats 2000000 in
theorem vld_g (vu vg va : Value) (us : List Us) (gs : List Gr) (ks : List Ak) (N D : Int) (w : World) (su : SlU w vu us) (sg : SlG w vg gs) (sa : SlA w va ks) (u70 : us.length ≤ 70) (g70 : gs.length ≤ 70) (k70 : ks.length ≤ 70) (N0 : decide (N < 1) = false) (N1 : decide (60 < N) = false) (D0 : decide (D < 1) = false) (D1 : decide (60 < D) = false) (L0 : decide (24 < (us.length : Int) + (gs.length : Int)) = false) (L1 : decide (24 < (ks.length : Int)) = false) (hs : sndU N D us = true) (hg : sndG N D gs = false) : Calls Tryz.prog 43 #[.agg #[vu, vg, va], .agg #[.int .i64 N, .int .i64 D]] w fun e w' => e = .returned (.bool false) ∧ Below w.heap.size w w' := by
 obtain ⟨pu, cu, e0, hlu, hcu, _⟩ := su.form us.length rfl
 subst e0
 obtain ⟨pg, cg, e0, hlg, hcg, _⟩ := sg.form gs.length rfl
 subst e0
 obtain ⟨pa, ca, e0, hla, hca, _⟩ := sa.form ks.length rfl
 subst e0
 have SU := Lib.hid su
 have SG := Lib.hid sg
 have SA := Lib.hid sa
 clear su sg sa
 have iu0 : (0 : Int) ≤ (us.length : Int) := Int.natCast_nonneg _
 have ig0 : (0 : Int) ≤ (gs.length : Int) := Int.natCast_nonneg _
 have ia0 : (0 : Int) ≤ (ks.length : Int) := Int.natCast_nonneg _
 have iu : (us.length : Int) ≤ 70 := by omega
 have ig : (gs.length : Int) ≤ 70 := by omega
 have ia : (ks.length : Int) ≤ 70 := by omega
 have hmm := @run_makeMap Tryz.prog
 have hD60 : D ≤ 60 := by have := of_decide_eq_false D1; omega
 have HSU := Lib.hid hs
 have HSG := Lib.hid hg
 clear hs hg
 go_enter Tryz.func43, Tryz.ntmps43
 go_wp2_with fail
 have OTx := Lib.hid ((((own_at (w := w) [.slice pu us.length cu, .slice pg gs.length cg, .slice pa ks.length ca] 43 rfl).alloc (.cells #[.int .i64 N, .int .i64 D] 31)).alloc (.map #[] 0)))
 have OYx := Lib.hid (((own_at (w := w.alloc (.cells #[.slice pu us.length cu, .slice pg gs.length cg, .slice pa ks.length ca] 43)) (n := w.heap.size + 1) [.int .i64 N, .int .i64 D] 31 (by simp)).alloc (.map #[] 0)))
 have HMx := Lib.hid (cnt_made ((w.alloc (.cells #[.slice pu us.length cu, .slice pg gs.length cg, .slice pa ks.length ca] 43)).alloc (.cells #[.int .i64 N, .int .i64 D] 31)))
 have BBx := Lib.hid ((((Below.refl w.heap.size w).alloc (Nat.le_refl _) (.cells #[.slice pu us.length cu, .slice pg gs.length cg, .slice pa ks.length ca] 43)).alloc (by simp) (.cells #[.int .i64 N, .int .i64 D] 31)).alloc (by simp; omega) (.map #[] 0))
 have SUx := Lib.hid (SU.out.below BBx.out)
 have SGx := Lib.hid (SG.out.below BBx.out)
 have SAx := Lib.hid (SA.out.below BBx.out)
 obtain ⟨B, hB⟩ : ∃ B, ((w.alloc (.cells #[.slice pu us.length cu, .slice pg gs.length cg, .slice pa ks.length ca] 43)).alloc (.cells #[.int .i64 N, .int .i64 D] 31)).heap.size = B := ⟨_, rfl⟩
 have hbw2 : w.heap.size ≤ B := by rw [← hB]; simp; omega
 rw [hB] at HMx
 have hB' : w.heap.size + 1 + 1 = B := by rw [← hB]; simp
 rw [hB']
 have hbw := BBx.out.size
 clear hB hB'
 change Code.wp _ _ _ _ (((w.alloc (.cells #[.slice pu us.length cu, .slice pg gs.length cg, .slice pa ks.length ca] 43)).alloc (.cells #[.int .i64 N, .int .i64 D] 31)).alloc (.map #[] 0))
 generalize ((w.alloc (.cells #[.slice pu us.length cu, .slice pg gs.length cg, .slice pa ks.length ca] 43)).alloc (.cells #[.int .i64 N, .int .i64 D] 31)).alloc (.map #[] 0) = W at OTx OYx HMx BBx SUx SGx SAx hbw ⊢
 have OT0 := Lib.hid (OTx.out.drew)
 have OY0 := Lib.hid (OYx.out.drew)
 have BD := Lib.hid (Below.refl W.heap.size W).drew
 have HM0 := Lib.hid (HMx.out.below BD.out)
 have SU0 := Lib.hid (SUx.out.below BD.out)
 have SG0 := Lib.hid (SGx.out.below BD.out)
 have SA0 := Lib.hid (SAx.out.below BD.out)
 have BB0 := Lib.hid (BBx.out.drew)
 clear OTx OYx HMx BBx SUx SGx SAx BD SU SG SA
 obtain ⟨t0, t1, t2, _, _⟩ := own3 OT0.out
 obtain ⟨y0, y1, _, _⟩ := own2 OY0.out
 refine region_H 25 #[false, false, false, false, false, false, false, false, false, false, false, false, false, false, false, false, false, false, false, false, false, false, false, false, false] (by kernel_rfl) (by kernel_rfl) (fun w' => w'.cell? ⟨w.heap.size, 0, none⟩ = some (.slice pu us.length cu) ∧ w'.cell? ⟨w.heap.size, 1, none⟩ = some (.slice pg gs.length cg) ∧ w'.cell? ⟨w.heap.size, 2, none⟩ = some (.slice pa ks.length ca) ∧ w'.cell? ⟨w.heap.size + 1, 0, none⟩ = some (.int .i64 N) ∧ w'.cell? ⟨w.heap.size + 1, 1, none⟩ = some (.int .i64 D)) (by kernel_rfl) ?x27s (fun hHeld => ?x27r)
 case x27s => exact ⟨t0, t1, t2, y0, y1⟩
 refine tH 0 43 ?_
 refine tH 1 44 ?_
 refine tH 3 46 ?_
 refine tH 4 47 ?_
 refine wpH_one (i := 2) (by kernel_rfl) rfl (fun K hK => ?_)
 rw [if_pos (by rfl)]
 go_simp
 refine (uent_any _ us _ SU0.out (by omega)).mono ?_
 rintro e wa0 ⟨v0, rfl, hsl, hb⟩
 have E0 := Lib.hid (hsl)
 have OTa0 := Lib.hid (OT0.out.below hb)
 have OYa0 := Lib.hid (OY0.out.below hb)
 have HMa0 := Lib.hid (HM0.out.below hb)
 have BA0 := Lib.hid (belowTo BB0.out hb BB0.out.size)
 have SGa0 := Lib.hid (SG0.out.below hb)
 have SAa0 := Lib.hid (SA0.out.below hb)
 clear hsl hb
 obtain ⟨p0, c0, f0, _, _, _⟩ := E0.out.form us.length rfl
 subst f0
 obtain ⟨a00, a01, a02, _, _⟩ := own3 OTa0.out
 obtain ⟨a03, a04, _, _⟩ := own2 OYa0.out
 refine hK.out _ _ (⟨a00, a01, a02, a03, a04⟩) ?_
 clear hK K hHeld
 intro hHeld
 try simp only [Act.put, List.setIfInBounds_toArray, List.set_cons_zero, List.set_cons_succ]
 refine wpH_one (i := 5) (by kernel_rfl) rfl (fun K hK => ?_)
 rw [if_pos (by rfl)]
 go_simp
 refine (usnd_lit _ us N D B 0 ([] : List Int) true _ E0.out HMa0.out HMa0.out.lt (by first | omega | (simp; omega)) (by first | omega | (simp; omega)) hD60 HSU.out).mono ?_
 rintro e wb0 ⟨rfl, hg, hcnt⟩
 have OT1 := Lib.hid (OTa0.out.grown HMa0.out hg)
 have OY1 := Lib.hid (OYa0.out.grown HMa0.out hg)
 have BB1 := Lib.hid (BA0.out.grown hg BA0.out.size (fun k hk => by cases hk; exact hbw2))
 have SG1 := Lib.hid (SGa0.out.grown HMa0.out hg)
 have SA1 := Lib.hid (SAa0.out.grown HMa0.out hg)
 have HM1 := Lib.hid (hcnt rfl)
 clear hg hcnt
 obtain ⟨b00, b01, b02, _, _⟩ := own3 OT1.out
 obtain ⟨b03, b04, _, _⟩ := own2 OY1.out
 refine hK.out _ _ (⟨b00, b01, b02, b03, b04⟩) ?_
 clear hK K hHeld
 intro hHeld
 try simp only [Act.put, List.setIfInBounds_toArray, List.set_cons_zero, List.set_cons_succ]
 refine tH 6 49 ?_
 refine tH 7 50 ?_
 refine tH 8 51 ?_
 refine tH 9 52 ?_
 refine tH 11 54 ?_
 refine tH 12 55 ?_
 refine wpH_one (i := 10) (by kernel_rfl) rfl (fun K hK => ?_)
 rw [if_pos (by rfl)]
 go_simp
 refine (gent_any _ gs _ SG1.out (by omega)).mono ?_
 rintro e wa1 ⟨v1, rfl, hsl, hb⟩
 have E1 := Lib.hid (hsl)
 have OTa1 := Lib.hid (OT1.out.below hb)
 have OYa1 := Lib.hid (OY1.out.below hb)
 have HMa1 := Lib.hid (HM1.out.below hb)
 have BA1 := Lib.hid (belowTo BB1.out hb BB1.out.size)
 have SAa1 := Lib.hid (SA1.out.below hb)
 clear hsl hb
 obtain ⟨p1, c1, f0, _, _, _⟩ := E1.out.form gs.length rfl
 subst f0
 obtain ⟨a10, a11, a12, _, _⟩ := own3 OTa1.out
 obtain ⟨a13, a14, _, _⟩ := own2 OYa1.out
 refine hK.out _ _ (⟨a10, a11, a12, a13, a14⟩) ?_
 clear hK K hHeld
 intro hHeld
 try simp only [Act.put, List.setIfInBounds_toArray, List.set_cons_zero, List.set_cons_succ]
 refine wpH_one (i := 13) (by kernel_rfl) rfl (fun K hK => ?_)
 rw [if_pos (by rfl)]
 go_simp
 refine (gsnd_lit _ gs N D B (0 + (us.map Us.s).length) ([] ++ us.map Us.s) false _ E1.out HMa1.out HMa1.out.lt (by first | omega | (simp; omega)) (by first | omega | (simp; omega)) hD60 HSG.out).mono ?_
 rintro e wb1 ⟨rfl, hg, hcnt⟩
 have OT2 := Lib.hid (OTa1.out.grown HMa1.out hg)
 have OY2 := Lib.hid (OYa1.out.grown HMa1.out hg)
 have BB2 := Lib.hid (BA1.out.grown hg BA1.out.size (fun k hk => by cases hk; exact hbw2))
 have SA2 := Lib.hid (SAa1.out.grown HMa1.out hg)
 clear hg hcnt
 obtain ⟨b10, b11, b12, _, _⟩ := own3 OT2.out
 obtain ⟨b13, b14, _, _⟩ := own2 OY2.out
 refine hK.out _ _ (⟨b10, b11, b12, b13, b14⟩) ?_
 clear hK K hHeld
 intro hHeld
 try simp only [Act.put, List.setIfInBounds_toArray, List.set_cons_zero, List.set_cons_succ]
 refine tH 14 57 ?_
 refine tH 15 58 ?_
 refine tH 16 59 ?_
 refine nH 17 60 ?_
 refine nH 18 61 ?_
 refine nH 19 62 ?_
 refine nH 20 63 ?_
 refine nH 21 64 ?_
 refine nH 22 65 ?_
 refine nH 23 66 ?_
 refine tH 24 67 ?_
 refine wpAnyH_done (by kernel_rfl) ?_ _
 go_wp2
 go_ret
 exact ⟨rfl, BB2.out⟩
set_option maxRecDepth 100000 in
set_option maxHeartbeats 2000000 in
theorem vld_a (vu vg va : Value) (us : List Us) (gs : List Gr) (ks : List Ak) (N D : Int) (w : World) (su : SlU w vu us) (sg : SlG w vg gs) (sa : SlA w va ks) (u70 : us.length ≤ 70) (g70 : gs.length ≤ 70) (k70 : ks.length ≤ 70) (N0 : decide (N < 1) = false) (N1 : decide (60 < N) = false) (D0 : decide (D < 1) = false) (D1 : decide (60 < D) = false) (L0 : decide (24 < (us.length : Int) + (gs.length : Int)) = false) (L1 : decide (24 < (ks.length : Int)) = false) (hs : sndU N D us = true) (hg : sndG N D gs = true) (ha : sndA N D ks = false) : Calls Tryz.prog 43 #[.agg #[vu, vg, va], .agg #[.int .i64 N, .int .i64 D]] w fun e w' => e = .returned (.bool false) ∧ Below w.heap.size w w' := by
 obtain ⟨pu, cu, e0, hlu, hcu, _⟩ := su.form us.length rfl
 subst e0
 obtain ⟨pg, cg, e0, hlg, hcg, _⟩ := sg.form gs.length rfl
 subst e0
 obtain ⟨pa, ca, e0, hla, hca, _⟩ := sa.form ks.length rfl
 subst e0
 have SU := Lib.hid su
 have SG := Lib.hid sg
 have SA := Lib.hid sa
 clear su sg sa
 have iu0 : (0 : Int) ≤ (us.length : Int) := Int.natCast_nonneg _
 have ig0 : (0 : Int) ≤ (gs.length : Int) := Int.natCast_nonneg _
 have ia0 : (0 : Int) ≤ (ks.length : Int) := Int.natCast_nonneg _
 have iu : (us.length : Int) ≤ 70 := by omega
 have ig : (gs.length : Int) ≤ 70 := by omega
 have ia : (ks.length : Int) ≤ 70 := by omega
 have hmm := @run_makeMap Tryz.prog
 have hD60 : D ≤ 60 := by have := of_decide_eq_false D1; omega
 have HSU := Lib.hid hs
 have HSG := Lib.hid hg
 have HSA := Lib.hid ha
 clear hs hg ha
 go_enter Tryz.func43, Tryz.ntmps43
 go_wp2_with fail
 have OTx := Lib.hid ((((own_at (w := w) [.slice pu us.length cu, .slice pg gs.length cg, .slice pa ks.length ca] 43 rfl).alloc (.cells #[.int .i64 N, .int .i64 D] 31)).alloc (.map #[] 0)))
 have OYx := Lib.hid (((own_at (w := w.alloc (.cells #[.slice pu us.length cu, .slice pg gs.length cg, .slice pa ks.length ca] 43)) (n := w.heap.size + 1) [.int .i64 N, .int .i64 D] 31 (by simp)).alloc (.map #[] 0)))
 have HMx := Lib.hid (cnt_made ((w.alloc (.cells #[.slice pu us.length cu, .slice pg gs.length cg, .slice pa ks.length ca] 43)).alloc (.cells #[.int .i64 N, .int .i64 D] 31)))
 have BBx := Lib.hid ((((Below.refl w.heap.size w).alloc (Nat.le_refl _) (.cells #[.slice pu us.length cu, .slice pg gs.length cg, .slice pa ks.length ca] 43)).alloc (by simp) (.cells #[.int .i64 N, .int .i64 D] 31)).alloc (by simp; omega) (.map #[] 0))
 have SUx := Lib.hid (SU.out.below BBx.out)
 have SGx := Lib.hid (SG.out.below BBx.out)
 have SAx := Lib.hid (SA.out.below BBx.out)
 obtain ⟨B, hB⟩ : ∃ B, ((w.alloc (.cells #[.slice pu us.length cu, .slice pg gs.length cg, .slice pa ks.length ca] 43)).alloc (.cells #[.int .i64 N, .int .i64 D] 31)).heap.size = B := ⟨_, rfl⟩
 have hbw2 : w.heap.size ≤ B := by rw [← hB]; simp; omega
 rw [hB] at HMx
 have hB' : w.heap.size + 1 + 1 = B := by rw [← hB]; simp
 rw [hB']
 have hbw := BBx.out.size
 clear hB hB'
 change Code.wp _ _ _ _ (((w.alloc (.cells #[.slice pu us.length cu, .slice pg gs.length cg, .slice pa ks.length ca] 43)).alloc (.cells #[.int .i64 N, .int .i64 D] 31)).alloc (.map #[] 0))
 generalize ((w.alloc (.cells #[.slice pu us.length cu, .slice pg gs.length cg, .slice pa ks.length ca] 43)).alloc (.cells #[.int .i64 N, .int .i64 D] 31)).alloc (.map #[] 0) = W at OTx OYx HMx BBx SUx SGx SAx hbw ⊢
 have OT0 := Lib.hid (OTx.out.drew)
 have OY0 := Lib.hid (OYx.out.drew)
 have BD := Lib.hid (Below.refl W.heap.size W).drew
 have HM0 := Lib.hid (HMx.out.below BD.out)
 have SU0 := Lib.hid (SUx.out.below BD.out)
 have SG0 := Lib.hid (SGx.out.below BD.out)
 have SA0 := Lib.hid (SAx.out.below BD.out)
 have BB0 := Lib.hid (BBx.out.drew)
 clear OTx OYx HMx BBx SUx SGx SAx BD SU SG SA
 obtain ⟨t0, t1, t2, _, _⟩ := own3 OT0.out
 obtain ⟨y0, y1, _, _⟩ := own2 OY0.out
 refine region_H 25 #[false, false, false, false, false, false, false, false, false, false, false, false, false, false, false, false, false, false, false, false, false, false, false, false, false] (by kernel_rfl) (by kernel_rfl) (fun w' => w'.cell? ⟨w.heap.size, 0, none⟩ = some (.slice pu us.length cu) ∧ w'.cell? ⟨w.heap.size, 1, none⟩ = some (.slice pg gs.length cg) ∧ w'.cell? ⟨w.heap.size, 2, none⟩ = some (.slice pa ks.length ca) ∧ w'.cell? ⟨w.heap.size + 1, 0, none⟩ = some (.int .i64 N) ∧ w'.cell? ⟨w.heap.size + 1, 1, none⟩ = some (.int .i64 D)) (by kernel_rfl) ?x53s (fun hHeld => ?x53r)
 case x53s => exact ⟨t0, t1, t2, y0, y1⟩
 refine tH 0 43 ?_
 refine tH 1 44 ?_
 refine tH 3 46 ?_
 refine tH 4 47 ?_
 refine wpH_one (i := 2) (by kernel_rfl) rfl (fun K hK => ?_)
 rw [if_pos (by rfl)]
 go_simp
 refine (uent_any _ us _ SU0.out (by omega)).mono ?_
 rintro e wa0 ⟨v0, rfl, hsl, hb⟩
 have E0 := Lib.hid (hsl)
 have OTa0 := Lib.hid (OT0.out.below hb)
 have OYa0 := Lib.hid (OY0.out.below hb)
 have HMa0 := Lib.hid (HM0.out.below hb)
 have BA0 := Lib.hid (belowTo BB0.out hb BB0.out.size)
 have SGa0 := Lib.hid (SG0.out.below hb)
 have SAa0 := Lib.hid (SA0.out.below hb)
 clear hsl hb
 obtain ⟨p0, c0, f0, _, _, _⟩ := E0.out.form us.length rfl
 subst f0
 obtain ⟨a00, a01, a02, _, _⟩ := own3 OTa0.out
 obtain ⟨a03, a04, _, _⟩ := own2 OYa0.out
 refine hK.out _ _ (⟨a00, a01, a02, a03, a04⟩) ?_
 clear hK K hHeld
 intro hHeld
 try simp only [Act.put, List.setIfInBounds_toArray, List.set_cons_zero, List.set_cons_succ]
 refine wpH_one (i := 5) (by kernel_rfl) rfl (fun K hK => ?_)
 rw [if_pos (by rfl)]
 go_simp
 refine (usnd_lit _ us N D B 0 ([] : List Int) true _ E0.out HMa0.out HMa0.out.lt (by first | omega | (simp; omega)) (by first | omega | (simp; omega)) hD60 HSU.out).mono ?_
 rintro e wb0 ⟨rfl, hg, hcnt⟩
 have OT1 := Lib.hid (OTa0.out.grown HMa0.out hg)
 have OY1 := Lib.hid (OYa0.out.grown HMa0.out hg)
 have BB1 := Lib.hid (BA0.out.grown hg BA0.out.size (fun k hk => by cases hk; exact hbw2))
 have SG1 := Lib.hid (SGa0.out.grown HMa0.out hg)
 have SA1 := Lib.hid (SAa0.out.grown HMa0.out hg)
 have HM1 := Lib.hid (hcnt rfl)
 clear hg hcnt
 obtain ⟨b00, b01, b02, _, _⟩ := own3 OT1.out
 obtain ⟨b03, b04, _, _⟩ := own2 OY1.out
 refine hK.out _ _ (⟨b00, b01, b02, b03, b04⟩) ?_
 clear hK K hHeld
 intro hHeld
 try simp only [Act.put, List.setIfInBounds_toArray, List.set_cons_zero, List.set_cons_succ]
 refine tH 6 49 ?_
 refine tH 7 50 ?_
 refine tH 8 51 ?_
 refine tH 9 52 ?_
 refine tH 11 54 ?_
 refine tH 12 55 ?_
 refine wpH_one (i := 10) (by kernel_rfl) rfl (fun K hK => ?_)
 rw [if_pos (by rfl)]
 go_simp
 refine (gent_any _ gs _ SG1.out (by omega)).mono ?_
 rintro e wa1 ⟨v1, rfl, hsl, hb⟩
 have E1 := Lib.hid (hsl)
 have OTa1 := Lib.hid (OT1.out.below hb)
 have OYa1 := Lib.hid (OY1.out.below hb)
 have HMa1 := Lib.hid (HM1.out.below hb)
 have BA1 := Lib.hid (belowTo BB1.out hb BB1.out.size)
 have SAa1 := Lib.hid (SA1.out.below hb)
 clear hsl hb
 obtain ⟨p1, c1, f0, _, _, _⟩ := E1.out.form gs.length rfl
 subst f0
 obtain ⟨a10, a11, a12, _, _⟩ := own3 OTa1.out
 obtain ⟨a13, a14, _, _⟩ := own2 OYa1.out
 refine hK.out _ _ (⟨a10, a11, a12, a13, a14⟩) ?_
 clear hK K hHeld
 intro hHeld
 try simp only [Act.put, List.setIfInBounds_toArray, List.set_cons_zero, List.set_cons_succ]
 refine wpH_one (i := 13) (by kernel_rfl) rfl (fun K hK => ?_)
 rw [if_pos (by rfl)]
 go_simp
 refine (gsnd_lit _ gs N D B (0 + (us.map Us.s).length) ([] ++ us.map Us.s) true _ E1.out HMa1.out HMa1.out.lt (by first | omega | (simp; omega)) (by first | omega | (simp; omega)) hD60 HSG.out).mono ?_
 rintro e wb1 ⟨rfl, hg, hcnt⟩
 have OT2 := Lib.hid (OTa1.out.grown HMa1.out hg)
 have OY2 := Lib.hid (OYa1.out.grown HMa1.out hg)
 have BB2 := Lib.hid (BA1.out.grown hg BA1.out.size (fun k hk => by cases hk; exact hbw2))
 have SA2 := Lib.hid (SAa1.out.grown HMa1.out hg)
 have HM2 := Lib.hid (hcnt rfl)
 clear hg hcnt
 obtain ⟨b10, b11, b12, _, _⟩ := own3 OT2.out
 obtain ⟨b13, b14, _, _⟩ := own2 OY2.out
 refine hK.out _ _ (⟨b10, b11, b12, b13, b14⟩) ?_
 clear hK K hHeld
 intro hHeld
 try simp only [Act.put, List.setIfInBounds_toArray, List.set_cons_zero, List.set_cons_succ]
 refine tH 14 57 ?_
 refine tH 15 58 ?_
 refine tH 16 59 ?_
 refine tH 17 60 ?_
 refine tH 18 61 ?_
 refine tH 20 63 ?_
 refine tH 21 64 ?_
 refine wpH_one (i := 19) (by kernel_rfl) rfl (fun K hK => ?_)
 rw [if_pos (by rfl)]
 go_simp
 refine (aent_any _ ks _ SA2.out (by omega)).mono ?_
 rintro e wa2 ⟨v2, rfl, hsl, hb⟩
 have E2 := Lib.hid (hsl)
 have OTa2 := Lib.hid (OT2.out.below hb)
 have OYa2 := Lib.hid (OY2.out.below hb)
 have HMa2 := Lib.hid (HM2.out.below hb)
 have BA2 := Lib.hid (belowTo BB2.out hb BB2.out.size)
 clear hsl hb
 obtain ⟨p2, c2, f0, _, _, _⟩ := E2.out.form ks.length rfl
 subst f0
 obtain ⟨a20, a21, a22, _, _⟩ := own3 OTa2.out
 obtain ⟨a23, a24, _, _⟩ := own2 OYa2.out
 refine hK.out _ _ (⟨a20, a21, a22, a23, a24⟩) ?_
 clear hK K hHeld
 intro hHeld
 try simp only [Act.put, List.setIfInBounds_toArray, List.set_cons_zero, List.set_cons_succ]
 refine wpH_one (i := 22) (by kernel_rfl) rfl (fun K hK => ?_)
 rw [if_pos (by rfl)]
 go_simp
 refine (asnd_lit _ ks N D B (0 + (us.map Us.s).length + (gs.map Gr.s).length) ([] ++ us.map Us.s ++ gs.map Gr.s) false _ E2.out HMa2.out HMa2.out.lt (by first | omega | (simp; omega)) (by first | omega | (simp; omega)) hD60 HSA.out).mono ?_
 rintro e wb2 ⟨rfl, hg, hcnt⟩
 have OT3 := Lib.hid (OTa2.out.grown HMa2.out hg)
 have OY3 := Lib.hid (OYa2.out.grown HMa2.out hg)
 have BB3 := Lib.hid (BA2.out.grown hg BA2.out.size (fun k hk => by cases hk; exact hbw2))
 clear hg hcnt
 obtain ⟨b20, b21, b22, _, _⟩ := own3 OT3.out
 obtain ⟨b23, b24, _, _⟩ := own2 OY3.out
 refine hK.out _ _ (⟨b20, b21, b22, b23, b24⟩) ?_
 clear hK K hHeld
 intro hHeld
 try simp only [Act.put, List.setIfInBounds_toArray, List.set_cons_zero, List.set_cons_succ]
 refine tH 23 66 ?_
 refine tH 24 67 ?_
 refine wpAnyH_done (by kernel_rfl) ?_ _
 go_wp2
 go_ret
 exact ⟨rfl, BB3.out⟩
set_option maxRecDepth 100000 in
set_option maxHeartbeats 2000000 in
theorem vld_ok (vu vg va : Value) (us : List Us) (gs : List Gr) (ks : List Ak) (N D : Int) (w : World) (su : SlU w vu us) (sg : SlG w vg gs) (sa : SlA w va ks) (u70 : us.length ≤ 70) (g70 : gs.length ≤ 70) (k70 : ks.length ≤ 70) (N0 : decide (N < 1) = false) (N1 : decide (60 < N) = false) (D0 : decide (D < 1) = false) (D1 : decide (60 < D) = false) (L0 : decide (24 < (us.length : Int) + (gs.length : Int)) = false) (L1 : decide (24 < (ks.length : Int)) = false) (hs : sndU N D us = true) (hg : sndG N D gs = true) (ha : sndA N D ks = true) : Calls Tryz.prog 43 #[.agg #[vu, vg, va], .agg #[.int .i64 N, .int .i64 D]] w fun e w' => e = .returned (.bool (oneB us gs ks)) ∧ Below w.heap.size w w' := by
 obtain ⟨pu, cu, e0, hlu, hcu, _⟩ := su.form us.length rfl
 subst e0
 obtain ⟨pg, cg, e0, hlg, hcg, _⟩ := sg.form gs.length rfl
 subst e0
 obtain ⟨pa, ca, e0, hla, hca, _⟩ := sa.form ks.length rfl
 subst e0
 have SU := Lib.hid su
 have SG := Lib.hid sg
 have SA := Lib.hid sa
 clear su sg sa
 have iu0 : (0 : Int) ≤ (us.length : Int) := Int.natCast_nonneg _
 have ig0 : (0 : Int) ≤ (gs.length : Int) := Int.natCast_nonneg _
 have ia0 : (0 : Int) ≤ (ks.length : Int) := Int.natCast_nonneg _
 have iu : (us.length : Int) ≤ 70 := by omega
 have ig : (gs.length : Int) ≤ 70 := by omega
 have ia : (ks.length : Int) ≤ 70 := by omega
 have hmm := @run_makeMap Tryz.prog
 have hD60 : D ≤ 60 := by have := of_decide_eq_false D1; omega
 have HSU := Lib.hid hs
 have HSG := Lib.hid hg
 have HSA := Lib.hid ha
 clear hs hg ha
 go_enter Tryz.func43, Tryz.ntmps43
 go_wp2_with fail
 have OTx := Lib.hid ((((own_at (w := w) [.slice pu us.length cu, .slice pg gs.length cg, .slice pa ks.length ca] 43 rfl).alloc (.cells #[.int .i64 N, .int .i64 D] 31)).alloc (.map #[] 0)))
 have OYx := Lib.hid (((own_at (w := w.alloc (.cells #[.slice pu us.length cu, .slice pg gs.length cg, .slice pa ks.length ca] 43)) (n := w.heap.size + 1) [.int .i64 N, .int .i64 D] 31 (by simp)).alloc (.map #[] 0)))
 have HMx := Lib.hid (cnt_made ((w.alloc (.cells #[.slice pu us.length cu, .slice pg gs.length cg, .slice pa ks.length ca] 43)).alloc (.cells #[.int .i64 N, .int .i64 D] 31)))
 have BBx := Lib.hid ((((Below.refl w.heap.size w).alloc (Nat.le_refl _) (.cells #[.slice pu us.length cu, .slice pg gs.length cg, .slice pa ks.length ca] 43)).alloc (by simp) (.cells #[.int .i64 N, .int .i64 D] 31)).alloc (by simp; omega) (.map #[] 0))
 have SUx := Lib.hid (SU.out.below BBx.out)
 have SGx := Lib.hid (SG.out.below BBx.out)
 have SAx := Lib.hid (SA.out.below BBx.out)
 obtain ⟨B, hB⟩ : ∃ B, ((w.alloc (.cells #[.slice pu us.length cu, .slice pg gs.length cg, .slice pa ks.length ca] 43)).alloc (.cells #[.int .i64 N, .int .i64 D] 31)).heap.size = B := ⟨_, rfl⟩
 have hbw2 : w.heap.size ≤ B := by rw [← hB]; simp; omega
 rw [hB] at HMx
 have hB' : w.heap.size + 1 + 1 = B := by rw [← hB]; simp
 rw [hB']
 have hbw := BBx.out.size
 clear hB hB'
 change Code.wp _ _ _ _ (((w.alloc (.cells #[.slice pu us.length cu, .slice pg gs.length cg, .slice pa ks.length ca] 43)).alloc (.cells #[.int .i64 N, .int .i64 D] 31)).alloc (.map #[] 0))
 generalize ((w.alloc (.cells #[.slice pu us.length cu, .slice pg gs.length cg, .slice pa ks.length ca] 43)).alloc (.cells #[.int .i64 N, .int .i64 D] 31)).alloc (.map #[] 0) = W at OTx OYx HMx BBx SUx SGx SAx hbw ⊢
 have OT0 := Lib.hid (OTx.out.drew)
 have OY0 := Lib.hid (OYx.out.drew)
 have BD := Lib.hid (Below.refl W.heap.size W).drew
 have HM0 := Lib.hid (HMx.out.below BD.out)
 have SU0 := Lib.hid (SUx.out.below BD.out)
 have SG0 := Lib.hid (SGx.out.below BD.out)
 have SA0 := Lib.hid (SAx.out.below BD.out)
 have BB0 := Lib.hid (BBx.out.drew)
 clear OTx OYx HMx BBx SUx SGx SAx BD SU SG SA
 obtain ⟨t0, t1, t2, _, _⟩ := own3 OT0.out
 obtain ⟨y0, y1, _, _⟩ := own2 OY0.out
 refine region_H 25 #[false, false, false, false, false, false, false, false, false, false, false, false, false, false, false, false, false, false, false, false, false, false, false, false, false] (by kernel_rfl) (by kernel_rfl) (fun w' => w'.cell? ⟨w.heap.size, 0, none⟩ = some (.slice pu us.length cu) ∧ w'.cell? ⟨w.heap.size, 1, none⟩ = some (.slice pg gs.length cg) ∧ w'.cell? ⟨w.heap.size, 2, none⟩ = some (.slice pa ks.length ca) ∧ w'.cell? ⟨w.heap.size + 1, 0, none⟩ = some (.int .i64 N) ∧ w'.cell? ⟨w.heap.size + 1, 1, none⟩ = some (.int .i64 D)) (by kernel_rfl) ?x79s (fun hHeld => ?x79r)
 case x79s => exact ⟨t0, t1, t2, y0, y1⟩
 refine tH 0 43 ?_
 refine tH 1 44 ?_
 refine tH 3 46 ?_
 refine tH 4 47 ?_
 refine wpH_one (i := 2) (by kernel_rfl) rfl (fun K hK => ?_)
 rw [if_pos (by rfl)]
 go_simp
 refine (uent_any _ us _ SU0.out (by omega)).mono ?_
 rintro e wa0 ⟨v0, rfl, hsl, hb⟩
 have E0 := Lib.hid (hsl)
 have OTa0 := Lib.hid (OT0.out.below hb)
 have OYa0 := Lib.hid (OY0.out.below hb)
 have HMa0 := Lib.hid (HM0.out.below hb)
 have BA0 := Lib.hid (belowTo BB0.out hb BB0.out.size)
 have SGa0 := Lib.hid (SG0.out.below hb)
 have SAa0 := Lib.hid (SA0.out.below hb)
 clear hsl hb
 obtain ⟨p0, c0, f0, _, _, _⟩ := E0.out.form us.length rfl
 subst f0
 obtain ⟨a00, a01, a02, _, _⟩ := own3 OTa0.out
 obtain ⟨a03, a04, _, _⟩ := own2 OYa0.out
 refine hK.out _ _ (⟨a00, a01, a02, a03, a04⟩) ?_
 clear hK K hHeld
 intro hHeld
 try simp only [Act.put, List.setIfInBounds_toArray, List.set_cons_zero, List.set_cons_succ]
 refine wpH_one (i := 5) (by kernel_rfl) rfl (fun K hK => ?_)
 rw [if_pos (by rfl)]
 go_simp
 refine (usnd_lit _ us N D B 0 ([] : List Int) true _ E0.out HMa0.out HMa0.out.lt (by first | omega | (simp; omega)) (by first | omega | (simp; omega)) hD60 HSU.out).mono ?_
 rintro e wb0 ⟨rfl, hg, hcnt⟩
 have OT1 := Lib.hid (OTa0.out.grown HMa0.out hg)
 have OY1 := Lib.hid (OYa0.out.grown HMa0.out hg)
 have BB1 := Lib.hid (BA0.out.grown hg BA0.out.size (fun k hk => by cases hk; exact hbw2))
 have SG1 := Lib.hid (SGa0.out.grown HMa0.out hg)
 have SA1 := Lib.hid (SAa0.out.grown HMa0.out hg)
 have HM1 := Lib.hid (hcnt rfl)
 clear hg hcnt
 obtain ⟨b00, b01, b02, _, _⟩ := own3 OT1.out
 obtain ⟨b03, b04, _, _⟩ := own2 OY1.out
 refine hK.out _ _ (⟨b00, b01, b02, b03, b04⟩) ?_
 clear hK K hHeld
 intro hHeld
 try simp only [Act.put, List.setIfInBounds_toArray, List.set_cons_zero, List.set_cons_succ]
 refine tH 6 49 ?_
 refine tH 7 50 ?_
 refine tH 8 51 ?_
 refine tH 9 52 ?_
 refine tH 11 54 ?_
 refine tH 12 55 ?_
 refine wpH_one (i := 10) (by kernel_rfl) rfl (fun K hK => ?_)
 rw [if_pos (by rfl)]
 go_simp
 refine (gent_any _ gs _ SG1.out (by omega)).mono ?_
 rintro e wa1 ⟨v1, rfl, hsl, hb⟩
 have E1 := Lib.hid (hsl)
 have OTa1 := Lib.hid (OT1.out.below hb)
 have OYa1 := Lib.hid (OY1.out.below hb)
 have HMa1 := Lib.hid (HM1.out.below hb)
 have BA1 := Lib.hid (belowTo BB1.out hb BB1.out.size)
 have SAa1 := Lib.hid (SA1.out.below hb)
 clear hsl hb
 obtain ⟨p1, c1, f0, _, _, _⟩ := E1.out.form gs.length rfl
 subst f0
 obtain ⟨a10, a11, a12, _, _⟩ := own3 OTa1.out
 obtain ⟨a13, a14, _, _⟩ := own2 OYa1.out
 refine hK.out _ _ (⟨a10, a11, a12, a13, a14⟩) ?_
 clear hK K hHeld
 intro hHeld
 try simp only [Act.put, List.setIfInBounds_toArray, List.set_cons_zero, List.set_cons_succ]
 refine wpH_one (i := 13) (by kernel_rfl) rfl (fun K hK => ?_)
 rw [if_pos (by rfl)]
 go_simp
 refine (gsnd_lit _ gs N D B (0 + (us.map Us.s).length) ([] ++ us.map Us.s) true _ E1.out HMa1.out HMa1.out.lt (by first | omega | (simp; omega)) (by first | omega | (simp; omega)) hD60 HSG.out).mono ?_
 rintro e wb1 ⟨rfl, hg, hcnt⟩
 have OT2 := Lib.hid (OTa1.out.grown HMa1.out hg)
 have OY2 := Lib.hid (OYa1.out.grown HMa1.out hg)
 have BB2 := Lib.hid (BA1.out.grown hg BA1.out.size (fun k hk => by cases hk; exact hbw2))
 have SA2 := Lib.hid (SAa1.out.grown HMa1.out hg)
 have HM2 := Lib.hid (hcnt rfl)
 clear hg hcnt
 obtain ⟨b10, b11, b12, _, _⟩ := own3 OT2.out
 obtain ⟨b13, b14, _, _⟩ := own2 OY2.out
 refine hK.out _ _ (⟨b10, b11, b12, b13, b14⟩) ?_
 clear hK K hHeld
 intro hHeld
 try simp only [Act.put, List.setIfInBounds_toArray, List.set_cons_zero, List.set_cons_succ]
 refine tH 14 57 ?_
 refine tH 15 58 ?_
 refine tH 16 59 ?_
 refine tH 17 60 ?_
 refine tH 18 61 ?_
 refine tH 20 63 ?_
 refine tH 21 64 ?_
 refine wpH_one (i := 19) (by kernel_rfl) rfl (fun K hK => ?_)
 rw [if_pos (by rfl)]
 go_simp
 refine (aent_any _ ks _ SA2.out (by omega)).mono ?_
 rintro e wa2 ⟨v2, rfl, hsl, hb⟩
 have E2 := Lib.hid (hsl)
 have OTa2 := Lib.hid (OT2.out.below hb)
 have OYa2 := Lib.hid (OY2.out.below hb)
 have HMa2 := Lib.hid (HM2.out.below hb)
 have BA2 := Lib.hid (belowTo BB2.out hb BB2.out.size)
 clear hsl hb
 obtain ⟨p2, c2, f0, _, _, _⟩ := E2.out.form ks.length rfl
 subst f0
 obtain ⟨a20, a21, a22, _, _⟩ := own3 OTa2.out
 obtain ⟨a23, a24, _, _⟩ := own2 OYa2.out
 refine hK.out _ _ (⟨a20, a21, a22, a23, a24⟩) ?_
 clear hK K hHeld
 intro hHeld
 try simp only [Act.put, List.setIfInBounds_toArray, List.set_cons_zero, List.set_cons_succ]
 refine wpH_one (i := 22) (by kernel_rfl) rfl (fun K hK => ?_)
 rw [if_pos (by rfl)]
 go_simp
 refine (asnd_lit _ ks N D B (0 + (us.map Us.s).length + (gs.map Gr.s).length) ([] ++ us.map Us.s ++ gs.map Gr.s) true _ E2.out HMa2.out HMa2.out.lt (by first | omega | (simp; omega)) (by first | omega | (simp; omega)) hD60 HSA.out).mono ?_
 rintro e wb2 ⟨rfl, hg, hcnt⟩
 have OT3 := Lib.hid (OTa2.out.grown HMa2.out hg)
 have OY3 := Lib.hid (OYa2.out.grown HMa2.out hg)
 have BB3 := Lib.hid (BA2.out.grown hg BA2.out.size (fun k hk => by cases hk; exact hbw2))
 have HM3 := Lib.hid (hcnt rfl)
 clear hg hcnt
 obtain ⟨b20, b21, b22, _, _⟩ := own3 OT3.out
 obtain ⟨b23, b24, _, _⟩ := own2 OY3.out
 refine hK.out _ _ (⟨b20, b21, b22, b23, b24⟩) ?_
 clear hK K hHeld
 intro hHeld
 try simp only [Act.put, List.setIfInBounds_toArray, List.set_cons_zero, List.set_cons_succ]
 refine tH 23 66 ?_
 refine tH 24 67 ?_
 refine wpAnyH_done (by kernel_rfl) ?_ _
 have HQ := Lib.hid HM3.out
 have BB := Lib.hid BB3.out
 clear b20 b21 b22 b23 b24
 obtain ⟨KS, hKS⟩ : ∃ KS, us.map Us.s ++ gs.map Gr.s ++ ks.map Ak.s = KS := ⟨_, rfl⟩
 have HR := Lib.hid (show oneB us gs ks = decide KS.Nodup by rw [← hKS]; rfl)
 rw [List.nil_append, hKS] at HQ
 obtain ⟨nn, hnn⟩ : ∃ nn, 0 + (us.map Us.s).length + (gs.map Gr.s).length + (ks.map Ak.s).length = nn := ⟨_, rfl⟩
 rw [hnn] at HQ
 clear hKS hnn
 obtain ⟨DD, hown, hmap, hat⟩ := HQ.out
 have HO := Lib.hid hown
 have HA := Lib.hid hat
 clear hown hmap hat HQ
 go_wp2_with (first | (at_range; refine wpList_range_own _ rfl _ 152 rfl 3 3 lawK Tryz.underlying152 _ B nn _ rfl HO.out ?_; intro w0 hrg0 hg0 hs0; have RG := Lib.hid hrg0; have G0 := Lib.hid hg0; clear hrg0 hg0 hs0) | fail)
 go_frame
 go_loopw [7] (fun _ wr => ∃ (left : Lit → Bool) (cnt : Nat), wr.ranges Tryz.prog 3 (plainElem (H := Unit) Tryz.prog 3) B wb2.heap.size nn DD left cnt ∧ wb2.grownBy wr none ∧ LeftOk KS left) (fun _ wr => wr.rangeLeft B wb2.heap.size)
 case atStart => exact ⟨_, _, RG.out, G0.out, left_start (fun k => (HA.out k).2)⟩
 case round =>
  obtain ⟨left, cnt, hrg, hgw, hlo⟩ := hrel
  have RGr := Lib.hid hrg
  have GW := Lib.hid hgw
  have LO := Lib.hid hlo
  clear hrg hgw hlo
  go_wp2_with (first | (at_next; refine wpList_next_ranges_ii _ rfl _ rfl 3 3 .i64 .i64 lawK Tryz.underlying3 Tryz.underlying3 B wb2.heap.size nn _ _ _ rfl RGr.out ?_ ?_) | fail)
  ·intro _ hl0
   have HL := Lib.hid hl0
   clear hl0
   go_wp2_with fail
   go_ret
   exact ⟨ret_bool (by rw [HR.out, decide_eq_true (left_end LO.out HL.out)]), BB.out.grown GW.out BB.out.size (fun k hk => by cases hk)⟩
  ·intro x c w1 cnt1 hwx hwc hlx hat hrg1 hlt hg1 hs1 hen
   have hc : c = (KS.count x : Nat) := by
    have h1 := (HA.out x).1
    rw [hat] at h1
    simpa using h1
   have HC := Lib.hid hc
   have RG1 := Lib.hid hrg1
   have G1 := Lib.hid (GW.out.andThen hg1 (fun j hj => by cases hj; exact .inl (Nat.le_refl _)))
   have HLT := Lib.hid hlt
   clear hat hrg1 hg1 hc hwc hwx hlx hs1 hlt
   by_cases hc1 : (1 : Int) < c
   ·go_wp2_with fail
    go_ret
    exact ⟨ret_bool (by rw [HR.out, decide_eq_false (fun h => by have h2 := (nodup_count KS).1 h x; have h3 := HC.out; omega)]), BB.out.grown G1.out BB.out.size (fun k hk => by cases hk)⟩
   ·have hc2 : decide ((1 : Int) < c) = false := decide_eq_false hc1
    have HC1 := Lib.hid hc1
    clear hc1
    go_wp2_with fail
    go_roundw
    case rel => exact ⟨_, cnt1, RG1.out, G1.out, left_step LO.out (by have h1 := HC.out; have h2 := HC1.out; omega)⟩
    case measure => rw [RG1.out.left_eq, RGr.out.left_eq]; exact HLT.out
theorem valid_any (vu vg va : Value) (us : List Us) (gs : List Gr) (ks : List Ak) (N D : Int) (w : World) (su : SlU w vu us) (sg : SlG w vg gs) (sa : SlA w va ks) (u70 : us.length ≤ 70) (g70 : gs.length ≤ 70) (k70 : ks.length ≤ 70) : Calls Tryz.prog 43 #[.agg #[vu, vg, va], .agg #[.int .i64 N, .int .i64 D]] w fun e w' => e = .returned (.bool (vldT N D us gs ks)) ∧ Below w.heap.size w w' := by
 cases N0 : decide (N < 1) with
 | true =>
  have e : vldT N D us gs ks = false := by
   have h := of_decide_eq_true N0
   have : layB N D = false := by rw [← Bool.not_eq_true, layB_iff]; omega
   rw [vldT, this]; rfl
  rw [e]; exact vld_t0 vu vg va us gs ks N D w su sg sa u70 g70 k70 N0
 | false =>
  cases N1 : decide (60 < N) with
  | true =>
   have e : vldT N D us gs ks = false := by
    have h := of_decide_eq_true N1
    have : layB N D = false := by rw [← Bool.not_eq_true, layB_iff]; omega
    rw [vldT, this]; rfl
   rw [e]; exact vld_t1 vu vg va us gs ks N D w su sg sa u70 g70 k70 N0 N1
  | false =>
   cases D0 : decide (D < 1) with
   | true =>
    have e : vldT N D us gs ks = false := by
     have h := of_decide_eq_true D0
     have : layB N D = false := by rw [← Bool.not_eq_true, layB_iff]; omega
     rw [vldT, this]; rfl
    rw [e]; exact vld_t2 vu vg va us gs ks N D w su sg sa u70 g70 k70 N0 N1 D0
   | false =>
    cases D1 : decide (60 < D) with
    | true =>
     have e : vldT N D us gs ks = false := by
      have h := of_decide_eq_true D1
      have : layB N D = false := by rw [← Bool.not_eq_true, layB_iff]; omega
      rw [vldT, this]; rfl
     rw [e]; exact vld_t3 vu vg va us gs ks N D w su sg sa u70 g70 k70 N0 N1 D0 D1
    | false =>
     cases L0 : decide (24 < (us.length : Int) + (gs.length : Int)) with
     | true =>
      have e : vldT N D us gs ks = false := by
       have h := of_decide_eq_true L0
       have : lenB us gs ks = false := by rw [← Bool.not_eq_true]; simp only [lenB, Bool.and_eq_true, decide_eq_true_eq]; omega
       rw [vldT, this]; simp
      rw [e]; exact vld_t4 vu vg va us gs ks N D w su sg sa u70 g70 k70 N0 N1 D0 D1 L0
     | false =>
      cases L1 : decide (24 < (ks.length : Int)) with
      | true =>
       have e : vldT N D us gs ks = false := by
        have h := of_decide_eq_true L1
        have : lenB us gs ks = false := by rw [← Bool.not_eq_true]; simp only [lenB, Bool.and_eq_true, decide_eq_true_eq]; omega
        rw [vldT, this]; simp
       rw [e]; exact vld_t5 vu vg va us gs ks N D w su sg sa u70 g70 k70 N0 N1 D0 D1 L0 L1
      | false =>
       have eL : layB N D = true := by
        rw [layB_iff]
        have h0 := of_decide_eq_false N0
        have h1 := of_decide_eq_false N1
        have h2 := of_decide_eq_false D0
        have h3 := of_decide_eq_false D1
        omega
       have eN : lenB us gs ks = true := by
        simp only [lenB, Bool.and_eq_true, decide_eq_true_eq]
        have h4 := of_decide_eq_false L0
        have h5 := of_decide_eq_false L1
        omega
       cases hs : sndU N D us with
       | false =>
        rw [vldT, eL, eN, hs]; exact vld_u vu vg va us gs ks N D w su sg sa u70 g70 k70 N0 N1 D0 D1 L0 L1 hs
       | true =>
        cases hg : sndG N D gs with
        | false =>
         rw [vldT, eL, eN, hs, hg]; exact vld_g vu vg va us gs ks N D w su sg sa u70 g70 k70 N0 N1 D0 D1 L0 L1 hs hg
        | true =>
         cases ha : sndA N D ks with
         | false =>
          rw [vldT, eL, eN, hs, hg, ha]; exact vld_a vu vg va us gs ks N D w su sg sa u70 g70 k70 N0 N1 D0 D1 L0 L1 hs hg ha
         | true =>
          rw [vldT, eL, eN, hs, hg, ha]; exact vld_ok vu vg va us gs ks N D w su sg sa u70 g70 k70 N0 N1 D0 D1 L0 L1 hs hg ha
theorem valid_lit (vu vg va : Value) (us : List Us) (gs : List Gr) (ks : List Ak) (N D : Int) (w : World) (su : SlU w vu us) (sg : SlG w vg gs) (sa : SlA w va ks) (u70 : us.length ≤ 70) (g70 : gs.length ≤ 70) (k70 : ks.length ≤ 70) (x : Bool) (h : vldT N D us gs ks = x) : Calls Tryz.prog 43 #[.agg #[vu, vg, va], .agg #[.int .i64 N, .int .i64 D]] w fun e w' => e = .returned (.bool x) ∧ Below w.heap.size w w' := by
 rw [← h]; exact valid_any vu vg va us gs ks N D w su sg sa u70 g70 k70
end Go.Proofs.YtmopiifamopidaaGreat
end

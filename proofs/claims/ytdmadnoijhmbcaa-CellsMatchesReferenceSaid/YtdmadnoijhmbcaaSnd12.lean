/- sound: whether entries are valid and in order; it counts their slots in a map. -/
import Derived.Test.YtdmadnoijhmbcaaKit12
namespace Go.Proofs.Ytdmadnoijhmbcaa
open Go.RowKit Go.Maps

/-- What sound answers, and the map behind it. -/
def SndP (w : World) (B n : Nat) (ks more : List Int) (x : Bool) (e : Ending) (w' : World) : Prop := e = .returned (.bool x) ∧ w.grownBy w' (some B) ∧ (x = true → CntM w' B (n + more.length) (ks ++ more))
theorem CntM.step {w' : World} {b n : Nat} {ks : List Int} {D : DataW Unit} {k : Int} {c : Int} (hm : Maps.IsMap D) (hD : ∀ k : Int, D.atKey (.int .i64 k) (.lit (.int .i64 0)) = .lit (.int .i64 (ks.count k)) ∧ (Maps.has D (.int .i64 k) = true ↔ k ∈ ks))
    (hat : D.atKey (.int .i64 k) (.lit (.int .i64 0)) = .lit (.int .i64 c)) (ho : w'.ownsMap Try.prog 3 (plainElem (H := Unit) Try.prog 3) b (n + 1) (D.put (.int .i64 k) (.lit (.int .i64 (c + 1))))) : CntM w' b (n + 1) (ks ++ [k]) := by
  have hc : c = ks.count k := by
    have := (hD k).1
    rw [hat] at this
    simpa using this
  refine ⟨_, ho, hm.put _ _, fun j => ?_⟩
  by_cases e : j = k
  · subst e
    have hk : Maps.has (D.put (.int .i64 j) (.lit (.int .i64 (c + 1)))) (.int .i64 j) = true := Maps.has_put_same hm (show WideAt.IsKeyLit (.int .i64 j) from trivial) _
    refine ⟨?_, by simp [hk]⟩
    rw [Maps.atKey_put_same hm (show WideAt.IsKeyLit (.int .i64 j) from trivial), hc]
    simp
  · have hne : (Lit.int .i64 j) ≠ .int .i64 k := fun h => e (by injection h)
    rw [Maps.atKey_put_other hne, Maps.has_put_other hne, (hD j).1, (hD j).2]
    refine ⟨?_, by simp [e]⟩
    rw [List.count_append, List.count_eq_zero.2 (show j ∉ [k] by simpa using e)]
    simp
theorem cntM_le {ks : List Int} (k : Int) {c : Int} {D : DataW Unit} (hD : D.atKey (.int .i64 k) (.lit (.int .i64 0)) = .lit (.int .i64 (ks.count k))) (hat : D.atKey (.int .i64 k) (.lit (.int .i64 0)) = .lit (.int .i64 c)) : 0 ≤ c ∧ c ≤ ks.length := by
  rw [hat] at hD
  obtain rfl : c = ks.count k := by simpa using hD
  have := List.count_le_length (a := k) (l := ks)
  omega

theorem u_slot {N D : Int} {d : Us} (h : usB N D d = true) : 0 ≤ d.s ∧ d.s < D := by
  have h' : plcB d.s d.o d.p N D = true := by
    revert h
    unfold usB
    cases plcB d.s d.o d.p N D <;> simp
  exact (plcB_iff.1 h').1
theorem g_slot {N D : Int} {d : Gr} (h : grB N D d = true) : 0 ≤ d.s ∧ d.s < D := by
  have h' : plcB d.s d.o d.p N D = true := by
    revert h
    unfold grB
    cases plcB d.s d.o d.p N D <;> simp
  exact (plcB_iff.1 h').1
theorem a_slot {N D : Int} {d : Ak} (h : akB N D d = true) : 0 ≤ d.s ∧ d.s < D := by
  have h' : plcB d.s d.o d.p N D = true := by
    revert h
    unfold akB
    cases plcB d.s d.o d.p N D <;> simp
  exact (plcB_iff.1 h').1
set_option linter.unusedSimpArgs false in
set_option linter.unusedVariables false in
set_option maxRecDepth 100000 in
set_option maxHeartbeats 2000000 in
theorem usnd_any (v : Value) (l : List Us) (N D : Int) (B n : Nat) (ks : List Int) (w : World) (sl : SlU w v l) (hm : CntM w B n ks) (hB : B < w.heap.size) (hn : n + l.length ≤ 1000) (hk : ks.length + l.length ≤ 1000) (hD : D ≤ 60) :
    Calls Try.prog 40 #[v, .agg #[.int .i64 N, .int .i64 D], .map (some B)] w fun e w' => SndP w B n ks (l.map Us.s) (sndU N D l) e w' := by
  obtain ⟨p, cap, e0, hlc, hcm, hpn⟩ := sl.form l.length rfl
  subst e0
  have SL := Lib.hid sl
  unfold maxLen at hcm
  clear hpn sl
  have HM := Lib.hid hm
  have hfc := field_cell
  have hlm : (l.map Us.s).length = l.length := List.length_map _
  clear hm
  go_enter Try.func40, Try.ntmps40
  go_wp2_with fail
  have OL := Lib.hid (own_at (w := w) [.int .i64 N, .int .i64 D] 28 rfl)
  have G0 := Lib.hid (show w.grownBy (w.alloc (.cells #[.int .i64 N, .int .i64 D] 28)) (some B) from grown_of_below (belowNew _ _))
  have SL1 := Lib.hid (SL.out.below (belowNew w (.cells #[.int .i64 N, .int .i64 D] 28)))
  have HM1 := Lib.hid (HM.out.below (belowNew w (.cells #[.int .i64 N, .int .i64 D] 28)))
  have hs1 : B < (w.alloc (.cells #[.int .i64 N, .int .i64 D] 28)).heap.size := HM1.out.lt
  generalize w.alloc (.cells #[.int .i64 N, .int .i64 D] 28) = w1 at OL G0 SL1 HM1 hs1 ⊢
  obtain ⟨L, hL⟩ : ∃ L, w.heap.size = L := ⟨_, rfl⟩
  rw [hL] at OL ⊢
  clear hL
  go_loopw [7, 12] (fun la ii wr => ∃ (i : Nat) (last : Int), i ≤ l.length ∧ ii = .int .i64 i ∧ la = .int .i64 last ∧ sndU N D l = sndF (usB N D) Us.s last (l.drop i) ∧ CntM wr B (n + i) (ks ++ (l.take i).map Us.s) ∧ w1.grownBy wr (some B)) (fun _ i _ => l.length - (intOf i).toNat)
  case atStart => exact ⟨0, -1, by omega, rfl, rfl, rfl, by simpa using HM1.out, grown_of_below (Below.refl _ _)⟩
  case round =>
    obtain ⟨i, last, hi, rfl, rfl, hT, hcm, hg⟩ := hrel
    have HT := Lib.hid hT
    have HC := Lib.hid hcm
    have G := Lib.hid hg
    have hbs : B < wr.heap.size := hcm.lt
    clear hT hcm hg
    have j0 : (0 : Int) ≤ (i : Int) := Int.natCast_nonneg _
    by_cases hlt : i < l.length
    · have SLr := Lib.hid (SL1.out.grown HM1.out G.out)
      have OLr := Lib.hid (OL.out.grown HM1.out G.out)
      obtain ⟨d, b, off, hd, rfl, hbl, _, d0, d1, d2, d3⟩ := SLr.out.atU (Below.refl _ _) hlt
      have j1 : (i : Int) < (l.length : Int) := by omega
      have HS := Lib.hid (sndF_step (ok := usB N D) (sl := Us.s) (last := last) hd)
      have HD := Lib.hid (take_snocG hd)
      clear hd SLr
      obtain ⟨cL0, cL1, fL, zL⟩ := own2 OLr.out
      cases hv : usB N D d with
      | false =>
        have HV := Lib.hid hv
        clear hv
        go_wp2_with fail
        refine (uval_lit d N D false _ HV.out).mono ?_
        rintro e w2 ⟨rfl, hb⟩
        have OX := Lib.hid ((own_at (w := wr) [.int .i64 d.s, .int .i64 d.o, .int .i64 d.p, .int .i64 d.m] 66 rfl).below hb)
        have B2 := Lib.hid (belowTo (belowNew wr (.cells [.int .i64 d.s, .int .i64 d.o, .int .i64 d.p, .int .i64 d.m].toArray 66)) hb (by simp))
        clear hb cL0 cL1 fL zL d0 d1 d2 d3
        go_wp2_with fail
        go_ret
        exact ⟨ret_bool (by rw [HT.out, HS.out, HV.out]; rfl), (G0.out.andThen G.out (fun j hj => .inr hj)).andThen (grown_of_below (row := none) B2.out) (fun j hj => by cases hj), fun h => by rw [HT.out, HS.out, HV.out] at h; cases h⟩
      | true =>
        have HV := Lib.hid hv
        clear hv
        go_wp2_with fail
        refine (uval_lit d N D true _ HV.out).mono ?_
        rintro e w2 ⟨rfl, hb⟩
        have OX := Lib.hid ((own_at (w := wr) [.int .i64 d.s, .int .i64 d.o, .int .i64 d.p, .int .i64 d.m] 66 rfl).below hb)
        have B2 := Lib.hid (belowTo (belowNew wr (.cells [.int .i64 d.s, .int .i64 d.o, .int .i64 d.p, .int .i64 d.m].toArray 66)) hb (by simp))
        clear hb cL0 cL1 fL zL d0 d1 d2 d3
        obtain ⟨cX0, cX1, cX2, cX3, fX, zX⟩ := own4 OX.out
        by_cases hla : last < d.s
        · have hla2 : decide (d.s ≤ last) = false := decide_eq_false (by omega)
          have hla3 := Lib.hid hla
          clear hla
          go_wp2_with fail
          refine (ucell_any d.s d.o d.p d.m _).mono ?_
          rintro e w3 ⟨rfl, hb⟩
          have O3 := Lib.hid (OX.out.below hb)
          have B3 := Lib.hid (belowTo B2.out hb B2.out.size)
          clear hb cX0 cX1 cX2 cX3 fX zX OX
          have OX := O3
          clear O3
          obtain ⟨cX0, cX1, cX2, cX3, fX, zX⟩ := own4 OX.out
          go_wp2_with fail
          refine (ucell_any d.s d.o d.p d.m _).mono ?_
          rintro e w4 ⟨rfl, hb⟩
          have O4 := Lib.hid (OX.out.below hb)
          have B4 := Lib.hid (belowTo B3.out hb B3.out.size)
          clear hb cX0 cX1 cX2 cX3 fX zX OX
          have OX := O4
          clear O4
          obtain ⟨cX0, cX1, cX2, cX3, fX, zX⟩ := own4 OX.out
          have HC4 := Lib.hid (HC.out.below B4.out)
          obtain ⟨DD, hown, hmap, hat0⟩ := HC4.out
          have HO := Lib.hid hown
          have HA := Lib.hid (And.intro hmap hat0)
          have HW := Lib.hid (show (Lit.int .i64 d.s).wf = true from WalkArith.wf_i64 (by have := u_slot HV.out; omega))
          clear hown hmap hat0 cX0 cX1 cX2 cX3 fX zX OX
          go_wp2_with (first | (at_lookup; refine wpList_lookup_own_int _ rfl _ _ 78 rfl 3 3 .i64 lawK Try.underlying78 Try.underlying3 (zeroK _) B (n + i) _ rfl HO.out _ _ rfl (keyOf_int_mk Try.underlying3 HW.out) ?_; intro c hat hwc; have HAT := Lib.hid hat; have hcb := cntM_le d.s (HA.out.2 d.s).1 hat; have HC0 : 0 ≤ c := hcb.1; have HC1 : c ≤ 2000 := (by have h1 := hcb.2; simp at h1; omega); clear hcb hat hwc) | (at_mapUpdate; refine wpList_mapUpdate_own _ rfl _ _ _ 78 rfl 3 3 lawK Try.underlying78 _ B (n + i) _ rfl HO.out (by unfold maxLen; omega) _ _ _ rfl rfl (keyOf_int_mk Try.underlying3 HW.out) _ [] (plainElem_int Try.underlying3 (WalkArith.wf_i64 (by omega))) ?_; intro w5 hown1 hgrow1; have HN := Lib.hid (CntM.step HA.out.1 HA.out.2 HAT.out hown1); have G5 := Lib.hid hgrow1; clear hown1 hgrow1) | fail)
          go_roundw
          case rel => exact ⟨i + 1, d.s, by omega, by go_num, rfl, by rw [HT.out, HS.out, HV.out, decide_eq_true (show last < d.s by have := hla3.out; omega)]; simp, by have := HN.out; rw [HD.out, List.map_append, ← List.append_assoc]; exact this, (G.out.andThen (grown_of_below (row := none) B4.out) (fun j hj => by cases hj)).andThen G5.out (fun j hj => .inr hj)⟩
          case measure => simp [intOf]; omega
        · have hla2 : decide (d.s ≤ last) = true := decide_eq_true (by omega)
          have hla3 := Lib.hid hla
          clear hla
          go_wp2_with fail
          refine (ucell_any d.s d.o d.p d.m _).mono ?_
          rintro e w3 ⟨rfl, hb⟩
          have O3 := Lib.hid (OX.out.below hb)
          have B3 := Lib.hid (belowTo B2.out hb B2.out.size)
          clear hb cX0 cX1 cX2 cX3 fX zX OX
          have OX := O3
          clear O3
          obtain ⟨cX0, cX1, cX2, cX3, fX, zX⟩ := own4 OX.out
          go_wp2_with fail
          go_ret
          exact ⟨ret_bool (by rw [HT.out, HS.out, HV.out, decide_eq_false (show ¬ last < d.s by have := hla3.out; omega)]; rfl), (G0.out.andThen G.out (fun j hj => .inr hj)).andThen (grown_of_below (row := none) B3.out) (fun j hj => by cases hj), fun h => by rw [HT.out, HS.out, HV.out, decide_eq_false (show ¬ last < d.s by have := hla3.out; omega)] at h; cases h⟩
    · have HE := Lib.hid (sndF_end (ok := usB N D) (sl := Us.s) (rs := l) (k := i) (last := last) (by omega))
      obtain rfl : i = l.length := by omega
      go_wp2_with fail
      go_ret
      exact ⟨ret_bool (by rw [HT.out, HE.out]), G0.out.andThen G.out (fun j hj => .inr hj), fun _ => by have := HC.out; rw [List.take_length] at this; rw [List.length_map]; exact this⟩

set_option linter.unusedSimpArgs false in
set_option linter.unusedVariables false in
set_option maxRecDepth 100000 in
set_option maxHeartbeats 2000000 in
theorem gsnd_any (v : Value) (l : List Gr) (N D : Int) (B n : Nat) (ks : List Int) (w : World) (sl : SlG w v l) (hm : CntM w B n ks) (hB : B < w.heap.size) (hn : n + l.length ≤ 1000) (hk : ks.length + l.length ≤ 1000) (hD : D ≤ 60) :
    Calls Try.prog 42 #[v, .agg #[.int .i64 N, .int .i64 D], .map (some B)] w fun e w' => SndP w B n ks (l.map Gr.s) (sndG N D l) e w' := by
  obtain ⟨p, cap, e0, hlc, hcm, hpn⟩ := sl.form l.length rfl
  subst e0
  have SL := Lib.hid sl
  unfold maxLen at hcm
  clear hpn sl
  have HM := Lib.hid hm
  have hfc := field_cell
  have hlm : (l.map Gr.s).length = l.length := List.length_map _
  clear hm
  go_enter Try.func42, Try.ntmps42
  go_wp2_with fail
  have OL := Lib.hid (own_at (w := w) [.int .i64 N, .int .i64 D] 28 rfl)
  have G0 := Lib.hid (show w.grownBy (w.alloc (.cells #[.int .i64 N, .int .i64 D] 28)) (some B) from grown_of_below (belowNew _ _))
  have SL1 := Lib.hid (SL.out.below (belowNew w (.cells #[.int .i64 N, .int .i64 D] 28)))
  have HM1 := Lib.hid (HM.out.below (belowNew w (.cells #[.int .i64 N, .int .i64 D] 28)))
  have hs1 : B < (w.alloc (.cells #[.int .i64 N, .int .i64 D] 28)).heap.size := HM1.out.lt
  generalize w.alloc (.cells #[.int .i64 N, .int .i64 D] 28) = w1 at OL G0 SL1 HM1 hs1 ⊢
  obtain ⟨L, hL⟩ : ∃ L, w.heap.size = L := ⟨_, rfl⟩
  rw [hL] at OL ⊢
  clear hL
  go_loopw [7, 12] (fun la ii wr => ∃ (i : Nat) (last : Int), i ≤ l.length ∧ ii = .int .i64 i ∧ la = .int .i64 last ∧ sndG N D l = sndF (grB N D) Gr.s last (l.drop i) ∧ CntM wr B (n + i) (ks ++ (l.take i).map Gr.s) ∧ w1.grownBy wr (some B)) (fun _ i _ => l.length - (intOf i).toNat)
  case atStart => exact ⟨0, -1, by omega, rfl, rfl, rfl, by simpa using HM1.out, grown_of_below (Below.refl _ _)⟩
  case round =>
    obtain ⟨i, last, hi, rfl, rfl, hT, hcm, hg⟩ := hrel
    have HT := Lib.hid hT
    have HC := Lib.hid hcm
    have G := Lib.hid hg
    have hbs : B < wr.heap.size := hcm.lt
    clear hT hcm hg
    have j0 : (0 : Int) ≤ (i : Int) := Int.natCast_nonneg _
    by_cases hlt : i < l.length
    · have SLr := Lib.hid (SL1.out.grown HM1.out G.out)
      have OLr := Lib.hid (OL.out.grown HM1.out G.out)
      obtain ⟨d, b, off, hd, rfl, hbl, _, d0, d1, d2, d3, d4⟩ := SLr.out.atG (Below.refl _ _) hlt
      have j1 : (i : Int) < (l.length : Int) := by omega
      have HS := Lib.hid (sndF_step (ok := grB N D) (sl := Gr.s) (last := last) hd)
      have HD := Lib.hid (take_snocG hd)
      clear hd SLr
      obtain ⟨cL0, cL1, fL, zL⟩ := own2 OLr.out
      cases hv : grB N D d with
      | false =>
        have HV := Lib.hid hv
        clear hv
        go_wp2_with fail
        refine (gval_lit d N D false _ HV.out).mono ?_
        rintro e w2 ⟨rfl, hb⟩
        have OX := Lib.hid ((own_at (w := wr) [.int .i64 d.s, .int .i64 d.o, .int .i64 d.p, .int .i64 d.m, .int .i64 d.u] 73 rfl).below hb)
        have B2 := Lib.hid (belowTo (belowNew wr (.cells [.int .i64 d.s, .int .i64 d.o, .int .i64 d.p, .int .i64 d.m, .int .i64 d.u].toArray 73)) hb (by simp))
        clear hb cL0 cL1 fL zL d0 d1 d2 d3 d4
        go_wp2_with fail
        go_ret
        exact ⟨ret_bool (by rw [HT.out, HS.out, HV.out]; rfl), (G0.out.andThen G.out (fun j hj => .inr hj)).andThen (grown_of_below (row := none) B2.out) (fun j hj => by cases hj), fun h => by rw [HT.out, HS.out, HV.out] at h; cases h⟩
      | true =>
        have HV := Lib.hid hv
        clear hv
        go_wp2_with fail
        refine (gval_lit d N D true _ HV.out).mono ?_
        rintro e w2 ⟨rfl, hb⟩
        have OX := Lib.hid ((own_at (w := wr) [.int .i64 d.s, .int .i64 d.o, .int .i64 d.p, .int .i64 d.m, .int .i64 d.u] 73 rfl).below hb)
        have B2 := Lib.hid (belowTo (belowNew wr (.cells [.int .i64 d.s, .int .i64 d.o, .int .i64 d.p, .int .i64 d.m, .int .i64 d.u].toArray 73)) hb (by simp))
        clear hb cL0 cL1 fL zL d0 d1 d2 d3 d4
        obtain ⟨cX0, cX1, cX2, cX3, cX4, fX, zX⟩ := own5 OX.out
        by_cases hla : last < d.s
        · have hla2 : decide (d.s ≤ last) = false := decide_eq_false (by omega)
          have hla3 := Lib.hid hla
          clear hla
          go_wp2_with fail
          refine (gcell_any d.s d.o d.p d.m d.u _).mono ?_
          rintro e w3 ⟨rfl, hb⟩
          have O3 := Lib.hid (OX.out.below hb)
          have B3 := Lib.hid (belowTo B2.out hb B2.out.size)
          clear hb cX0 cX1 cX2 cX3 cX4 fX zX OX
          have OX := O3
          clear O3
          obtain ⟨cX0, cX1, cX2, cX3, cX4, fX, zX⟩ := own5 OX.out
          go_wp2_with fail
          refine (gcell_any d.s d.o d.p d.m d.u _).mono ?_
          rintro e w4 ⟨rfl, hb⟩
          have O4 := Lib.hid (OX.out.below hb)
          have B4 := Lib.hid (belowTo B3.out hb B3.out.size)
          clear hb cX0 cX1 cX2 cX3 cX4 fX zX OX
          have OX := O4
          clear O4
          obtain ⟨cX0, cX1, cX2, cX3, cX4, fX, zX⟩ := own5 OX.out
          have HC4 := Lib.hid (HC.out.below B4.out)
          obtain ⟨DD, hown, hmap, hat0⟩ := HC4.out
          have HO := Lib.hid hown
          have HA := Lib.hid (And.intro hmap hat0)
          have HW := Lib.hid (show (Lit.int .i64 d.s).wf = true from WalkArith.wf_i64 (by have := g_slot HV.out; omega))
          clear hown hmap hat0 cX0 cX1 cX2 cX3 cX4 fX zX OX
          go_wp2_with (first | (at_lookup; refine wpList_lookup_own_int _ rfl _ _ 78 rfl 3 3 .i64 lawK Try.underlying78 Try.underlying3 (zeroK _) B (n + i) _ rfl HO.out _ _ rfl (keyOf_int_mk Try.underlying3 HW.out) ?_; intro c hat hwc; have HAT := Lib.hid hat; have hcb := cntM_le d.s (HA.out.2 d.s).1 hat; have HC0 : 0 ≤ c := hcb.1; have HC1 : c ≤ 2000 := (by have h1 := hcb.2; simp at h1; omega); clear hcb hat hwc) | (at_mapUpdate; refine wpList_mapUpdate_own _ rfl _ _ _ 78 rfl 3 3 lawK Try.underlying78 _ B (n + i) _ rfl HO.out (by unfold maxLen; omega) _ _ _ rfl rfl (keyOf_int_mk Try.underlying3 HW.out) _ [] (plainElem_int Try.underlying3 (WalkArith.wf_i64 (by omega))) ?_; intro w5 hown1 hgrow1; have HN := Lib.hid (CntM.step HA.out.1 HA.out.2 HAT.out hown1); have G5 := Lib.hid hgrow1; clear hown1 hgrow1) | fail)
          go_roundw
          case rel => exact ⟨i + 1, d.s, by omega, by go_num, rfl, by rw [HT.out, HS.out, HV.out, decide_eq_true (show last < d.s by have := hla3.out; omega)]; simp, by have := HN.out; rw [HD.out, List.map_append, ← List.append_assoc]; exact this, (G.out.andThen (grown_of_below (row := none) B4.out) (fun j hj => by cases hj)).andThen G5.out (fun j hj => .inr hj)⟩
          case measure => simp [intOf]; omega
        · have hla2 : decide (d.s ≤ last) = true := decide_eq_true (by omega)
          have hla3 := Lib.hid hla
          clear hla
          go_wp2_with fail
          refine (gcell_any d.s d.o d.p d.m d.u _).mono ?_
          rintro e w3 ⟨rfl, hb⟩
          have O3 := Lib.hid (OX.out.below hb)
          have B3 := Lib.hid (belowTo B2.out hb B2.out.size)
          clear hb cX0 cX1 cX2 cX3 cX4 fX zX OX
          have OX := O3
          clear O3
          obtain ⟨cX0, cX1, cX2, cX3, cX4, fX, zX⟩ := own5 OX.out
          go_wp2_with fail
          go_ret
          exact ⟨ret_bool (by rw [HT.out, HS.out, HV.out, decide_eq_false (show ¬ last < d.s by have := hla3.out; omega)]; rfl), (G0.out.andThen G.out (fun j hj => .inr hj)).andThen (grown_of_below (row := none) B3.out) (fun j hj => by cases hj), fun h => by rw [HT.out, HS.out, HV.out, decide_eq_false (show ¬ last < d.s by have := hla3.out; omega)] at h; cases h⟩
    · have HE := Lib.hid (sndF_end (ok := grB N D) (sl := Gr.s) (rs := l) (k := i) (last := last) (by omega))
      obtain rfl : i = l.length := by omega
      go_wp2_with fail
      go_ret
      exact ⟨ret_bool (by rw [HT.out, HE.out]), G0.out.andThen G.out (fun j hj => .inr hj), fun _ => by have := HC.out; rw [List.take_length] at this; rw [List.length_map]; exact this⟩

set_option linter.unusedSimpArgs false in
set_option linter.unusedVariables false in
set_option maxRecDepth 100000 in
set_option maxHeartbeats 2000000 in
theorem asnd_any (v : Value) (l : List Ak) (N D : Int) (B n : Nat) (ks : List Int) (w : World) (sl : SlA w v l) (hm : CntM w B n ks) (hB : B < w.heap.size) (hn : n + l.length ≤ 1000) (hk : ks.length + l.length ≤ 1000) (hD : D ≤ 60) :
    Calls Try.prog 44 #[v, .agg #[.int .i64 N, .int .i64 D], .map (some B)] w fun e w' => SndP w B n ks (l.map Ak.s) (sndA N D l) e w' := by
  obtain ⟨p, cap, e0, hlc, hcm, hpn⟩ := sl.form l.length rfl
  subst e0
  have SL := Lib.hid sl
  unfold maxLen at hcm
  clear hpn sl
  have HM := Lib.hid hm
  have hfc := field_cell
  have hlm : (l.map Ak.s).length = l.length := List.length_map _
  clear hm
  go_enter Try.func44, Try.ntmps44
  go_wp2_with fail
  have OL := Lib.hid (own_at (w := w) [.int .i64 N, .int .i64 D] 28 rfl)
  have G0 := Lib.hid (show w.grownBy (w.alloc (.cells #[.int .i64 N, .int .i64 D] 28)) (some B) from grown_of_below (belowNew _ _))
  have SL1 := Lib.hid (SL.out.below (belowNew w (.cells #[.int .i64 N, .int .i64 D] 28)))
  have HM1 := Lib.hid (HM.out.below (belowNew w (.cells #[.int .i64 N, .int .i64 D] 28)))
  have hs1 : B < (w.alloc (.cells #[.int .i64 N, .int .i64 D] 28)).heap.size := HM1.out.lt
  generalize w.alloc (.cells #[.int .i64 N, .int .i64 D] 28) = w1 at OL G0 SL1 HM1 hs1 ⊢
  obtain ⟨L, hL⟩ : ∃ L, w.heap.size = L := ⟨_, rfl⟩
  rw [hL] at OL ⊢
  clear hL
  go_loopw [7, 12] (fun la ii wr => ∃ (i : Nat) (last : Int), i ≤ l.length ∧ ii = .int .i64 i ∧ la = .int .i64 last ∧ sndA N D l = sndF (akB N D) Ak.s last (l.drop i) ∧ CntM wr B (n + i) (ks ++ (l.take i).map Ak.s) ∧ w1.grownBy wr (some B)) (fun _ i _ => l.length - (intOf i).toNat)
  case atStart => exact ⟨0, -1, by omega, rfl, rfl, rfl, by simpa using HM1.out, grown_of_below (Below.refl _ _)⟩
  case round =>
    obtain ⟨i, last, hi, rfl, rfl, hT, hcm, hg⟩ := hrel
    have HT := Lib.hid hT
    have HC := Lib.hid hcm
    have G := Lib.hid hg
    have hbs : B < wr.heap.size := hcm.lt
    clear hT hcm hg
    have j0 : (0 : Int) ≤ (i : Int) := Int.natCast_nonneg _
    by_cases hlt : i < l.length
    · have SLr := Lib.hid (SL1.out.grown HM1.out G.out)
      have OLr := Lib.hid (OL.out.grown HM1.out G.out)
      obtain ⟨d, b, off, hd, rfl, hbl, _, d0, d1, d2⟩ := SLr.out.atA (Below.refl _ _) hlt
      have j1 : (i : Int) < (l.length : Int) := by omega
      have HS := Lib.hid (sndF_step (ok := akB N D) (sl := Ak.s) (last := last) hd)
      have HD := Lib.hid (take_snocG hd)
      clear hd SLr
      obtain ⟨cL0, cL1, fL, zL⟩ := own2 OLr.out
      cases hv : akB N D d with
      | false =>
        have HV := Lib.hid hv
        clear hv
        go_wp2_with fail
        refine (aval_lit d N D false _ HV.out).mono ?_
        rintro e w2 ⟨rfl, hb⟩
        have OX := Lib.hid ((own_at (w := wr) [.int .i64 d.s, .int .i64 d.o, .int .i64 d.p] 86 rfl).below hb)
        have B2 := Lib.hid (belowTo (belowNew wr (.cells [.int .i64 d.s, .int .i64 d.o, .int .i64 d.p].toArray 86)) hb (by simp))
        clear hb cL0 cL1 fL zL d0 d1 d2
        go_wp2_with fail
        go_ret
        exact ⟨ret_bool (by rw [HT.out, HS.out, HV.out]; rfl), (G0.out.andThen G.out (fun j hj => .inr hj)).andThen (grown_of_below (row := none) B2.out) (fun j hj => by cases hj), fun h => by rw [HT.out, HS.out, HV.out] at h; cases h⟩
      | true =>
        have HV := Lib.hid hv
        clear hv
        go_wp2_with fail
        refine (aval_lit d N D true _ HV.out).mono ?_
        rintro e w2 ⟨rfl, hb⟩
        have OX := Lib.hid ((own_at (w := wr) [.int .i64 d.s, .int .i64 d.o, .int .i64 d.p] 86 rfl).below hb)
        have B2 := Lib.hid (belowTo (belowNew wr (.cells [.int .i64 d.s, .int .i64 d.o, .int .i64 d.p].toArray 86)) hb (by simp))
        clear hb cL0 cL1 fL zL d0 d1 d2
        obtain ⟨cX0, cX1, cX2, fX, zX⟩ := own3 OX.out
        by_cases hla : last < d.s
        · have hla2 : decide (d.s ≤ last) = false := decide_eq_false (by omega)
          have hla3 := Lib.hid hla
          clear hla
          go_wp2_with fail
          refine (acell_any d.s d.o d.p _).mono ?_
          rintro e w3 ⟨rfl, hb⟩
          have O3 := Lib.hid (OX.out.below hb)
          have B3 := Lib.hid (belowTo B2.out hb B2.out.size)
          clear hb cX0 cX1 cX2 fX zX OX
          have OX := O3
          clear O3
          obtain ⟨cX0, cX1, cX2, fX, zX⟩ := own3 OX.out
          go_wp2_with fail
          refine (acell_any d.s d.o d.p _).mono ?_
          rintro e w4 ⟨rfl, hb⟩
          have O4 := Lib.hid (OX.out.below hb)
          have B4 := Lib.hid (belowTo B3.out hb B3.out.size)
          clear hb cX0 cX1 cX2 fX zX OX
          have OX := O4
          clear O4
          obtain ⟨cX0, cX1, cX2, fX, zX⟩ := own3 OX.out
          have HC4 := Lib.hid (HC.out.below B4.out)
          obtain ⟨DD, hown, hmap, hat0⟩ := HC4.out
          have HO := Lib.hid hown
          have HA := Lib.hid (And.intro hmap hat0)
          have HW := Lib.hid (show (Lit.int .i64 d.s).wf = true from WalkArith.wf_i64 (by have := a_slot HV.out; omega))
          clear hown hmap hat0 cX0 cX1 cX2 fX zX OX
          go_wp2_with (first | (at_lookup; refine wpList_lookup_own_int _ rfl _ _ 78 rfl 3 3 .i64 lawK Try.underlying78 Try.underlying3 (zeroK _) B (n + i) _ rfl HO.out _ _ rfl (keyOf_int_mk Try.underlying3 HW.out) ?_; intro c hat hwc; have HAT := Lib.hid hat; have hcb := cntM_le d.s (HA.out.2 d.s).1 hat; have HC0 : 0 ≤ c := hcb.1; have HC1 : c ≤ 2000 := (by have h1 := hcb.2; simp at h1; omega); clear hcb hat hwc) | (at_mapUpdate; refine wpList_mapUpdate_own _ rfl _ _ _ 78 rfl 3 3 lawK Try.underlying78 _ B (n + i) _ rfl HO.out (by unfold maxLen; omega) _ _ _ rfl rfl (keyOf_int_mk Try.underlying3 HW.out) _ [] (plainElem_int Try.underlying3 (WalkArith.wf_i64 (by omega))) ?_; intro w5 hown1 hgrow1; have HN := Lib.hid (CntM.step HA.out.1 HA.out.2 HAT.out hown1); have G5 := Lib.hid hgrow1; clear hown1 hgrow1) | fail)
          go_roundw
          case rel => exact ⟨i + 1, d.s, by omega, by go_num, rfl, by rw [HT.out, HS.out, HV.out, decide_eq_true (show last < d.s by have := hla3.out; omega)]; simp, by have := HN.out; rw [HD.out, List.map_append, ← List.append_assoc]; exact this, (G.out.andThen (grown_of_below (row := none) B4.out) (fun j hj => by cases hj)).andThen G5.out (fun j hj => .inr hj)⟩
          case measure => simp [intOf]; omega
        · have hla2 : decide (d.s ≤ last) = true := decide_eq_true (by omega)
          have hla3 := Lib.hid hla
          clear hla
          go_wp2_with fail
          refine (acell_any d.s d.o d.p _).mono ?_
          rintro e w3 ⟨rfl, hb⟩
          have O3 := Lib.hid (OX.out.below hb)
          have B3 := Lib.hid (belowTo B2.out hb B2.out.size)
          clear hb cX0 cX1 cX2 fX zX OX
          have OX := O3
          clear O3
          obtain ⟨cX0, cX1, cX2, fX, zX⟩ := own3 OX.out
          go_wp2_with fail
          go_ret
          exact ⟨ret_bool (by rw [HT.out, HS.out, HV.out, decide_eq_false (show ¬ last < d.s by have := hla3.out; omega)]; rfl), (G0.out.andThen G.out (fun j hj => .inr hj)).andThen (grown_of_below (row := none) B3.out) (fun j hj => by cases hj), fun h => by rw [HT.out, HS.out, HV.out, decide_eq_false (show ¬ last < d.s by have := hla3.out; omega)] at h; cases h⟩
    · have HE := Lib.hid (sndF_end (ok := akB N D) (sl := Ak.s) (rs := l) (k := i) (last := last) (by omega))
      obtain rfl : i = l.length := by omega
      go_wp2_with fail
      go_ret
      exact ⟨ret_bool (by rw [HT.out, HE.out]), G0.out.andThen G.out (fun j hj => .inr hj), fun _ => by have := HC.out; rw [List.take_length] at this; rw [List.length_map]; exact this⟩

end Go.Proofs.Ytdmadnoijhmbcaa

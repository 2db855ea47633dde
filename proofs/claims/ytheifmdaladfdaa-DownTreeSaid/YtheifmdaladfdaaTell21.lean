/- Contract of down.Tell. -/
import Derived.Test.YtheifmdaladfdaaTell21p
import Derived.Test.YtheifmdaladfdaaRLearn21
namespace Go.Proofs.Ytheifmdaladfdaa
open Go.RowKit

set_option linter.unusedVariables false in
set_option maxRecDepth 100000 in
set_option maxHeartbeats 2000000 in
theorem tel_bad (v : Value) (ls : List Dn) (w : World) (sl : SlD w v ls) (h70 : ls.length ≤ 70) (hv : vldD ls = false) :
    Calls Try.prog 19 #[v] w fun e w' => SlP w (telL ls) e w' := by
  obtain ⟨p, cap, e, hlc, hcm, hpn⟩ := sl.form ls.length rfl
  subst e
  have SL := Lib.hid sl
  unfold maxLen at hcm
  clear hpn sl
  have HV := Lib.hid hv
  clear hv
  go_enter Try.func19, Try.ntmps19
  go_wp2_with (first | (go_at_call 25; refine (dvalid_lit _ ls false _ SL.out HV.out).mono ?_; rintro e w1 ⟨rfl, hb2⟩; have B1 := Lib.hid hb2; have SL1 := Lib.hid (SL.out.below hb2); clear hb2) | fail)
  go_ret
  exact ⟨_, rfl, by rw [telL, HV.out, if_neg (by simp)]; exact slt_nil _, B1.out⟩

set_option linter.unusedVariables false in
set_option maxRecDepth 100000 in
set_option maxHeartbeats 2000000 in
theorem tel_good (v : Value) (ls : List Dn) (w : World) (sl : SlD w v ls) (h70 : ls.length ≤ 70) (hv : vldD ls = true) :
    Calls Try.prog 19 #[v] w fun e w' => SlP w (telL ls) e w' := by
  obtain ⟨p, cap, e, hlc, hcm, hpn⟩ := sl.form ls.length rfl
  subst e
  have SL := Lib.hid sl
  unfold maxLen at hcm
  clear hpn sl
  have HV := Lib.hid hv
  clear hv
  go_enter Try.func19, Try.ntmps19
  go_wp2_with (first | (go_at_call 25; refine (dvalid_lit _ ls true _ SL.out HV.out).mono ?_; rintro e w1 ⟨rfl, hb2⟩; have B1 := Lib.hid hb2; have SL1 := Lib.hid (SL.out.below hb2); clear hb2) | fail)
  refine (clone_any _ ls _ SL1.out (by omega)).mono ?_
  rintro e w2 ⟨v2, rfl, hown, hb⟩
  have B2 := Lib.hid hb
  have S2 := Lib.hid (slt_of_own (L := dnL) hown)
  obtain ⟨p2, cap2, e2, hlc2, hcm2, hpn2⟩ := S2.out.form ls.length rfl
  subst e2
  have HOWN0 := Lib.hid hown
  unfold maxLen at hcm2
  clear hown hb hpn2
  cases p2 with
  | none =>
    have HE := Lib.hid (S2.out.none_len rfl)
    have hl0 : ls.length = 0 := by rw [HE.out]; rfl
    have hlf : ¬ (0 : Int) < (ls.length : Int) := by omega
    clear hl0
    go_wp2_with fail
    go_loopw [12] (fun ii wr => ii = .int .i64 0 ∧ Below w1.heap.size w1 wr) (fun _ _ => 0)
    case atStart => exact ⟨rfl, B2.out⟩
    case round =>
      obtain ⟨rfl, bel⟩ := hrel
      go_wp2_with fail
      go_ret
      exact ⟨_, rfl, by rw [telL, HV.out, if_pos rfl, HE.out]; exact slt_zero rfl _ (by unfold maxLen; omega) (fun _ => by have := S2.out; obtain ⟨q, c, e, _, _, hq, _⟩ := this; injection e with e1 e2 e3; rw [e3]; exact hq e1.symm), B1.out.trans (bel.mono B1.out.size)⟩
  | some ad =>
    have hbz := B2.out.size
    obtain ⟨g, hg⟩ : ∃ g, ad = ⟨g, 0, none⟩ ∧ w1.heap.size ≤ g := by
      obtain ⟨_, ⟨e, _⟩ | ⟨g, _, _, e, hbg, _, _, _, _⟩⟩ := HOWN0.out
      · cases e
      · injection e with e _ _; injection e with e; exact ⟨g, e, hbg⟩
    obtain ⟨rfl, hgb⟩ := hg
    go_wp2_with fail
    go_loopw [12] (fun ii wr => ∃ (i : Nat), i ≤ ls.length ∧ ii = .int .i64 i ∧ wr.ownsRow w1.heap.size 35 4 (.slice (some ⟨g, 0, none⟩) ls.length cap2) ls.length (flatT dnL (mixL ls i)) ∧ Below w1.heap.size w1 wr) (fun i _ => ls.length - (intOf i).toNat)
    case atStart => exact ⟨0, by omega, rfl, by rw [mix_zero]; exact HOWN0.out, B2.out⟩
    case round =>
      obtain ⟨i, hi, rfl, hown, bel⟩ := hrel
      have HOWN := Lib.hid hown
      have BE := Lib.hid bel
      clear hown bel
      by_cases hlt : i < ls.length
      · have j0 : (0 : Int) ≤ (i : Int) := Int.natCast_nonneg _
        have j1 : (i : Int) < (ls.length : Int) := by omega
        obtain ⟨d, hd⟩ : ∃ d, ls[i]? = some d := ⟨_, List.getElem?_eq_getElem hlt⟩
        obtain ⟨m1, m2⟩ := mix_at hd
        have y1 : (flatT dnL (mixL ls i))[i * 4 + 1]? = some (.int .i64 d.n) := flatT_at (L := dnL) m1 (j := 1) rfl
        have y3 : (flatT dnL (mixL ls i))[i * 4 + 3]? = some (.int .i64 d.u) := flatT_at (L := dnL) m1 (j := 3) rfl
        have hl0 := HOWN.out.1
        have z1 := (List.getElem?_eq_some_iff.1 y1).1
        have z3 := (List.getElem?_eq_some_iff.1 y3).1
        have c1 : wr.cell? ⟨g, i * 4 + 1, none⟩ = some (.int .i64 d.n) := by rw [HOWN.out.cellAt _ (by omega)]; exact y1
        have f1 : wr.frozen? ⟨g, i * 4 + 1, none⟩ = false := HOWN.out.frozenAt _
        have H1 := (HOWN.out.stored (i * 4 + 1) (.int .i64 0)).1
        have c3 : (wr.setCell ⟨g, i * 4 + 1, none⟩ (.int .i64 0)).cell? ⟨g, i * 4 + 3, none⟩ = some (.int .i64 d.u) := by rw [H1.cellAt _ (by first | omega | (rw [List.length_set]; omega)), List.getElem?_set_ne (by omega)]; exact y3
        have f3 : (wr.setCell ⟨g, i * 4 + 1, none⟩ (.int .i64 0)).frozen? ⟨g, i * 4 + 3, none⟩ = false := H1.frozenAt _
        have H2 := (H1.stored (i * 4 + 3) (.int .i64 0)).1
        rw [set_tel _ _ _ m1, m2] at H2
        replace H2 := Lib.hid H2
        have B3 := Lib.hid (belowSet' (belowSet' BE.out g (i * 4 + 1) (.int .i64 0) hgb) g (i * 4 + 3) (.int .i64 0) hgb)
        clear hl0 z1 z3 y1 y3 H1 m1 m2 hd
        go_wp2_with fail
        go_roundw
        case rel => exact ⟨i + 1, by omega, by go_num, H2.out, B3.out⟩
        case measure => simp [intOf]; omega
      · obtain rfl : i = ls.length := by omega
        go_wp2_with fail
        go_ret
        exact ⟨_, rfl, by rw [telL, HV.out, if_pos rfl, ← mix_end (Nat.le_refl _)]; exact slt_of_own (L := dnL) (by rw [mix_len]; exact HOWN.out), B1.out.trans (BE.out.mono B1.out.size)⟩

end Go.Proofs.Ytheifmdaladfdaa

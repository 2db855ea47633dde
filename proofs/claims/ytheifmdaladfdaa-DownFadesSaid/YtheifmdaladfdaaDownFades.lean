/- The walk of DownFades. -/
import Derived.Test.YtheifmdaladfdaaHead21
import Derived.Test.YtheifmdaladfdaaLaw21p
namespace Go.Proofs.Ytheifmdaladfdaa
open Go.RowKit

theorem fade_u {be : List Dn} {c s f : Int} {d : Dn} (h : d ∈ lrL [] be c s f) : d.u = f + 3 := by
  obtain ⟨_, _, e⟩ := lrL_mem h
  unfold lrOf at e
  split at e
  · rw [show getD' ([] : List Dn) d.t = none from rfl] at e
    rw [← Option.some.inj e]; rfl
  · cases e
theorem fade_stay {be : List Dn} {c s f : Int} (h : lrnB [] be c s f = true) : expL (lrL [] be c s f) (f + 3) = lrL [] be c s f := by
  rw [expL, if_pos (lrL_valid h)]
  exact List.filter_eq_self.2 fun d hd => by rw [fade_u hd]; simp
theorem fade_gone {be : List Dn} {c s f : Int} : expL (lrL [] be c s f) (f + 4) = [] := by
  rw [expL]
  split
  · refine List.filter_eq_nil_iff.2 fun d hd => ?_
    rw [fade_u hd]; simp
  · rfl

set_option linter.unusedSimpArgs false in
set_option linter.unusedVariables false in
set_option maxRecDepth 100000 in
set_option maxHeartbeats 2000000 in
theorem fades_long (v u : Value) (ls be : List Dn) (c s f x : Int) (w : World) (sl : SlD w v ls) (sb : SlD w u be) (hs : (decide (ls.length ≤ 70) && decide (be.length ≤ 70)) = false) : Calls Try.prog 7 #[v, .int .i64 c, .int .i64 s, u, .int .i64 f, .int .i64 x] w fun e w' => e = .returned (.bool true) ∧ Below w.heap.size w w' := by
  obtain ⟨p1, cap1, e0, hlc1, hcm1, hpn1⟩ := sl.form ls.length rfl
  subst e0
  have SL := Lib.hid sl
  clear hpn1 hlc1 hcm1 sl
  obtain ⟨p2, cap2, e0, hlc2, hcm2, hpn2⟩ := sb.form be.length rfl
  subst e0
  have SB := Lib.hid sb
  clear hpn2 hlc2 hcm2 sb
  have HS := Lib.hid hs
  clear hs
  go_enter Try.func7, Try.ntmps7
  go_wp2_with fail
  refine (head_true _).mono ?_
  rintro e w1 ⟨rfl, hb⟩
  replace SL := Lib.hid (SL.out.below hb)
  replace SB := Lib.hid (SB.out.below hb)
  have B := Lib.hid hb
  clear hb
  go_wp2_with fail
  refine (short_lit _ _ ls be false _ SL.out SB.out HS.out).mono ?_
  rintro e w2 ⟨rfl, rfl⟩
  go_wp2_with fail
  go_ret
  exact ⟨rfl, B.out⟩

set_option linter.unusedSimpArgs false in
set_option linter.unusedVariables false in
set_option maxRecDepth 100000 in
set_option maxHeartbeats 2000000 in
theorem fades_not (v u : Value) (ls be : List Dn) (c s f x : Int) (w : World) (sl : SlD w v ls) (sb : SlD w u be) (hs : (decide (ls.length ≤ 70) && decide (be.length ≤ 70)) = true) (hv : vldD ls = false) : Calls Try.prog 7 #[v, .int .i64 c, .int .i64 s, u, .int .i64 f, .int .i64 x] w fun e w' => e = .returned (.bool true) ∧ Below w.heap.size w w' := by
  obtain ⟨p1, cap1, e0, hlc1, hcm1, hpn1⟩ := sl.form ls.length rfl
  subst e0
  have SL := Lib.hid sl
  clear hpn1 hlc1 hcm1 sl
  obtain ⟨p2, cap2, e0, hlc2, hcm2, hpn2⟩ := sb.form be.length rfl
  subst e0
  have SB := Lib.hid sb
  clear hpn2 hlc2 hcm2 sb
  have HS := Lib.hid hs
  have HV := Lib.hid hv
  clear hs hv
  go_enter Try.func7, Try.ntmps7
  go_wp2_with fail
  refine (head_true _).mono ?_
  rintro e w1 ⟨rfl, hb⟩
  replace SL := Lib.hid (SL.out.below hb)
  replace SB := Lib.hid (SB.out.below hb)
  have B := Lib.hid hb
  clear hb
  go_wp2_with fail
  refine (short_lit _ _ ls be true _ SL.out SB.out HS.out).mono ?_
  rintro e w2 ⟨rfl, rfl⟩
  go_wp2_with fail
  refine (rdvalid_lit _ ls false _ SL.out HV.out).mono ?_
  rintro e w3 ⟨rfl, hb⟩
  replace SL := Lib.hid (SL.out.below hb)
  replace SB := Lib.hid (SB.out.below hb)
  replace B := Lib.hid (B.out.trans (hb.mono B.out.size))
  clear hb
  go_wp2_with fail
  go_ret
  exact ⟨rfl, B.out⟩

set_option linter.unusedSimpArgs false in
set_option linter.unusedVariables false in
set_option maxRecDepth 100000 in
set_option maxHeartbeats 2000000 in
theorem fades_on (v u : Value) (ls be : List Dn) (c s f x : Int) (w : World) (sl : SlD w v ls) (sb : SlD w u be) (hs : (decide (ls.length ≤ 70) && decide (be.length ≤ 70)) = true) (hv : vldD ls = true) : Calls Try.prog 7 #[v, .int .i64 c, .int .i64 s, u, .int .i64 f, .int .i64 x] w fun e w' => e = .returned (.bool true) ∧ Below w.heap.size w w' := by
  obtain ⟨p1, cap1, e0, hlc1, hcm1, hpn1⟩ := sl.form ls.length rfl
  subst e0
  have SL := Lib.hid sl
  clear hpn1 hlc1 hcm1 sl
  obtain ⟨p2, cap2, e0, hlc2, hcm2, hpn2⟩ := sb.form be.length rfl
  subst e0
  have SB := Lib.hid sb
  clear hpn2 hlc2 hcm2 sb
  have HS := Lib.hid hs
  have HV := Lib.hid hv
  have h70 : ls.length ≤ 70 := by simp at hs; exact hs.1
  have g70 : be.length ≤ 70 := by simp at hs; exact hs.2
  have HXP := Lib.hid (show expL ls x = ls.filter (fun d => !decide (d.u < x)) by rw [expL, if_pos hv])
  obtain ⟨i0, hi, hz, hs0, hb0⟩ := info_parts info_dn
  have IF := Lib.hid (And.intro hi (And.intro hz (And.intro hs0 hb0)))
  clear hi hz hs0 hb0 hs hv
  go_enter Try.func7, Try.ntmps7
  go_wp2_with fail
  refine (head_true _).mono ?_
  rintro e w1 ⟨rfl, hb⟩
  replace SL := Lib.hid (SL.out.below hb)
  replace SB := Lib.hid (SB.out.below hb)
  have B := Lib.hid hb
  clear hb
  go_wp2_with fail
  refine (short_lit _ _ ls be true _ SL.out SB.out HS.out).mono ?_
  rintro e w2 ⟨rfl, rfl⟩
  go_wp2_with fail
  refine (rdvalid_lit _ ls true _ SL.out HV.out).mono ?_
  rintro e w3 ⟨rfl, hb⟩
  replace SL := Lib.hid (SL.out.below hb)
  replace SB := Lib.hid (SB.out.below hb)
  replace B := Lib.hid (B.out.trans (hb.mono B.out.size))
  clear hb
  go_wp2_with fail
  go_loopw [14, 32] (fun out ii wr => ∃ (i : Nat) (qs : List Dn), i ≤ ls.length ∧ ii = .int .i64 i ∧ qs = (ls.take i).filter (fun d => !decide (d.u < x)) ∧ wr.ownsRow w3.heap.size 35 4 out qs.length (flatT dnL qs) ∧ Below w3.heap.size w3 wr) (fun _ i _ => ls.length - (intOf i).toNat)
  case atStart => exact ⟨0, [], by omega, rfl, by simp, World.ownsRow_nil _ _ _ _, Below.refl _ _⟩
  case round =>
    obtain ⟨i, qs, hi, rfl, hq, hown, bel⟩ := hrel
    have HQ := Lib.hid hq
    have hq70 : qs.length ≤ 70 := by have h1 := List.length_filter_le (fun d => !decide (d.u < x)) (ls.take i); have h2 := List.length_take_le' i ls; rw [← hq] at h1; omega
    have HOWN := Lib.hid hown
    have BE := Lib.hid bel
    have hwz := bel.size
    clear hq hown bel
    by_cases hlt : i < ls.length
    · obtain ⟨d, b, off, hd, rfl, hbl, _, d0, d1, d2, d3⟩ := SL.out.at4 BE.out hlt
      have j0 : (0 : Int) ≤ (i : Int) := Int.natCast_nonneg _
      have j1 : (i : Int) < (ls.length : Int) := by omega
      have HD := Lib.hid hd
      clear hd
      by_cases hux : d.u < x
      · have HU := Lib.hid hux
        go_wp2_with fail
        go_roundw
        case rel => exact ⟨i + 1, qs, by omega, by go_num, by rw [take_filtD HD.out]; simp [HQ.out, HU.out], HOWN.out.alloc _, BE.out.trans ((belowNew _ _).mono BE.out.size)⟩
        case measure => simp [intOf]; omega
      · have HU := Lib.hid hux
        go_wp2_with (at_builtin; refine wpList_append_own _ rfl _ _ 22 rfl w3.heap.size 35 i0 _ 4 32 (by kernel_rfl) IF.out.1 IF.out.2.1 IF.out.2.2.1 IF.out.2.2.2 rfl (by decide) _ qs.length (flatT dnL qs) rfl ((HOWN.out.alloc _).alloc _) ⟨wr.heap.size + 1, 0, none⟩ 1 1 (dnL.f d) rfl rfl (newsT1 (L := dnL) wr _ d 35) (dnL.one _) ?qc4 ?qc5 ?qc6 ?_)
        case qc4 => unfold maxLen; omega
        case qc5 => omega
        case qc6 => first | omega | (simp; omega)
        intro v2 w4 hown hgrow hnil
        have B2 := Lib.hid (((BE.out.alloc BE.out.size (.cells (dnL.f d).toArray 35)).alloc (by simp; omega) (.cells (dnL.f d).toArray 35)).grown hgrow (by simp; omega) (fun k hk => (HOWN.out.lt k hk).1))
        have H2 := Lib.hid hown
        clear hown hgrow hnil
        go_wp2_with fail
        go_roundw
        case rel => exact ⟨i + 1, qs ++ [d], by omega, by go_num, by rw [take_filtD HD.out]; simp [HQ.out, HU.out], by have := H2.out; rw [flatT_append, flatT_one]; simpa using this, B2.out⟩
        case measure => simp [intOf]; omega
    · have HE := Lib.hid (show qs = expL ls x by rw [HXP.out, HQ.out, List.take_of_length_le (by omega)])
      have SW := Lib.hid (slt_of_own (L := dnL) HOWN.out)
      have SL1 := Lib.hid (SL.out.below BE.out)
      have SB1 := Lib.hid (SB.out.below BE.out)
      have BZ := Lib.hid (B.out.trans (BE.out.mono B.out.size))
      clear HQ HOWN
      go_wp2_with fail
      refine (exp_any _ ls x _ SL1.out h70).mono ?_
      rintro e w5 ⟨ve, rfl, hs, hb⟩
      have SE := Lib.hid hs
      replace SW := Lib.hid (SW.out.below hb)
      replace SB1 := Lib.hid (SB1.out.below hb)
      replace BZ := Lib.hid (BZ.out.trans (hb.mono BZ.out.size))
      clear hs hb
      go_wp2_with fail
      refine (same_lit _ _ (expL ls x) qs true _ SE.out SW.out (sameD_iff.2 HE.out.symm)).mono ?_
      rintro e w6 ⟨rfl, hb⟩
      replace SB1 := Lib.hid (SB1.out.below hb)
      replace BZ := Lib.hid (BZ.out.trans (hb.mono BZ.out.size))
      clear hb SE SW HE
      cases hn : lrnB [] be c s f with
      | false =>
        have HX := Lib.hid (lrX_bad hn)
        clear hn
        go_wp2_with fail
        refine (learn_lit (.slice none 0 0) _ [] be c s f [] 1 _ (slt_nil _) SB1.out (by decide) g70 HX.out).mono ?_
        rintro e w7 ⟨vm, rfl, hs, hb⟩
        replace BZ := Lib.hid (BZ.out.trans (hb.mono BZ.out.size))
        clear hs hb
        go_wp2_with fail
        go_ret
        exact ⟨rfl, BZ.out⟩
      | true =>
        obtain ⟨ms, hms⟩ : ∃ ms, lrL [] be c s f = ms := ⟨_, rfl⟩
        have HX := Lib.hid (show lrX [] be c s f = ms ∧ lrE [] be c s f = 0 by rw [← hms]; exact lrX_good hn)
        have H3 := Lib.hid (show expL ms (f + 3) = ms by rw [← hms]; exact fade_stay hn)
        have H4 := Lib.hid (show expL ms (f + 4) = [] by rw [← hms]; exact fade_gone)
        have hm70 : ms.length ≤ 70 := by rw [← hms]; have := tgt_len (lrOf [] be c s f) 60; unfold lrL; omega
        have hf := (lrnB_spec hn).2.2.2.1
        have w3' : IntKind.i64.wrap (f + 3) = f + 3 := IntWalk.i64_in _ (by omega)
        have w4' : IntKind.i64.wrap (f + 4) = f + 4 := IntWalk.i64_in _ (by omega)
        have f0 : 0 ≤ f := hf.1
        have f1 : f ≤ 999999997 := hf.2
        clear hn hms hf
        go_wp2_with fail
        refine (learn_lit (.slice none 0 0) _ [] be c s f ms 0 _ (slt_nil _) SB1.out (by decide) g70 HX.out).mono ?_
        rintro e w7 ⟨vm, rfl, hs, hb⟩
        have SM := Lib.hid hs
        replace BZ := Lib.hid (BZ.out.trans (hb.mono BZ.out.size))
        clear hs hb
        go_wp2_with fail
        refine (exp_lit _ ms (f + 3) ms _ SM.out hm70 H3.out).mono ?_
        rintro e w8 ⟨va, rfl, hs, hb⟩
        have SA := Lib.hid hs
        replace SM := Lib.hid (SM.out.below hb)
        replace BZ := Lib.hid (BZ.out.trans (hb.mono BZ.out.size))
        clear hs hb
        go_wp2_with fail
        refine (same_lit _ _ ms ms true _ SA.out SM.out (sameD_iff.2 rfl)).mono ?_
        rintro e w9 ⟨rfl, hb⟩
        replace SM := Lib.hid (SM.out.below hb)
        replace BZ := Lib.hid (BZ.out.trans (hb.mono BZ.out.size))
        clear hb SA
        go_wp2_with fail
        refine (exp_lit _ ms (f + 4) [] _ SM.out hm70 H4.out).mono ?_
        rintro e w10 ⟨vb, rfl, hs, hb⟩
        obtain ⟨p9, cap9, e0, _, _, _⟩ := hs.form 0 rfl
        subst e0
        replace BZ := Lib.hid (BZ.out.trans (hb.mono BZ.out.size))
        clear hs hb
        go_wp2_with fail
        go_ret
        exact ⟨rfl, BZ.out⟩

theorem downFades_walk (v : Value) (ls : List Dn) (c s : Int) (u : Value) (be : List Dn) (f x : Int) (w : World) (sl : SlD w v ls) {q0 q1 q2 q3 q4 q5 : Prop} (_ : q0) (_ : q1) (_ : q2) (sb : SlD w u be) (_ : q3) (_ : q4) (_ : q5) :
    Calls Try.prog 7 #[v, .int .i64 c, .int .i64 s, u, .int .i64 f, .int .i64 x] w fun e w' => e = .returned (.bool true) ∧ Below w.heap.size w w' := by
  cases hs : (decide (ls.length ≤ 70) && decide (be.length ≤ 70)) with
  | false => exact fades_long v u ls be c s f x w sl sb hs
  | true =>
    cases hv : vldD ls with
    | false => exact fades_not v u ls be c s f x w sl sb hs hv
    | true => exact fades_on v u ls be c s f x w sl sb hs hv

end Go.Proofs.Ytheifmdaladfdaa

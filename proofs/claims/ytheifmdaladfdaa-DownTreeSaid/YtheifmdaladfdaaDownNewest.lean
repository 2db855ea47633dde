/- The walk of DownNewest. -/
import Derived.Test.YtheifmdaladfdaaHead21
import Derived.Test.YtheifmdaladfdaaLaw21p
import Derived.Test.YtheifmdaladfdaaNewest21p
namespace Go.Proofs.Ytheifmdaladfdaa
open Go.RowKit

set_option linter.unusedSimpArgs false in
set_option linter.unusedVariables false in
set_option maxRecDepth 100000 in
set_option maxHeartbeats 2000000 in
theorem newest_long (v u x : Value) (ls be : List Dn) (c s f g : Int) (cs : List Int) (w : World) (sl : SlD w v ls) (sb : SlD w u be) (sc : SlT chL w x cs) (hs : (decide (ls.length ≤ 70) && decide (be.length ≤ 70)) = false) : Calls Try.prog 5 #[v, .int .i64 c, .int .i64 s, u, .int .i64 f, .int .u8 g, x] w fun e w' => e = .returned (.bool true) ∧ Below w.heap.size w w' := by
  obtain ⟨p1, cap1, e0, hlc1, hcm1, hpn1⟩ := sl.form ls.length rfl
  subst e0
  have SL := Lib.hid sl
  clear hpn1 hlc1 hcm1 sl
  obtain ⟨p2, cap2, e0, hlc2, hcm2, hpn2⟩ := sb.form be.length rfl
  subst e0
  have SB := Lib.hid sb
  clear hpn2 hlc2 hcm2 sb
  obtain ⟨p3, cap3, e0, hlc3, hcm3, hpn3⟩ := sc.form cs.length rfl
  subst e0
  have SC := Lib.hid sc
  clear hpn3 hlc3 hcm3 sc
  have HS := Lib.hid hs
  clear hs
  go_enter Try.func5, Try.ntmps5
  go_wp2_with fail
  refine (head_true _).mono ?_
  rintro e w1 ⟨rfl, hb⟩
  replace SL := Lib.hid (SL.out.below hb)
  replace SB := Lib.hid (SB.out.below hb)
  replace SC := Lib.hid (SC.out.below hb)
  have B := Lib.hid hb
  clear hb
  go_wp2_with fail
  refine (short_lit _ _ ls be false _ SL.out SB.out HS.out).mono ?_
  rintro e w2 ⟨rfl, rfl⟩
  go_wp2_with fail
  go_ret
  exact ⟨rfl, B.out⟩

set_option linter.unusedSimpArgs false in
set_option linter.unusedVariables false in
set_option maxRecDepth 100000 in
set_option maxHeartbeats 2000000 in
theorem newest_not (v u x : Value) (ls be : List Dn) (c s f g : Int) (cs : List Int) (w : World) (sl : SlD w v ls) (sb : SlD w u be) (sc : SlT chL w x cs) (hs : (decide (ls.length ≤ 70) && decide (be.length ≤ 70)) = true) (hv : vldD ls = false) : Calls Try.prog 5 #[v, .int .i64 c, .int .i64 s, u, .int .i64 f, .int .u8 g, x] w fun e w' => e = .returned (.bool true) ∧ Below w.heap.size w w' := by
  obtain ⟨p1, cap1, e0, hlc1, hcm1, hpn1⟩ := sl.form ls.length rfl
  subst e0
  have SL := Lib.hid sl
  clear hpn1 hlc1 hcm1 sl
  obtain ⟨p2, cap2, e0, hlc2, hcm2, hpn2⟩ := sb.form be.length rfl
  subst e0
  have SB := Lib.hid sb
  clear hpn2 hlc2 hcm2 sb
  obtain ⟨p3, cap3, e0, hlc3, hcm3, hpn3⟩ := sc.form cs.length rfl
  subst e0
  have SC := Lib.hid sc
  clear hpn3 hlc3 hcm3 sc
  have HS := Lib.hid hs
  have HV := Lib.hid hv
  clear hs hv
  go_enter Try.func5, Try.ntmps5
  go_wp2_with fail
  refine (head_true _).mono ?_
  rintro e w1 ⟨rfl, hb⟩
  replace SL := Lib.hid (SL.out.below hb)
  replace SB := Lib.hid (SB.out.below hb)
  replace SC := Lib.hid (SC.out.below hb)
  have B := Lib.hid hb
  clear hb
  go_wp2_with fail
  refine (short_lit _ _ ls be true _ SL.out SB.out HS.out).mono ?_
  rintro e w2 ⟨rfl, rfl⟩
  go_wp2_with fail
  refine (rdvalid_lit _ ls false _ SL.out HV.out).mono ?_
  rintro e w3 ⟨rfl, hb⟩
  replace SL := Lib.hid (SL.out.below hb)
  replace SB := Lib.hid (SB.out.below hb)
  replace SC := Lib.hid (SC.out.below hb)
  replace B := Lib.hid (B.out.trans (hb.mono B.out.size))
  clear hb
  go_wp2_with fail
  go_ret
  exact ⟨rfl, B.out⟩

set_option linter.unusedSimpArgs false in
set_option linter.unusedVariables false in
set_option maxRecDepth 100000 in
set_option maxHeartbeats 2000000 in
theorem newest_many (v u x : Value) (ls be : List Dn) (c s f g : Int) (cs : List Int) (w : World) (sl : SlD w v ls) (sb : SlD w u be) (sc : SlT chL w x cs) (hs : (decide (ls.length ≤ 70) && decide (be.length ≤ 70)) = true) (hv : vldD ls = true) (h30 : 30 < cs.length) : Calls Try.prog 5 #[v, .int .i64 c, .int .i64 s, u, .int .i64 f, .int .u8 g, x] w fun e w' => e = .returned (.bool true) ∧ Below w.heap.size w w' := by
  obtain ⟨p1, cap1, e0, hlc1, hcm1, hpn1⟩ := sl.form ls.length rfl
  subst e0
  have SL := Lib.hid sl
  clear hpn1 hlc1 hcm1 sl
  obtain ⟨p2, cap2, e0, hlc2, hcm2, hpn2⟩ := sb.form be.length rfl
  subst e0
  have SB := Lib.hid sb
  clear hpn2 hlc2 hcm2 sb
  obtain ⟨p3, cap3, e0, hlc3, hcm3, hpn3⟩ := sc.form cs.length rfl
  subst e0
  have SC := Lib.hid sc
  clear hpn3 hlc3 hcm3 sc
  have HS := Lib.hid hs
  have HV := Lib.hid hv
  have h30' : (30 : Int) < (cs.length : Int) := by omega
  clear hs hv h30
  go_enter Try.func5, Try.ntmps5
  go_wp2_with fail
  refine (head_true _).mono ?_
  rintro e w1 ⟨rfl, hb⟩
  replace SL := Lib.hid (SL.out.below hb)
  replace SB := Lib.hid (SB.out.below hb)
  replace SC := Lib.hid (SC.out.below hb)
  have B := Lib.hid hb
  clear hb
  go_wp2_with fail
  refine (short_lit _ _ ls be true _ SL.out SB.out HS.out).mono ?_
  rintro e w2 ⟨rfl, rfl⟩
  go_wp2_with fail
  refine (rdvalid_lit _ ls true _ SL.out HV.out).mono ?_
  rintro e w3 ⟨rfl, hb⟩
  replace SL := Lib.hid (SL.out.below hb)
  replace SB := Lib.hid (SB.out.below hb)
  replace SC := Lib.hid (SC.out.below hb)
  replace B := Lib.hid (B.out.trans (hb.mono B.out.size))
  clear hb
  go_wp2_with fail
  go_ret
  exact ⟨rfl, B.out⟩

set_option linter.unusedSimpArgs false in
set_option linter.unusedVariables false in
set_option maxRecDepth 100000 in
set_option maxHeartbeats 2000000 in
theorem newest_bad (v u x : Value) (ls be : List Dn) (c s f g : Int) (cs : List Int) (w : World) (sl : SlD w v ls) (sb : SlD w u be) (sc : SlT chL w x cs) (hs : (decide (ls.length ≤ 70) && decide (be.length ≤ 70)) = true) (hv : vldD ls = true) (h30 : cs.length ≤ 30) (hn : lrnB ls be c s f = false) : Calls Try.prog 5 #[v, .int .i64 c, .int .i64 s, u, .int .i64 f, .int .u8 g, x] w fun e w' => e = .returned (.bool true) ∧ Below w.heap.size w w' := by
  obtain ⟨p1, cap1, e0, hlc1, hcm1, hpn1⟩ := sl.form ls.length rfl
  subst e0
  have SL := Lib.hid sl
  clear hpn1 hlc1 hcm1 sl
  obtain ⟨p2, cap2, e0, hlc2, hcm2, hpn2⟩ := sb.form be.length rfl
  subst e0
  have SB := Lib.hid sb
  clear hpn2 hlc2 hcm2 sb
  obtain ⟨p3, cap3, e0, hlc3, hcm3, hpn3⟩ := sc.form cs.length rfl
  subst e0
  have SC := Lib.hid sc
  clear hpn3 hlc3 hcm3 sc
  have HS := Lib.hid hs
  have HV := Lib.hid hv
  have h70 : ls.length ≤ 70 := by simp at hs; exact hs.1
  have g70 : be.length ≤ 70 := by simp at hs; exact hs.2
  have h30' : ¬ (30 : Int) < (cs.length : Int) := by omega
  have HX := Lib.hid (lrX_bad hn)
  clear hs hv hn h30
  go_enter Try.func5, Try.ntmps5
  go_wp2_with fail
  refine (head_true _).mono ?_
  rintro e w1 ⟨rfl, hb⟩
  replace SL := Lib.hid (SL.out.below hb)
  replace SB := Lib.hid (SB.out.below hb)
  replace SC := Lib.hid (SC.out.below hb)
  have B := Lib.hid hb
  clear hb
  go_wp2_with fail
  refine (short_lit _ _ ls be true _ SL.out SB.out HS.out).mono ?_
  rintro e w2 ⟨rfl, rfl⟩
  go_wp2_with fail
  refine (rdvalid_lit _ ls true _ SL.out HV.out).mono ?_
  rintro e w3 ⟨rfl, hb⟩
  replace SL := Lib.hid (SL.out.below hb)
  replace SB := Lib.hid (SB.out.below hb)
  replace SC := Lib.hid (SC.out.below hb)
  replace B := Lib.hid (B.out.trans (hb.mono B.out.size))
  clear hb
  go_wp2_with fail
  refine (learn_lit _ _ ls be c s f [] 1 _ SL.out SB.out h70 g70 HX.out).mono ?_
  rintro e w4 ⟨va, rfl, hs, hb⟩
  have SX := Lib.hid (hs)
  replace SL := Lib.hid (SL.out.below hb)
  replace SB := Lib.hid (SB.out.below hb)
  replace SC := Lib.hid (SC.out.below hb)
  replace B := Lib.hid (B.out.trans (hb.mono B.out.size))
  clear hb hs
  obtain ⟨p4, cap4, e0, _, _, _⟩ := SX.out.form 0 rfl
  subst e0
  go_wp2_with fail
  go_ret
  exact ⟨rfl, B.out⟩

set_option linter.unusedSimpArgs false in
set_option linter.unusedVariables false in
set_option maxRecDepth 100000 in
set_option maxHeartbeats 2000000 in
theorem newest_good (v u x : Value) (ls be : List Dn) (c s f g : Int) (cs : List Int) (w : World) (sl : SlD w v ls) (sb : SlD w u be) (sc : SlT chL w x cs) (hs : (decide (ls.length ≤ 70) && decide (be.length ≤ 70)) = true) (hv : vldD ls = true) (h30 : cs.length ≤ 30) (hn : lrnB ls be c s f = true) (hg : 0 ≤ g ∧ g < 256) (hcs : ∀ a ∈ cs, 0 ≤ a ∧ a < 256) : Calls Try.prog 5 #[v, .int .i64 c, .int .i64 s, u, .int .i64 f, .int .u8 g, x] w fun e w' => e = .returned (.bool true) ∧ Below w.heap.size w w' := by
  obtain ⟨p1, cap1, e0, hlc1, hcm1, hpn1⟩ := sl.form ls.length rfl
  subst e0
  have SL := Lib.hid sl
  clear hpn1 hlc1 hcm1 sl
  obtain ⟨p2, cap2, e0, hlc2, hcm2, hpn2⟩ := sb.form be.length rfl
  subst e0
  have SB := Lib.hid sb
  clear hpn2 hlc2 hcm2 sb
  obtain ⟨p3, cap3, e0, hlc3, hcm3, hpn3⟩ := sc.form cs.length rfl
  subst e0
  have SC := Lib.hid sc
  clear hpn3 hlc3 hcm3 sc
  have HS := Lib.hid hs
  have HV := Lib.hid hv
  have h70 : ls.length ≤ 70 := by simp at hs; exact hs.1
  have g70 : be.length ≤ 70 := by simp at hs; exact hs.2
  have h30' : ¬ (30 : Int) < (cs.length : Int) := by omega
  obtain ⟨xs, hxs⟩ : ∃ xs, lrL ls be c s f = xs := ⟨_, rfl⟩
  have HX := Lib.hid (show lrX ls be c s f = xs ∧ lrE ls be c s f = 0 by rw [← hxs]; exact lrX_good hn)
  have FND := Lib.hid (show ∀ d ∈ ls, ∃ (k : Nat) (r : Dn), xs[k]? = some r ∧ idxD (fun e => e.t == d.t) xs = (k : Int) ∧ (d.n ≠ c → d.s ≤ r.s) by intro d hd; rw [← hxs]; exact lrL_newer hn hd)
  have hx70 : xs.length ≤ 60 := by rw [← hxs]; exact tgt_len _ 60
  have hf := (lrnB_spec hn).2.2.2.1
  have HF := Lib.hid hf
  have HCS := Lib.hid hcs
  obtain ⟨g0, g1⟩ := hg
  obtain ⟨T, hT⟩ : ∃ T, g % 60 = T := ⟨_, rfl⟩
  have HT := Lib.hid (show 0 ≤ T ∧ T < 60 by omega)
  have HTE := Lib.hid hT
  clear hs hv hn hxs hf hcs hT
  go_enter Try.func5, Try.ntmps5
  go_wp2_with fail
  refine (head_true _).mono ?_
  rintro e w1 ⟨rfl, hb⟩
  replace SL := Lib.hid (SL.out.below hb)
  replace SB := Lib.hid (SB.out.below hb)
  replace SC := Lib.hid (SC.out.below hb)
  have B := Lib.hid hb
  clear hb
  go_wp2_with fail
  refine (short_lit _ _ ls be true _ SL.out SB.out HS.out).mono ?_
  rintro e w2 ⟨rfl, rfl⟩
  go_wp2_with fail
  refine (rdvalid_lit _ ls true _ SL.out HV.out).mono ?_
  rintro e w3 ⟨rfl, hb⟩
  replace SL := Lib.hid (SL.out.below hb)
  replace SB := Lib.hid (SB.out.below hb)
  replace SC := Lib.hid (SC.out.below hb)
  replace B := Lib.hid (B.out.trans (hb.mono B.out.size))
  clear hb
  go_wp2_with fail
  refine (learn_lit _ _ ls be c s f xs 0 _ SL.out SB.out h70 g70 HX.out).mono ?_
  rintro e w4 ⟨va, rfl, hs, hb⟩
  have SX := Lib.hid (hs)
  replace SL := Lib.hid (SL.out.below hb)
  replace SB := Lib.hid (SB.out.below hb)
  replace SC := Lib.hid (SC.out.below hb)
  replace B := Lib.hid (B.out.trans (hb.mono B.out.size))
  clear hb hs
  obtain ⟨M, hM⟩ : ∃ M, xs.length = M := ⟨_, rfl⟩
  obtain ⟨p4, cap4, e0, _, _, _⟩ := SX.out.form M hM
  subst e0
  have HM := Lib.hid hM
  clear hM
  go_wp2_with fail
  go_loopw [61] (fun ii wr => ∃ (i : Nat), i ≤ ls.length ∧ ii = .int .i64 i ∧ Below w4.heap.size w4 wr) (fun i _ => ls.length - (intOf i).toNat)
  case atStart => exact ⟨0, by omega, rfl, Below.refl _ _⟩
  case round =>
    obtain ⟨i, hi, rfl, hb⟩ := hrel
    have BL := Lib.hid hb
    clear hb
    have j0 : (0 : Int) ≤ (i : Int) := Int.natCast_nonneg _
    by_cases hlt : i < ls.length
    · obtain ⟨d, b, off, hd, rfl, hbl, _, d0, d1, d2, d3⟩ := SL.out.at4 BL.out hlt
      have j1 : (i : Int) < (ls.length : Int) := by omega
      obtain ⟨k, r, hk, hidx, hn⟩ := FND.out d (List.mem_of_getElem? hd)
      have hkl := (List.getElem?_eq_some_iff.1 hk).1
      obtain ⟨r', bm, offm, hr', rfl, hbm, _, e0, e1, e2, e3⟩ := SX.out.at4 BL.out hkl
      obtain rfl : r = r' := by rw [hk] at hr'; exact Option.some.inj hr'
      have k0 : (0 : Int) ≤ (k : Int) := Int.natCast_nonneg _
      have kk0 : ¬ (k : Int) < 0 := by omega
      have kk1 : (k : Int) < (M : Int) := by have := HM.out; omega
      clear hkl
      have HK := Lib.hid hidx
      have HN := Lib.hid hn
      have SX1 := Lib.hid (SX.out.below BL.out)
      clear hd hk hidx hr' hn e0 e1 e3
      by_cases hlow : r.s < d.s
      · have hdn : (d.n != c) = false := by by_cases e : d.n = c; (simpa [bne] using e); (have := HN.out e; omega)
        go_wp2_with (first | (go_at_call 22; refine (rfind_lit _ xs d.t (k : Int) _ (SX1.out.below (belowNew _ _)) HK.out).mono ?_; rintro e w9 ⟨rfl, rfl⟩) | fail)
        go_quiet (fail)
        go_wp2_with fail
        go_roundw
        case rel => exact ⟨i + 1, by omega, by go_num, belowN (BL.out.trans ((belowNew _ _).mono BL.out.size))⟩
        case measure => simp [intOf]; omega
      · have hlow2 : decide (r.s < d.s) = false := decide_eq_false hlow
        go_wp2_with (first | (go_at_call 22; refine (rfind_lit _ xs d.t (k : Int) _ (SX1.out.below (belowNew _ _)) HK.out).mono ?_; rintro e w9 ⟨rfl, rfl⟩) | fail)
        go_quiet (fail)
        go_wp2_with fail
        go_roundw
        case rel => exact ⟨i + 1, by omega, by go_num, belowN (BL.out.trans ((belowNew _ _).mono BL.out.size))⟩
        case measure => simp [intOf]; omega
    · clear FND SL SB SX HX HM
      have BA := Lib.hid (B.out.trans (BL.out.mono B.out.size))
      have SC2 := Lib.hid (SC.out.below BL.out)
      clear SC B BL
      have SC := SC2
      clear SC2
      obtain ⟨wa, hwa⟩ : ∃ wa, wr = wa := ⟨_, rfl⟩
      subst hwa
      go_wp2_with fail
      go_loopw [23, 22, 93] (fun last rt ii wq => ∃ (i : Nat) (L : Int) (ms : List Dn), i ≤ cs.length ∧ ii = .int .i64 i ∧ last = .int .i64 L ∧ SlD wq rt ms ∧ vldD ms = true ∧ ms.length ≤ 60 ∧ NwS ms T L i ∧ Below wr.heap.size wr wq) (fun _ _ i _ => cs.length - (intOf i).toNat)
      case atStart => exact ⟨0, -1, [], by omega, rfl, rfl, slt_nil _, rfl, by simp, nw_start _, Below.refl _ _⟩
      case round =>
        clear hlt j0 hi
        obtain ⟨i, L, ms, hi, rfl, rfl, hms, hvm, hml, hnw, hb⟩ := hrel
        obtain ⟨p9, cap9, e0, _, _, _⟩ := hms.form ms.length rfl
        subst e0
        have BL := Lib.hid hb
        have SM := Lib.hid hms
        have HVM := Lib.hid hvm
        have HNW := Lib.hid hnw
        clear hb hms hvm hnw
        have j0 : (0 : Int) ≤ (i : Int) := Int.natCast_nonneg _
        by_cases hlt : i < cs.length
        · obtain ⟨a, b, off, hd, rfl, hbl, _, d0⟩ := SC.out.at1 BL.out hlt
          have j1 : (i : Int) < (cs.length : Int) := by omega
          obtain ⟨a0, a1⟩ := HCS.out a (List.mem_of_getElem? hd)
          obtain ⟨k, hk⟩ : ∃ k, a % 60 = k := ⟨_, rfl⟩
          have HKE := Lib.hid hk
          have hk0 : 0 ≤ k := by omega
          have hk1 : k < 60 := by omega
          clear hd hk
          by_cases hkt : k = T
          · have hkt' : (a % 60 == g % 60) = true := by rw [HKE.out, HTE.out]; simpa using hkt
            clear hkt
            go_wp2_with fail
            go_roundw
            case rel => exact ⟨i + 1, L, ms, by omega, by go_num, rfl, SM.out, HVM.out, hml, nw_keep HNW.out, BL.out⟩
            case measure => simp [intOf]; omega
          · have hkt' : (a % 60 == g % 60) = false := by rw [HKE.out, HTE.out]; simpa using hkt
            have hst := nw_step HVM.out HT.out ⟨hk0, hk1⟩ hkt HF.out ⟨j0, by omega⟩ HNW.out
            rw [← HTE.out, ← HKE.out] at hst
            obtain ⟨ns, hns⟩ : ∃ ns, lrL ms [⟨g % 60, 0, (i : Int) + 1, 0⟩] (a % 60) 0 f = ns := ⟨_, rfl⟩
            rw [hns] at hst
            have HX2 := Lib.hid hst.1
            have HR2 := Lib.hid hst.2
            clear hkt hns hst
            go_wp2_with fail
            refine (learn_lit _ _ ms [⟨g % 60, 0, (i : Int) + 1, 0⟩] (a % 60) 0 f ns 0 _ (SM.out.below (belowNew _ _)) (built _ [⟨g % 60, 0, (i : Int) + 1, 0⟩] _ rfl (by simp)) (by omega) (by simp) HX2.out).mono ?_
            rintro e w6 ⟨vn, rfl, hs, hb⟩
            have SN := Lib.hid hs
            replace hb := below_an hb
            have BN := Lib.hid (BL.out.trans (hb.mono BL.out.size))
            clear hs hb SM
            go_wp2_with fail
            go_roundw
            case rel => exact ⟨i + 1, a % 60, ns, by omega, by go_num, rfl, SN.out, HR2.out.2.1, HR2.out.2.2, by have := HR2.out.1; rw [HTE.out] at this; exact this, BN.out⟩
            case measure => simp [intOf]; omega
        · have hE := nw_end HVM.out HNW.out
          rw [← HTE.out] at hE
          rcases hE with ⟨e1, e2⟩ | ⟨e1, e2⟩
          · subst e1
            have HE := Lib.hid e2
            clear e2
            go_wp2_with fail
            refine (dnext_lit _ ms (g % 60) 0 false _ SM.out HE.out).mono ?_
            rintro e w7 ⟨rfl, hb⟩
            have BN := Lib.hid (BL.out.trans (hb.mono BL.out.size))
            clear hb
            go_wp2_with fail
            all_goals (go_ret; exact ⟨ret_bool (by simp; try omega), BA.out.trans (BN.out.mono BA.out.size)⟩)
          · have e3 : 0 ≤ L := e1
            clear e1
            have HE := Lib.hid e2
            clear e2
            go_wp2_with fail
            refine (dnext_lit _ ms (g % 60) L true _ SM.out HE.out).mono ?_
            rintro e w7 ⟨rfl, hb⟩
            have BN := Lib.hid (BL.out.trans (hb.mono BL.out.size))
            clear hb
            go_wp2_with fail
            all_goals (go_ret; exact ⟨ret_bool (by simp; try omega), BA.out.trans (BN.out.mono BA.out.size)⟩)

theorem downNewest_walk (v : Value) (ls : List Dn) (c s : Int) (u : Value) (be : List Dn) (f g : Int) (x : Value) (cs : List Int) (w : World) (sl : SlD w v ls) {q0 q1 q2 q3 q4 : Prop} (_ : q0) (_ : q1) (_ : q2) (sb : SlD w u be) (_ : q3) (_ : q4) (hg : IntKind.u8.has g) (sc : SlT chL w x cs) (hcs : ∀ a ∈ cs, 0 ≤ a ∧ a < 256) :
    Calls Try.prog 5 #[v, .int .i64 c, .int .i64 s, u, .int .i64 f, .int .u8 g, x] w fun e w' => e = .returned (.bool true) ∧ Below w.heap.size w w' := by
  have hg2 : 0 ≤ g ∧ g ≤ 255 := by simpa [IntKind.has, IntKind.min, IntKind.max, IntKind.signed, IntKind.bits] using hg
  have hg' : 0 ≤ g ∧ g < 256 := by omega
  cases hs : (decide (ls.length ≤ 70) && decide (be.length ≤ 70)) with
  | false => exact newest_long v u x ls be c s f g cs w sl sb sc hs
  | true =>
    cases hv : vldD ls with
    | false => exact newest_not v u x ls be c s f g cs w sl sb sc hs hv
    | true =>
      by_cases h30 : cs.length ≤ 30
      · cases hn : lrnB ls be c s f with
        | false => exact newest_bad v u x ls be c s f g cs w sl sb sc hs hv h30 hn
        | true => exact newest_good v u x ls be c s f g cs w sl sb sc hs hv h30 hn hg' hcs
      · exact newest_many v u x ls be c s f g cs w sl sb sc hs hv (by omega)

end Go.Proofs.Ytheifmdaladfdaa

/- The walk of DownValid. -/
import Derived.Test.YtheifmdaladfdaaHead21
import Derived.Test.YtheifmdaladfdaaLaw21p
namespace Go.Proofs.Ytheifmdaladfdaa
open Go.RowKit

set_option linter.unusedSimpArgs false in
set_option linter.unusedVariables false in
set_option maxRecDepth 100000 in
set_option maxHeartbeats 2000000 in
theorem valid_long (v u : Value) (ls be : List Dn) (c s f : Int) (w : World) (sl : SlD w v ls) (sb : SlD w u be) (hs : (decide (ls.length ≤ 70) && decide (be.length ≤ 70)) = false) : Calls Try.prog 4 #[v, .int .i64 c, .int .i64 s, u, .int .i64 f] w fun e w' => e = .returned (.bool true) ∧ Below w.heap.size w w' := by
  obtain ⟨p, cap, e0, hlc, hcm, hpn⟩ := sl.form ls.length rfl
  subst e0
  have SL := Lib.hid sl
  clear hpn hlc hcm sl
  obtain ⟨p2, cap2, e0, hlc2, hcm2, hpn2⟩ := sb.form be.length rfl
  subst e0
  have SB := Lib.hid sb
  clear hpn2 hlc2 hcm2 sb
  have HS := Lib.hid hs
  clear hs
  go_enter Try.func4, Try.ntmps4
  go_wp2_with fail
  refine (head_true _).mono ?_
  rintro e w1 ⟨rfl, hb⟩
  replace SL := Lib.hid (SL.out.below hb)
  replace SB := Lib.hid (SB.out.below hb)
  have B := Lib.hid hb
  clear hb
  go_wp2_with fail
  refine (short_lit _ _ ls be false _ SL.out SB.out HS.out).mono ?_
  rintro e w2 ⟨rfl, rfl⟩
  go_wp2_with fail
  go_ret
  exact ⟨rfl, B.out⟩

set_option linter.unusedSimpArgs false in
set_option linter.unusedVariables false in
set_option maxRecDepth 100000 in
set_option maxHeartbeats 2000000 in
theorem valid_not (v u : Value) (ls be : List Dn) (c s f : Int) (w : World) (sl : SlD w v ls) (sb : SlD w u be) (hs : (decide (ls.length ≤ 70) && decide (be.length ≤ 70)) = true) (hv : vldD ls = false) : Calls Try.prog 4 #[v, .int .i64 c, .int .i64 s, u, .int .i64 f] w fun e w' => e = .returned (.bool true) ∧ Below w.heap.size w w' := by
  obtain ⟨p, cap, e0, hlc, hcm, hpn⟩ := sl.form ls.length rfl
  subst e0
  have SL := Lib.hid sl
  clear hpn hlc hcm sl
  obtain ⟨p2, cap2, e0, hlc2, hcm2, hpn2⟩ := sb.form be.length rfl
  subst e0
  have SB := Lib.hid sb
  clear hpn2 hlc2 hcm2 sb
  have HS := Lib.hid hs
  have HV := Lib.hid hv
  clear hs hv
  go_enter Try.func4, Try.ntmps4
  go_wp2_with fail
  refine (head_true _).mono ?_
  rintro e w1 ⟨rfl, hb⟩
  replace SL := Lib.hid (SL.out.below hb)
  replace SB := Lib.hid (SB.out.below hb)
  have B := Lib.hid hb
  clear hb
  go_wp2_with fail
  refine (short_lit _ _ ls be true _ SL.out SB.out HS.out).mono ?_
  rintro e w2 ⟨rfl, rfl⟩
  go_wp2_with fail
  refine (rdvalid_lit _ ls false _ SL.out HV.out).mono ?_
  rintro e w3 ⟨rfl, hb⟩
  replace SL := Lib.hid (SL.out.below hb)
  replace SB := Lib.hid (SB.out.below hb)
  replace B := Lib.hid (B.out.trans (hb.mono B.out.size))
  clear hb
  go_wp2_with fail
  go_ret
  exact ⟨rfl, B.out⟩

set_option linter.unusedSimpArgs false in
set_option linter.unusedVariables false in
set_option maxRecDepth 100000 in
set_option maxHeartbeats 2000000 in
theorem valid_bad (v u : Value) (ls be : List Dn) (c s f : Int) (w : World) (sl : SlD w v ls) (sb : SlD w u be) (hs : (decide (ls.length ≤ 70) && decide (be.length ≤ 70)) = true) (hv : vldD ls = true) (hn : lrnB ls be c s f = false) : Calls Try.prog 4 #[v, .int .i64 c, .int .i64 s, u, .int .i64 f] w fun e w' => e = .returned (.bool true) ∧ Below w.heap.size w w' := by
  obtain ⟨p, cap, e0, hlc, hcm, hpn⟩ := sl.form ls.length rfl
  subst e0
  have SL := Lib.hid sl
  clear hpn hlc hcm sl
  obtain ⟨p2, cap2, e0, hlc2, hcm2, hpn2⟩ := sb.form be.length rfl
  subst e0
  have SB := Lib.hid sb
  clear hpn2 hlc2 hcm2 sb
  have HS := Lib.hid hs
  have HV := Lib.hid hv
  have h70 : ls.length ≤ 70 := by simp at hs; exact hs.1
  have g70 : be.length ≤ 70 := by simp at hs; exact hs.2
  have HX := Lib.hid (lrX_bad hn)
  clear hs hv hn
  go_enter Try.func4, Try.ntmps4
  go_wp2_with fail
  refine (head_true _).mono ?_
  rintro e w1 ⟨rfl, hb⟩
  replace SL := Lib.hid (SL.out.below hb)
  replace SB := Lib.hid (SB.out.below hb)
  have B := Lib.hid hb
  clear hb
  go_wp2_with fail
  refine (short_lit _ _ ls be true _ SL.out SB.out HS.out).mono ?_
  rintro e w2 ⟨rfl, rfl⟩
  go_wp2_with fail
  refine (rdvalid_lit _ ls true _ SL.out HV.out).mono ?_
  rintro e w3 ⟨rfl, hb⟩
  replace SL := Lib.hid (SL.out.below hb)
  replace SB := Lib.hid (SB.out.below hb)
  replace B := Lib.hid (B.out.trans (hb.mono B.out.size))
  clear hb
  go_wp2_with fail
  refine (learn_lit _ _ ls be c s f [] 1 _ SL.out SB.out h70 g70 HX.out).mono ?_
  rintro e w4 ⟨va, rfl, hs, hb⟩
  have SX := Lib.hid (hs)
  replace SL := Lib.hid (SL.out.below hb)
  replace SB := Lib.hid (SB.out.below hb)
  replace B := Lib.hid (B.out.trans (hb.mono B.out.size))
  clear hb hs
  obtain ⟨p3, cap3, e0, _, _, _⟩ := SX.out.form 0 rfl
  subst e0
  go_wp2_with fail
  go_ret
  exact ⟨rfl, B.out⟩

set_option linter.unusedSimpArgs false in
set_option linter.unusedVariables false in
set_option maxRecDepth 100000 in
set_option maxHeartbeats 2000000 in
theorem valid_good (v u : Value) (ls be : List Dn) (c s f : Int) (w : World) (sl : SlD w v ls) (sb : SlD w u be) (hs : (decide (ls.length ≤ 70) && decide (be.length ≤ 70)) = true) (hv : vldD ls = true) (hn : lrnB ls be c s f = true) : Calls Try.prog 4 #[v, .int .i64 c, .int .i64 s, u, .int .i64 f] w fun e w' => e = .returned (.bool true) ∧ Below w.heap.size w w' := by
  obtain ⟨p, cap, e0, hlc, hcm, hpn⟩ := sl.form ls.length rfl
  subst e0
  have SL := Lib.hid sl
  clear hpn hlc hcm sl
  obtain ⟨p2, cap2, e0, hlc2, hcm2, hpn2⟩ := sb.form be.length rfl
  subst e0
  have SB := Lib.hid sb
  clear hpn2 hlc2 hcm2 sb
  have HS := Lib.hid hs
  have HV := Lib.hid hv
  have h70 : ls.length ≤ 70 := by simp at hs; exact hs.1
  have g70 : be.length ≤ 70 := by simp at hs; exact hs.2
  obtain ⟨xs, hxs⟩ : ∃ xs, lrL ls be c s f = xs := ⟨_, rfl⟩
  have HX := Lib.hid (show lrX ls be c s f = xs ∧ lrE ls be c s f = 0 by rw [← hxs]; exact lrX_good hn)
  have F1 := Lib.hid (show ∀ d ∈ ls, 0 ≤ idxD (fun e => e.t == d.t) xs by intro d hd; rw [← hxs]; exact lrL_keeps hn hd)
  have F2 := Lib.hid (show ∀ d ∈ xs, idxD (fun e => e.t == d.t) ls < 0 → d.t ≠ c → 0 ≤ idxD (fun e => e.t == d.t) be by intro d hd h1 h2; rw [← hxs] at hd; exact lrL_new hd h1 h2)
  have F3 := Lib.hid (show vldD xs = true by rw [← hxs]; exact lrL_valid hn)
  have F4 := Lib.hid (show 0 ≤ idxD (fun e => e.t == c) xs by rw [← hxs]; exact lrL_child hn)
  have hx70 : xs.length ≤ 60 := by rw [← hxs]; exact tgt_len _ 60
  clear hs hv hn hxs
  go_enter Try.func4, Try.ntmps4
  go_wp2_with fail
  refine (head_true _).mono ?_
  rintro e w1 ⟨rfl, hb⟩
  replace SL := Lib.hid (SL.out.below hb)
  replace SB := Lib.hid (SB.out.below hb)
  have B := Lib.hid hb
  clear hb
  go_wp2_with fail
  refine (short_lit _ _ ls be true _ SL.out SB.out HS.out).mono ?_
  rintro e w2 ⟨rfl, rfl⟩
  go_wp2_with fail
  refine (rdvalid_lit _ ls true _ SL.out HV.out).mono ?_
  rintro e w3 ⟨rfl, hb⟩
  replace SL := Lib.hid (SL.out.below hb)
  replace SB := Lib.hid (SB.out.below hb)
  replace B := Lib.hid (B.out.trans (hb.mono B.out.size))
  clear hb
  go_wp2_with fail
  refine (learn_lit _ _ ls be c s f xs 0 _ SL.out SB.out h70 g70 HX.out).mono ?_
  rintro e w4 ⟨va, rfl, hs, hb⟩
  have SX := Lib.hid (hs)
  replace SL := Lib.hid (SL.out.below hb)
  replace SB := Lib.hid (SB.out.below hb)
  replace B := Lib.hid (B.out.trans (hb.mono B.out.size))
  clear hb hs
  obtain ⟨p3, cap3, e0, _, _, _⟩ := SX.out.form xs.length rfl
  subst e0
  go_wp2_with fail
  go_loopw [48] (fun ii wr => ∃ (i : Nat), i ≤ ls.length ∧ ii = .int .i64 i ∧ Below w4.heap.size w4 wr) (fun i _ => ls.length - (intOf i).toNat)
  case atStart => exact ⟨0, by omega, rfl, Below.refl _ _⟩
  case round =>
    obtain ⟨i, hi, rfl, hb⟩ := hrel
    have BL := Lib.hid hb
    clear hb
    have j0 : (0 : Int) ≤ (i : Int) := Int.natCast_nonneg _
    by_cases hlt : i < ls.length
    · obtain ⟨d, b, off, hd, rfl, hbl, _, d0, d1, d2, d3⟩ := SL.out.at4 BL.out hlt
      have j1 : (i : Int) < (ls.length : Int) := by omega
      obtain ⟨k, hk⟩ : ∃ k, idxD (fun e => e.t == d.t) xs = k := ⟨_, rfl⟩
      have HK := Lib.hid hk
      have k0 : 0 ≤ k := by rw [← hk]; exact F1.out d (List.mem_of_getElem? hd)
      have k1 : ¬ k < 0 := by omega
      have SX1 := Lib.hid (SX.out.below BL.out)
      clear hd hk
      go_wp2_with (first | (go_at_call 22; refine (rfind_lit _ xs d.t k _ (SX1.out.below (belowNew _ _)) HK.out).mono ?_; rintro e w5 ⟨rfl, rfl⟩) | fail)
      go_roundw
      case rel => exact ⟨i + 1, by omega, by go_num, BL.out.trans ((belowNew _ _).mono BL.out.size)⟩
      case measure => simp [intOf]; omega
    · obtain rfl : i = ls.length := by omega
      go_wp2_with fail
      go_loopw [60] (fun ii wq => ∃ (i : Nat), i ≤ xs.length ∧ ii = .int .i64 i ∧ Below w4.heap.size w4 wq) (fun i _ => xs.length - (intOf i).toNat)
      case atStart => exact ⟨0, by omega, rfl, BL.out⟩
      case round =>
        clear BL hlt j0 hi
        obtain ⟨i, hi, rfl, hb⟩ := hrel
        have BL := Lib.hid hb
        clear hb
        have j0 : (0 : Int) ≤ (i : Int) := Int.natCast_nonneg _
        by_cases hlt : i < xs.length
        · obtain ⟨d, b, off, hd, rfl, hbl, _, d0, d1, d2, d3⟩ := SX.out.at4 BL.out hlt
          have j1 : (i : Int) < (xs.length : Int) := by omega
          obtain ⟨k, hk⟩ : ∃ k, idxD (fun e => e.t == d.t) ls = k := ⟨_, rfl⟩
          obtain ⟨m, hm⟩ : ∃ m, idxD (fun e => e.t == d.t) be = m := ⟨_, rfl⟩
          have hF := F2.out d (List.mem_of_getElem? hd)
          rw [hk, hm] at hF
          have HK := Lib.hid hk
          have HM := Lib.hid hm
          have SL1 := Lib.hid (SL.out.below BL.out)
          have SB1 := Lib.hid (SB.out.below BL.out)
          have HFF := Lib.hid hF
          clear hd hk hm hF
          by_cases hk0 : k < 0
          · by_cases hc : (d.t == c) = true
            · have hc2 : (d.t != c) = false := by simpa [bne] using hc
              go_wp2_with (first | (go_at_call 22; refine (rfind_lit _ ls d.t k _ (SL1.out.below (belowNew _ _)) HK.out).mono ?_; rintro e w5 ⟨rfl, rfl⟩; clear SL1) | fail)
              go_roundw
              case rel => exact ⟨i + 1, by omega, by go_num, BL.out.trans ((belowNew _ _).mono BL.out.size)⟩
              case measure => simp [intOf]; omega
            · have hc1 : (d.t == c) = false := by simpa using hc
              have hc2 : ¬ d.t = c := by simpa using hc
              have m0 : ¬ m < 0 := by have := HFF.out hk0 hc2; omega
              go_wp2_with (first | (go_at_call 22; refine (rfind_lit _ ls d.t k _ (SL1.out.below (belowNew _ _)) HK.out).mono ?_; rintro e w5 ⟨rfl, rfl⟩; clear SL1) | (go_at_call 22; refine (rfind_lit _ be d.t m _ (SB1.out.below (belowNew _ _)) HM.out).mono ?_; rintro e w5 ⟨rfl, rfl⟩; clear SB1) | fail)
              go_roundw
              case rel => exact ⟨i + 1, by omega, by go_num, BL.out.trans ((belowNew _ _).mono BL.out.size)⟩
              case measure => simp [intOf]; omega
          · go_wp2_with (first | (go_at_call 22; refine (rfind_lit _ ls d.t k _ (SL1.out.below (belowNew _ _)) HK.out).mono ?_; rintro e w5 ⟨rfl, rfl⟩; clear SL1) | fail)
            go_roundw
            case rel => exact ⟨i + 1, by omega, by go_num, BL.out.trans ((belowNew _ _).mono BL.out.size)⟩
            case measure => simp [intOf]; omega
        · obtain rfl : i = xs.length := by omega
          obtain ⟨k, hk⟩ : ∃ k, idxD (fun e => e.t == c) xs = k := ⟨_, rfl⟩
          have k0 : 0 ≤ k := by rw [← hk]; exact F4.out
          have HK := Lib.hid hk
          have SX1 := Lib.hid (SX.out.below BL.out)
          clear hk
          go_wp2_with (first | (go_at_call 21; refine (rdvalid_lit _ xs true _ SX1.out F3.out).mono ?_; rintro e w6 ⟨rfl, hb⟩; have BZ := Lib.hid (BL.out.trans (hb.mono BL.out.size)); have SX2 := Lib.hid (SX1.out.below hb); clear hb) | (go_at_call 22; refine (rfind_lit _ xs c k _ SX2.out HK.out).mono ?_; rintro e w7 ⟨rfl, rfl⟩) | fail)
          go_ret
          exact ⟨ret_bool (by simp; try omega), B.out.trans (BZ.out.mono B.out.size)⟩

theorem downValid_walk (v : Value) (ls : List Dn) (c s : Int) (u : Value) (be : List Dn) (f : Int) (w : World) (sl : SlD w v ls) {q0 q1 q2 q3 q4 : Prop} (_ : q0) (_ : q1) (_ : q2) (sb : SlD w u be) (_ : q3) (_ : q4) :
    Calls Try.prog 4 #[v, .int .i64 c, .int .i64 s, u, .int .i64 f] w fun e w' => e = .returned (.bool true) ∧ Below w.heap.size w w' := by
  cases hs : (decide (ls.length ≤ 70) && decide (be.length ≤ 70)) with
  | false => exact valid_long v u ls be c s f w sl sb hs
  | true =>
    cases hv : vldD ls with
    | false => exact valid_not v u ls be c s f w sl sb hs hv
    | true =>
      cases hn : lrnB ls be c s f with
      | false => exact valid_bad v u ls be c s f w sl sb hs hv hn
      | true => exact valid_good v u ls be c s f w sl sb hs hv hn

end Go.Proofs.Ytheifmdaladfdaa

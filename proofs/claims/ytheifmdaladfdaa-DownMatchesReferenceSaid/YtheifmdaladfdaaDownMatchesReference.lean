/- The walk of DownMatchesReference. -/
import Derived.Test.YtheifmdaladfdaaHead21
namespace Go.Proofs.Ytheifmdaladfdaa
open Go.RowKit

set_option linter.unusedSimpArgs false in
set_option linter.unusedVariables false in
set_option maxRecDepth 100000 in
set_option maxHeartbeats 2000000 in
theorem matches_walk (v u : Value) (ls be : List Dn) (c s f x : Int) (w : World) (sl : SlD w v ls) (sb : SlD w u be) : Calls Try.prog 3 #[v, .int .i64 c, .int .i64 s, u, .int .i64 f, .int .i64 x] w fun e w' => e = .returned (.bool true) ∧ Below w.heap.size w w' := by
  obtain ⟨p, cap, e0, hlc, hcm, hpn⟩ := sl.form ls.length rfl
  subst e0
  obtain ⟨p2, cap2, e0, hlc2, hcm2, hpn2⟩ := sb.form be.length rfl
  subst e0
  have SL := Lib.hid sl
  have SB := Lib.hid sb
  clear sl sb hpn hpn2 hlc hcm hlc2 hcm2
  cases hs : (decide (ls.length ≤ 70) && decide (be.length ≤ 70)) with
  | false =>
    have HS := Lib.hid hs
    clear hs
    go_enter Try.func3, Try.ntmps3
    go_wp2_with fail
    refine (head_true _).mono ?_
    rintro e w1 ⟨rfl, hb⟩
    replace SL := Lib.hid (SL.out.below hb)
    replace SB := Lib.hid (SB.out.below hb)
    have B := Lib.hid hb
    clear hb
    go_wp2_with fail
    refine (short_lit _ _ ls be false _ SL.out SB.out HS.out).mono ?_
    rintro e w2 ⟨rfl, rfl⟩
    go_wp2_with fail
    go_ret
    exact ⟨rfl, B.out⟩
  | true =>
    have HS := Lib.hid hs
    have h70 : ls.length ≤ 70 := by simp at hs; exact hs.1
    have g70 : be.length ≤ 70 := by simp at hs; exact hs.2
    obtain ⟨N, hN⟩ : ∃ N, nxtN ls x = N := ⟨_, rfl⟩
    obtain ⟨Y, hY⟩ : ∃ Y, nxtB ls x = Y := ⟨_, rfl⟩
    obtain ⟨E, hE⟩ : ∃ E, lrE ls be c s f = E := ⟨_, rfl⟩
    obtain ⟨X, hX⟩ : ∃ X, lrX ls be c s f = X := ⟨_, rfl⟩
    have HN := Lib.hid (And.intro hN hY)
    have HE := Lib.hid (And.intro hX hE)
    clear hs hN hY hE hX
    go_enter Try.func3, Try.ntmps3
    go_wp2_with fail
    refine (head_true _).mono ?_
    rintro e w1 ⟨rfl, hb⟩
    replace SL := Lib.hid (SL.out.below hb)
    replace SB := Lib.hid (SB.out.below hb)
    have B := Lib.hid hb
    clear hb
    go_wp2_with fail
    refine (short_lit _ _ ls be true _ SL.out SB.out HS.out).mono ?_
    rintro e w2 ⟨rfl, rfl⟩
    go_wp2_with fail
    refine (learn_lit _ _ ls be c s f _ E _ SL.out SB.out h70 g70 HE.out).mono ?_
    rintro e w3 ⟨va, rfl, hs, hb⟩
    have SA := Lib.hid (hs)
    replace SL := Lib.hid (SL.out.below hb)
    replace SB := Lib.hid (SB.out.below hb)
    replace B := Lib.hid (B.out.trans (hb.mono B.out.size))
    clear hb hs
    go_wp2_with fail
    refine (rlearn_lit _ _ ls be c s f _ E _ SL.out SB.out h70 g70 HE.out).mono ?_
    rintro e w4 ⟨vb, rfl, hs, hb⟩
    have SX := Lib.hid (hs)
    replace SL := Lib.hid (SL.out.below hb)
    replace SA := Lib.hid (SA.out.below hb)
    replace B := Lib.hid (B.out.trans (hb.mono B.out.size))
    clear hb SB hs
    go_wp2_with fail
    refine (dnext_lit _ ls x N Y _ SL.out HN.out).mono ?_
    rintro e w5 ⟨rfl, hb⟩
    replace SL := Lib.hid (SL.out.below hb)
    replace SA := Lib.hid (SA.out.below hb)
    replace SX := Lib.hid (SX.out.below hb)
    replace B := Lib.hid (B.out.trans (hb.mono B.out.size))
    clear hb
    go_wp2_with fail
    refine (rnext_lit _ ls x N Y _ SL.out HN.out).mono ?_
    rintro e w6 ⟨rfl, hb⟩
    replace SL := Lib.hid (SL.out.below hb)
    replace SA := Lib.hid (SA.out.below hb)
    replace SX := Lib.hid (SX.out.below hb)
    replace B := Lib.hid (B.out.trans (hb.mono B.out.size))
    clear hb
    go_wp2_with fail
    refine (same_lit _ _ _ _ true _ SA.out SX.out (sameD_iff.2 rfl)).mono ?_
    rintro e w7 ⟨rfl, hb⟩
    replace SL := Lib.hid (SL.out.below hb)
    replace B := Lib.hid (B.out.trans (hb.mono B.out.size))
    clear hb SA SX
    go_wp2_with fail
    refine (exp_any _ ls f _ SL.out h70).mono ?_
    rintro e w8 ⟨vc, rfl, hs, hb⟩
    have SC := Lib.hid (hs)
    replace SL := Lib.hid (SL.out.below hb)
    replace B := Lib.hid (B.out.trans (hb.mono B.out.size))
    clear hb hs
    go_wp2_with fail
    refine (rexp_any _ ls f _ SL.out h70).mono ?_
    rintro e w9 ⟨vd, rfl, hs, hb⟩
    have SD := Lib.hid (hs)
    replace SL := Lib.hid (SL.out.below hb)
    replace SC := Lib.hid (SC.out.below hb)
    replace B := Lib.hid (B.out.trans (hb.mono B.out.size))
    clear hb hs
    go_wp2_with fail
    refine (same_lit _ _ _ _ true _ SC.out SD.out (sameD_iff.2 rfl)).mono ?_
    rintro e w10 ⟨rfl, hb⟩
    replace SL := Lib.hid (SL.out.below hb)
    replace B := Lib.hid (B.out.trans (hb.mono B.out.size))
    clear hb SC SD
    go_wp2_with fail
    refine (tel_any _ ls _ SL.out h70).mono ?_
    rintro e w11 ⟨vg, rfl, hs, hb⟩
    have SG := Lib.hid (hs)
    replace SL := Lib.hid (SL.out.below hb)
    replace B := Lib.hid (B.out.trans (hb.mono B.out.size))
    clear hb hs
    go_wp2_with fail
    refine (rtel_any _ ls _ SL.out h70).mono ?_
    rintro e w12 ⟨vh, rfl, hs, hb⟩
    have SI := Lib.hid (hs)
    replace SL := Lib.hid (SL.out.below hb)
    replace SG := Lib.hid (SG.out.below hb)
    replace B := Lib.hid (B.out.trans (hb.mono B.out.size))
    clear hb hs
    go_wp2_with fail
    refine (same_lit _ _ _ _ true _ SG.out SI.out (sameD_iff.2 rfl)).mono ?_
    rintro e w13 ⟨rfl, hb⟩
    replace SL := Lib.hid (SL.out.below hb)
    replace B := Lib.hid (B.out.trans (hb.mono B.out.size))
    clear hb SG SI
    go_wp2_with fail
    all_goals (go_ret; exact ⟨ret_bool (by simp), B.out⟩)

theorem downMatchesReference_walk (v : Value) (ls : List Dn) (c s : Int) (u : Value) (be : List Dn) (f x : Int) (w : World) (sl : SlD w v ls) {q0 q1 q2 q3 q4 q5 : Prop} (_ : q0) (_ : q1) (_ : q2) (sb : SlD w u be) (_ : q3) (_ : q4) (_ : q5) :
    Calls Try.prog 3 #[v, .int .i64 c, .int .i64 s, u, .int .i64 f, .int .i64 x] w fun e w' => e = .returned (.bool true) ∧ Below w.heap.size w w' := matches_walk v u ls be c s f x w sl sb

end Go.Proofs.Ytheifmdaladfdaa

/- The walk of head() of the laws of chapter 21. -/
import Derived.Test.YtheifmdaladfdaaCon21
namespace Go.Proofs.Ytheifmdaladfdaa
open Go.RowKit

theorem hl1 : lrX [] [⟨6, 0, 2, 0⟩] 4 7 10 = [⟨4, 4, 7, 13⟩, ⟨6, 4, 2, 13⟩] ∧ lrE [] [⟨6, 0, 2, 0⟩] 4 7 10 = 0 := ⟨by rfl, by rfl⟩
theorem hl2 : lrX [⟨6, 5, 3, 9⟩] [⟨6, 0, 2, 0⟩] 4 7 10 = [⟨4, 4, 7, 13⟩, ⟨6, 5, 3, 9⟩] ∧ lrE [⟨6, 5, 3, 9⟩] [⟨6, 0, 2, 0⟩] 4 7 10 = 0 := ⟨by rfl, by rfl⟩
theorem hl3 : lrX [⟨6, 5, 1, 9⟩] [⟨6, 0, 2, 0⟩] 4 7 10 = [⟨4, 4, 7, 13⟩, ⟨6, 4, 2, 13⟩] ∧ lrE [⟨6, 5, 1, 9⟩] [⟨6, 0, 2, 0⟩] 4 7 10 = 0 := ⟨by rfl, by rfl⟩
theorem hl4 : lrX [] [⟨6, 0, 2, 0⟩] 6 7 10 = [] ∧ lrE [] [⟨6, 0, 2, 0⟩] 6 7 10 = 1 := ⟨by rfl, by rfl⟩
theorem hn6 : nxtN [⟨4, 4, 7, 13⟩, ⟨6, 4, 2, 13⟩] 6 = 4 ∧ nxtB [⟨4, 4, 7, 13⟩, ⟨6, 4, 2, 13⟩] 6 = true := ⟨by rfl, by rfl⟩
theorem hn5 : nxtN [⟨4, 4, 7, 13⟩, ⟨6, 4, 2, 13⟩] 5 = 0 ∧ nxtB [⟨4, 4, 7, 13⟩, ⟨6, 4, 2, 13⟩] 5 = false := ⟨by rfl, by rfl⟩
theorem hex : expL [⟨4, 4, 7, 13⟩, ⟨6, 5, 3, 9⟩] 10 = [⟨4, 4, 7, 13⟩] := by rfl
theorem hte : telL [⟨4, 4, 7, 13⟩, ⟨6, 4, 2, 13⟩] = [⟨4, 0, 7, 0⟩, ⟨6, 0, 2, 0⟩] := by rfl

set_option linter.unusedSimpArgs false in
set_option linter.unusedVariables false in
set_option maxRecDepth 100000 in
set_option maxHeartbeats 2000000 in
theorem head_true (w : World) : Calls Try.prog 10 #[] w fun e w' => e = .returned (.bool true) ∧ Below w.heap.size w w' := by
  go_enter Try.func10, Try.ntmps10
  go_wp2_with fail
  refine (route_any 6 0 2 0 _).mono ?_
  rintro e w1 ⟨rfl, hb⟩
  have B := Lib.hid hb
  clear hb
  go_wp2_with fail
  refine (learn_lit (.slice none 0 0) _ [] [⟨6, 0, 2, 0⟩] 4 7 10 [⟨4, 4, 7, 13⟩, ⟨6, 4, 2, 13⟩] 0 _ (slt_nil _) (built _ [⟨6, 0, 2, 0⟩] _ (by first | rfl | simp) (by decide)) (by decide) (by decide) hl1).mono ?_
  rintro e w2 ⟨va, rfl, hs, hb⟩
  have SIX := Lib.hid ((built _ [⟨6, 0, 2, 0⟩] _ (by first | rfl | simp) (by decide)).below hb)
  have SA := Lib.hid (hs)
  replace hb := below_an hb
  replace B := Lib.hid (B.out.trans (hb.mono B.out.size))
  clear hb hs
  go_wp2_with fail
  refine (route_any 6 5 3 9 _).mono ?_
  rintro e w3 ⟨rfl, hb⟩
  replace SIX := Lib.hid (SIX.out.below hb)
  replace SA := Lib.hid (SA.out.below hb)
  replace B := Lib.hid (B.out.trans (hb.mono B.out.size))
  clear hb
  go_wp2_with fail
  refine (learn_lit _ _ [⟨6, 5, 3, 9⟩] [⟨6, 0, 2, 0⟩] 4 7 10 [⟨4, 4, 7, 13⟩, ⟨6, 5, 3, 9⟩] 0 _ (built _ [⟨6, 5, 3, 9⟩] _ (by first | rfl | simp) (by decide)) (SIX.out.below (belowNew _ _)) (by decide) (by decide) hl2).mono ?_
  rintro e w4 ⟨vb, rfl, hs, hb⟩
  have SB := Lib.hid (hs)
  replace hb := below_an hb
  replace SIX := Lib.hid (SIX.out.below hb)
  replace SA := Lib.hid (SA.out.below hb)
  replace B := Lib.hid (B.out.trans (hb.mono B.out.size))
  clear hb hs
  go_wp2_with fail
  refine (route_any 6 5 1 9 _).mono ?_
  rintro e w5 ⟨rfl, hb⟩
  replace SIX := Lib.hid (SIX.out.below hb)
  replace SA := Lib.hid (SA.out.below hb)
  replace SB := Lib.hid (SB.out.below hb)
  replace B := Lib.hid (B.out.trans (hb.mono B.out.size))
  clear hb
  go_wp2_with fail
  refine (learn_lit _ _ [⟨6, 5, 1, 9⟩] [⟨6, 0, 2, 0⟩] 4 7 10 [⟨4, 4, 7, 13⟩, ⟨6, 4, 2, 13⟩] 0 _ (built _ [⟨6, 5, 1, 9⟩] _ (by first | rfl | simp) (by decide)) (SIX.out.below (belowNew _ _)) (by decide) (by decide) hl3).mono ?_
  rintro e w6 ⟨vc, rfl, hs, hb⟩
  have SC := Lib.hid (hs)
  replace hb := below_an hb
  replace SIX := Lib.hid (SIX.out.below hb)
  replace SA := Lib.hid (SA.out.below hb)
  replace SB := Lib.hid (SB.out.below hb)
  replace B := Lib.hid (B.out.trans (hb.mono B.out.size))
  clear hb hs
  go_wp2_with fail
  refine (learn_lit (.slice none 0 0) _ [] [⟨6, 0, 2, 0⟩] 6 7 10 [] 1 _ (slt_nil _) SIX.out (by decide) (by decide) hl4).mono ?_
  rintro e w7 ⟨vd, rfl, hs, hb⟩
  replace SA := Lib.hid (SA.out.below hb)
  replace SB := Lib.hid (SB.out.below hb)
  replace SC := Lib.hid (SC.out.below hb)
  replace B := Lib.hid (B.out.trans (hb.mono B.out.size))
  clear hb SIX hs
  go_wp2_with fail
  refine (dnext_lit _ [⟨4, 4, 7, 13⟩, ⟨6, 4, 2, 13⟩] 6 4 true _ SC.out hn6).mono ?_
  rintro e w8 ⟨rfl, hb⟩
  replace SA := Lib.hid (SA.out.below hb)
  replace SB := Lib.hid (SB.out.below hb)
  replace SC := Lib.hid (SC.out.below hb)
  replace B := Lib.hid (B.out.trans (hb.mono B.out.size))
  clear hb
  go_wp2_with fail
  refine (dnext_lit _ [⟨4, 4, 7, 13⟩, ⟨6, 4, 2, 13⟩] 5 0 false _ SC.out hn5).mono ?_
  rintro e w9 ⟨rfl, hb⟩
  replace SA := Lib.hid (SA.out.below hb)
  replace SB := Lib.hid (SB.out.below hb)
  replace SC := Lib.hid (SC.out.below hb)
  replace B := Lib.hid (B.out.trans (hb.mono B.out.size))
  clear hb
  go_wp2_with fail
  refine (route_any 4 4 7 13 _).mono ?_
  rintro e w10 ⟨rfl, hb⟩
  replace SA := Lib.hid (SA.out.below hb)
  replace SB := Lib.hid (SB.out.below hb)
  replace SC := Lib.hid (SC.out.below hb)
  replace B := Lib.hid (B.out.trans (hb.mono B.out.size))
  clear hb
  go_wp2_with fail
  refine (route_any 6 4 2 13 _).mono ?_
  rintro e w11 ⟨rfl, hb⟩
  replace SA := Lib.hid (SA.out.below hb)
  replace SB := Lib.hid (SB.out.below hb)
  replace SC := Lib.hid (SC.out.below hb)
  replace B := Lib.hid (B.out.trans (hb.mono B.out.size))
  clear hb
  go_wp2_with fail
  refine (same_lit _ _ [⟨4, 4, 7, 13⟩, ⟨6, 4, 2, 13⟩] [⟨4, 4, 7, 13⟩, ⟨6, 4, 2, 13⟩] true _ (SA.out.below (belowNew _ _)) (built _ [⟨4, 4, 7, 13⟩, ⟨6, 4, 2, 13⟩] _ (by first | rfl | simp) (by decide)) (by rfl)).mono ?_
  rintro e w12 ⟨rfl, hb⟩
  replace hb := below_an hb
  replace SA := Lib.hid (SA.out.below hb)
  replace SB := Lib.hid (SB.out.below hb)
  replace SC := Lib.hid (SC.out.below hb)
  replace B := Lib.hid (B.out.trans (hb.mono B.out.size))
  clear hb
  go_wp2_with fail
  refine (route_any 4 4 7 13 _).mono ?_
  rintro e w13 ⟨rfl, hb⟩
  replace SA := Lib.hid (SA.out.below hb)
  replace SB := Lib.hid (SB.out.below hb)
  replace SC := Lib.hid (SC.out.below hb)
  replace B := Lib.hid (B.out.trans (hb.mono B.out.size))
  clear hb
  go_wp2_with fail
  refine (route_any 6 5 3 9 _).mono ?_
  rintro e w14 ⟨rfl, hb⟩
  replace SA := Lib.hid (SA.out.below hb)
  replace SB := Lib.hid (SB.out.below hb)
  replace SC := Lib.hid (SC.out.below hb)
  replace B := Lib.hid (B.out.trans (hb.mono B.out.size))
  clear hb
  go_wp2_with fail
  refine (same_lit _ _ [⟨4, 4, 7, 13⟩, ⟨6, 5, 3, 9⟩] [⟨4, 4, 7, 13⟩, ⟨6, 5, 3, 9⟩] true _ (SB.out.below (belowNew _ _)) (built _ [⟨4, 4, 7, 13⟩, ⟨6, 5, 3, 9⟩] _ (by first | rfl | simp) (by decide)) (by rfl)).mono ?_
  rintro e w15 ⟨rfl, hb⟩
  replace hb := below_an hb
  replace SA := Lib.hid (SA.out.below hb)
  replace SB := Lib.hid (SB.out.below hb)
  replace SC := Lib.hid (SC.out.below hb)
  replace B := Lib.hid (B.out.trans (hb.mono B.out.size))
  clear hb
  go_wp2_with fail
  refine (same_lit _ _ [⟨4, 4, 7, 13⟩, ⟨6, 4, 2, 13⟩] [⟨4, 4, 7, 13⟩, ⟨6, 4, 2, 13⟩] true _ SC.out SA.out (by rfl)).mono ?_
  rintro e w16 ⟨rfl, hb⟩
  replace SA := Lib.hid (SA.out.below hb)
  replace SB := Lib.hid (SB.out.below hb)
  replace B := Lib.hid (B.out.trans (hb.mono B.out.size))
  clear hb SC
  go_wp2_with fail
  refine (exp_lit _ [⟨4, 4, 7, 13⟩, ⟨6, 5, 3, 9⟩] 10 [⟨4, 4, 7, 13⟩] _ SB.out (by decide) hex).mono ?_
  rintro e w17 ⟨ve, rfl, hs, hb⟩
  have SE := Lib.hid (hs)
  replace SA := Lib.hid (SA.out.below hb)
  replace B := Lib.hid (B.out.trans (hb.mono B.out.size))
  clear hb SB hs
  go_wp2_with fail
  refine (route_any 4 4 7 13 _).mono ?_
  rintro e w18 ⟨rfl, hb⟩
  replace SA := Lib.hid (SA.out.below hb)
  replace SE := Lib.hid (SE.out.below hb)
  replace B := Lib.hid (B.out.trans (hb.mono B.out.size))
  clear hb
  go_wp2_with fail
  refine (same_lit _ _ [⟨4, 4, 7, 13⟩] [⟨4, 4, 7, 13⟩] true _ (SE.out.below (belowNew _ _)) (built _ [⟨4, 4, 7, 13⟩] _ (by first | rfl | simp) (by decide)) (by rfl)).mono ?_
  rintro e w19 ⟨rfl, hb⟩
  replace hb := below_an hb
  replace SA := Lib.hid (SA.out.below hb)
  replace B := Lib.hid (B.out.trans (hb.mono B.out.size))
  clear hb SE
  go_wp2_with fail
  refine (tel_lit _ [⟨4, 4, 7, 13⟩, ⟨6, 4, 2, 13⟩] [⟨4, 0, 7, 0⟩, ⟨6, 0, 2, 0⟩] _ SA.out (by decide) hte).mono ?_
  rintro e w20 ⟨vt, rfl, hs, hb⟩
  have ST := Lib.hid (hs)
  replace B := Lib.hid (B.out.trans (hb.mono B.out.size))
  clear hb SA hs
  go_wp2_with fail
  refine (route_any 4 0 7 0 _).mono ?_
  rintro e w21 ⟨rfl, hb⟩
  replace ST := Lib.hid (ST.out.below hb)
  replace B := Lib.hid (B.out.trans (hb.mono B.out.size))
  clear hb
  go_wp2_with fail
  refine (route_any 6 0 2 0 _).mono ?_
  rintro e w22 ⟨rfl, hb⟩
  replace ST := Lib.hid (ST.out.below hb)
  replace B := Lib.hid (B.out.trans (hb.mono B.out.size))
  clear hb
  go_wp2_with fail
  refine (same_lit _ _ [⟨4, 0, 7, 0⟩, ⟨6, 0, 2, 0⟩] [⟨4, 0, 7, 0⟩, ⟨6, 0, 2, 0⟩] true _ (ST.out.below (belowNew _ _)) (built _ [⟨4, 0, 7, 0⟩, ⟨6, 0, 2, 0⟩] _ (by first | rfl | simp) (by decide)) (by rfl)).mono ?_
  rintro e w23 ⟨rfl, hb⟩
  replace hb := below_an hb
  replace B := Lib.hid (B.out.trans (hb.mono B.out.size))
  clear hb ST
  go_wp2_with fail
  go_ret
  exact ⟨rfl, B.out⟩

end Go.Proofs.Ytheifmdaladfdaa

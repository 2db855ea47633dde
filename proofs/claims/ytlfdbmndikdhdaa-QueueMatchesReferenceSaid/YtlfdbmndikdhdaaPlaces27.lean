/- QueuePlaces: the walk of the law, way by way. -/
import Derived.Test.YtlfdbmndikdhdaaHead27
import Derived.Test.YtlfdbmndikdhdaaOpen27
namespace Go.Proofs.Ytlfdbmndikdhdaa
open Go.RowKit

theorem short_lit (v : Value) (rs : List Rd) (x : Bool) (w : World) (sl : SlR w v rs) (h : decide (rs.length ≤ 40) = x) :
    Calls Try.prog 10 #[.agg #[v]] w fun e w' => e = .returned (.bool x) ∧ Below w.heap.size w w' := by
  have := short_any v rs w sl
  rwa [h] at this

set_option linter.unusedVariables false in
set_option maxRecDepth 100000 in
set_option maxHeartbeats 2000000 in
theorem places_long (v : Value) (rs : List Rd) (r : Rd) (me : Int) (w : World) (sl : SlR w v rs) (hs : decide (rs.length ≤ 40) = false) :
    Calls Try.prog 6 #[.agg #[v], .agg #[.int .i64 r.o, .int .i64 r.n, .int .i64 r.k, .int .i64 r.v, .int .i64 r.a], .int .i64 me] w fun e w' => e = .returned (.bool true) ∧ Below w.heap.size w w' := by
  obtain ⟨p, cap, rfl, hlc, hcm, parts⟩ := sl
  have SL0 := Lib.hid (show SlR w (.slice p rs.length cap) rs from ⟨p, cap, rfl, hlc, hcm, parts⟩)
  unfold maxLen at hcm
  clear parts
  have HS := Lib.hid hs
  clear hs
  go_enter Try.func6, Try.ntmps6
  go_wp2_with fail
  refine (head_true _).mono ?_
  rintro e w1 ⟨rfl, hb⟩
  have oQ : Own w1 w.heap.size [.slice p rs.length cap] 24 := ((own_at _ _ rfl).alloc _).below hb
  have oR : Own w1 (w.heap.size + 1) [.int .i64 r.o, .int .i64 r.n, .int .i64 r.k, .int .i64 r.v, .int .i64 r.a] 26 := (own_at _ _ (by simp)).below hb
  have bel := belowTo (((Below.refl w.heap.size w).alloc (by simp) _).alloc (by simp) _) hb (by simp; omega)
  clear hb 
  obtain ⟨cQ0, fQ, zQ⟩ := own1 oQ
  obtain ⟨cR0, cR1, cR2, cR3, cR4, fR, zR⟩ := own5r oR
  have SL1 := Lib.hid (SL0.out.below bel)
  go_wp2_with fail
  refine (short_lit (.slice p rs.length cap) rs false _ SL1.out HS.out).mono ?_
  rintro e w2 ⟨rfl, hb⟩
  replace oQ := oQ.below hb
  replace oR := oR.below hb
  replace bel := belowTo bel hb (by exact bel.size)
  clear hb cQ0 fQ zQ cR0 cR1 cR2 cR3 cR4 fR zR
  obtain ⟨cQ0, fQ, zQ⟩ := own1 oQ
  obtain ⟨cR0, cR1, cR2, cR3, cR4, fR, zR⟩ := own5r oR
  have SL2 := Lib.hid (SL0.out.below bel)
  go_wp2
  all_goals (go_ret; refine ⟨ret_bool (by simp <;> omega), ?_⟩)
  all_goals (repeat (first | (with_reducible exact bel) | (with_reducible refine belowSet ?_ _ _ _ ?_) | (with_reducible refine Below.drew ?_) | (with_reducible refine Below.alloc ?_ ?_ _)))
  all_goals (first | omega | (simp; omega) | (have := bel.size; simp; omega))

set_option linter.unusedVariables false in
set_option maxRecDepth 100000 in
set_option maxHeartbeats 2000000 in
theorem places_bad (v : Value) (rs : List Rd) (r : Rd) (me : Int) (w : World) (sl : SlR w v rs) (hs : decide (rs.length ≤ 40) = true) (hv : vdB rs = false) :
    Calls Try.prog 6 #[.agg #[v], .agg #[.int .i64 r.o, .int .i64 r.n, .int .i64 r.k, .int .i64 r.v, .int .i64 r.a], .int .i64 me] w fun e w' => e = .returned (.bool true) ∧ Below w.heap.size w w' := by
  obtain ⟨p, cap, rfl, hlc, hcm, parts⟩ := sl
  have SL0 := Lib.hid (show SlR w (.slice p rs.length cap) rs from ⟨p, cap, rfl, hlc, hcm, parts⟩)
  unfold maxLen at hcm
  clear parts
  have HS := Lib.hid hs
  clear hs
  have HV := Lib.hid hv
  clear hv
  go_enter Try.func6, Try.ntmps6
  go_wp2_with fail
  refine (head_true _).mono ?_
  rintro e w1 ⟨rfl, hb⟩
  have oQ : Own w1 w.heap.size [.slice p rs.length cap] 24 := ((own_at _ _ rfl).alloc _).below hb
  have oR : Own w1 (w.heap.size + 1) [.int .i64 r.o, .int .i64 r.n, .int .i64 r.k, .int .i64 r.v, .int .i64 r.a] 26 := (own_at _ _ (by simp)).below hb
  have bel := belowTo (((Below.refl w.heap.size w).alloc (by simp) _).alloc (by simp) _) hb (by simp; omega)
  clear hb 
  obtain ⟨cQ0, fQ, zQ⟩ := own1 oQ
  obtain ⟨cR0, cR1, cR2, cR3, cR4, fR, zR⟩ := own5r oR
  have SL1 := Lib.hid (SL0.out.below bel)
  go_wp2_with fail
  refine (short_lit (.slice p rs.length cap) rs true _ SL1.out HS.out).mono ?_
  rintro e w2 ⟨rfl, hb⟩
  replace oQ := oQ.below hb
  replace oR := oR.below hb
  replace bel := belowTo bel hb (by exact bel.size)
  clear hb cQ0 fQ zQ cR0 cR1 cR2 cR3 cR4 fR zR
  obtain ⟨cQ0, fQ, zQ⟩ := own1 oQ
  obtain ⟨cR0, cR1, cR2, cR3, cR4, fR, zR⟩ := own5r oR
  have SL2 := Lib.hid (SL0.out.below bel)
  go_wp2_with fail
  refine (rqvalid_lit (.slice p rs.length cap) rs false _ SL2.out HV.out).mono ?_
  rintro e w3 ⟨rfl, hb⟩
  replace oQ := oQ.below hb
  replace oR := oR.below hb
  replace bel := belowTo bel hb (by exact bel.size)
  clear hb cQ0 fQ zQ cR0 cR1 cR2 cR3 cR4 fR zR
  obtain ⟨cQ0, fQ, zQ⟩ := own1 oQ
  obtain ⟨cR0, cR1, cR2, cR3, cR4, fR, zR⟩ := own5r oR
  have SL3 := Lib.hid (SL0.out.below bel)
  go_wp2
  all_goals (go_ret; refine ⟨ret_bool (by simp <;> omega), ?_⟩)
  all_goals (repeat (first | (with_reducible exact bel) | (with_reducible refine belowSet ?_ _ _ _ ?_) | (with_reducible refine Below.drew ?_) | (with_reducible refine Below.alloc ?_ ?_ _)))
  all_goals (first | omega | (simp; omega) | (have := bel.size; simp; omega))

set_option linter.unusedVariables false in
set_option maxRecDepth 100000 in
set_option maxHeartbeats 2000000 in
theorem places_form (v : Value) (rs : List Rd) (r : Rd) (me : Int) (w : World) (sl : SlR w v rs) (hs : decide (rs.length ≤ 40) = true) (hv : vdB rs = true) (hf : fmB r = false) :
    Calls Try.prog 6 #[.agg #[v], .agg #[.int .i64 r.o, .int .i64 r.n, .int .i64 r.k, .int .i64 r.v, .int .i64 r.a], .int .i64 me] w fun e w' => e = .returned (.bool true) ∧ Below w.heap.size w w' := by
  obtain ⟨p, cap, rfl, hlc, hcm, parts⟩ := sl
  have SL0 := Lib.hid (show SlR w (.slice p rs.length cap) rs from ⟨p, cap, rfl, hlc, hcm, parts⟩)
  unfold maxLen at hcm
  clear parts
  have HS := Lib.hid hs
  clear hs
  have HV := Lib.hid hv
  clear hv
  have HF := Lib.hid hf
  clear hf
  go_enter Try.func6, Try.ntmps6
  go_wp2_with fail
  refine (head_true _).mono ?_
  rintro e w1 ⟨rfl, hb⟩
  have oQ : Own w1 w.heap.size [.slice p rs.length cap] 24 := ((own_at _ _ rfl).alloc _).below hb
  have oR : Own w1 (w.heap.size + 1) [.int .i64 r.o, .int .i64 r.n, .int .i64 r.k, .int .i64 r.v, .int .i64 r.a] 26 := (own_at _ _ (by simp)).below hb
  have bel := belowTo (((Below.refl w.heap.size w).alloc (by simp) _).alloc (by simp) _) hb (by simp; omega)
  clear hb 
  obtain ⟨cQ0, fQ, zQ⟩ := own1 oQ
  obtain ⟨cR0, cR1, cR2, cR3, cR4, fR, zR⟩ := own5r oR
  have SL1 := Lib.hid (SL0.out.below bel)
  go_wp2_with fail
  refine (short_lit (.slice p rs.length cap) rs true _ SL1.out HS.out).mono ?_
  rintro e w2 ⟨rfl, hb⟩
  replace oQ := oQ.below hb
  replace oR := oR.below hb
  replace bel := belowTo bel hb (by exact bel.size)
  clear hb cQ0 fQ zQ cR0 cR1 cR2 cR3 cR4 fR zR
  obtain ⟨cQ0, fQ, zQ⟩ := own1 oQ
  obtain ⟨cR0, cR1, cR2, cR3, cR4, fR, zR⟩ := own5r oR
  have SL2 := Lib.hid (SL0.out.below bel)
  go_wp2_with fail
  refine (rqvalid_lit (.slice p rs.length cap) rs true _ SL2.out HV.out).mono ?_
  rintro e w3 ⟨rfl, hb⟩
  replace oQ := oQ.below hb
  replace oR := oR.below hb
  replace bel := belowTo bel hb (by exact bel.size)
  clear hb cQ0 fQ zQ cR0 cR1 cR2 cR3 cR4 fR zR
  obtain ⟨cQ0, fQ, zQ⟩ := own1 oQ
  obtain ⟨cR0, cR1, cR2, cR3, cR4, fR, zR⟩ := own5r oR
  have SL3 := Lib.hid (SL0.out.below bel)
  go_wp2_with fail
  refine (rformed_lit r (x := false) _ HF.out).mono ?_
  rintro e w4 ⟨rfl, hb⟩
  replace oQ := oQ.below hb
  replace oR := oR.below hb
  replace bel := belowTo bel hb (by exact bel.size)
  clear hb cQ0 fQ zQ cR0 cR1 cR2 cR3 cR4 fR zR
  obtain ⟨cQ0, fQ, zQ⟩ := own1 oQ
  obtain ⟨cR0, cR1, cR2, cR3, cR4, fR, zR⟩ := own5r oR
  have SL4 := Lib.hid (SL0.out.below bel)
  go_wp2
  all_goals (go_ret; refine ⟨ret_bool (by simp <;> omega), ?_⟩)
  all_goals (repeat (first | (with_reducible exact bel) | (with_reducible refine belowSet ?_ _ _ _ ?_) | (with_reducible refine Below.drew ?_) | (with_reducible refine Below.alloc ?_ ?_ _)))
  all_goals (first | omega | (simp; omega) | (have := bel.size; simp; omega))

set_option linter.unusedVariables false in
set_option maxRecDepth 100000 in
set_option maxHeartbeats 2000000 in
theorem places_neg (v : Value) (rs : List Rd) (r : Rd) (me : Int) (w : World) (sl : SlR w v rs) (hs : decide (rs.length ≤ 40) = true) (hv : vdB rs = true) (hf : fmB r = true) (hm : me < 0) :
    Calls Try.prog 6 #[.agg #[v], .agg #[.int .i64 r.o, .int .i64 r.n, .int .i64 r.k, .int .i64 r.v, .int .i64 r.a], .int .i64 me] w fun e w' => e = .returned (.bool true) ∧ Below w.heap.size w w' := by
  obtain ⟨p, cap, rfl, hlc, hcm, parts⟩ := sl
  have SL0 := Lib.hid (show SlR w (.slice p rs.length cap) rs from ⟨p, cap, rfl, hlc, hcm, parts⟩)
  unfold maxLen at hcm
  clear parts
  have HS := Lib.hid hs
  clear hs
  have HV := Lib.hid hv
  clear hv
  have HF := Lib.hid hf
  clear hf
  go_enter Try.func6, Try.ntmps6
  go_wp2_with fail
  refine (head_true _).mono ?_
  rintro e w1 ⟨rfl, hb⟩
  have oQ : Own w1 w.heap.size [.slice p rs.length cap] 24 := ((own_at _ _ rfl).alloc _).below hb
  have oR : Own w1 (w.heap.size + 1) [.int .i64 r.o, .int .i64 r.n, .int .i64 r.k, .int .i64 r.v, .int .i64 r.a] 26 := (own_at _ _ (by simp)).below hb
  have bel := belowTo (((Below.refl w.heap.size w).alloc (by simp) _).alloc (by simp) _) hb (by simp; omega)
  clear hb 
  obtain ⟨cQ0, fQ, zQ⟩ := own1 oQ
  obtain ⟨cR0, cR1, cR2, cR3, cR4, fR, zR⟩ := own5r oR
  have SL1 := Lib.hid (SL0.out.below bel)
  go_wp2_with fail
  refine (short_lit (.slice p rs.length cap) rs true _ SL1.out HS.out).mono ?_
  rintro e w2 ⟨rfl, hb⟩
  replace oQ := oQ.below hb
  replace oR := oR.below hb
  replace bel := belowTo bel hb (by exact bel.size)
  clear hb cQ0 fQ zQ cR0 cR1 cR2 cR3 cR4 fR zR
  obtain ⟨cQ0, fQ, zQ⟩ := own1 oQ
  obtain ⟨cR0, cR1, cR2, cR3, cR4, fR, zR⟩ := own5r oR
  have SL2 := Lib.hid (SL0.out.below bel)
  go_wp2_with fail
  refine (rqvalid_lit (.slice p rs.length cap) rs true _ SL2.out HV.out).mono ?_
  rintro e w3 ⟨rfl, hb⟩
  replace oQ := oQ.below hb
  replace oR := oR.below hb
  replace bel := belowTo bel hb (by exact bel.size)
  clear hb cQ0 fQ zQ cR0 cR1 cR2 cR3 cR4 fR zR
  obtain ⟨cQ0, fQ, zQ⟩ := own1 oQ
  obtain ⟨cR0, cR1, cR2, cR3, cR4, fR, zR⟩ := own5r oR
  have SL3 := Lib.hid (SL0.out.below bel)
  go_wp2_with fail
  refine (rformed_lit r (x := true) _ HF.out).mono ?_
  rintro e w4 ⟨rfl, hb⟩
  replace oQ := oQ.below hb
  replace oR := oR.below hb
  replace bel := belowTo bel hb (by exact bel.size)
  clear hb cQ0 fQ zQ cR0 cR1 cR2 cR3 cR4 fR zR
  obtain ⟨cQ0, fQ, zQ⟩ := own1 oQ
  obtain ⟨cR0, cR1, cR2, cR3, cR4, fR, zR⟩ := own5r oR
  have SL4 := Lib.hid (SL0.out.below bel)
  go_wp2
  all_goals (go_ret; refine ⟨ret_bool (by simp <;> omega), ?_⟩)
  all_goals (repeat (first | (with_reducible exact bel) | (with_reducible refine belowSet ?_ _ _ _ ?_) | (with_reducible refine Below.drew ?_) | (with_reducible refine Below.alloc ?_ ?_ _)))
  all_goals (first | omega | (simp; omega) | (have := bel.size; simp; omega))

set_option linter.unusedVariables false in
set_option maxRecDepth 100000 in
set_option maxHeartbeats 2000000 in
theorem places_far (v : Value) (rs : List Rd) (r : Rd) (me : Int) (w : World) (sl : SlR w v rs) (hs : decide (rs.length ≤ 40) = true) (hv : vdB rs = true) (hf : fmB r = true) (hm0 : 0 ≤ me) (hm : 60 ≤ me) :
    Calls Try.prog 6 #[.agg #[v], .agg #[.int .i64 r.o, .int .i64 r.n, .int .i64 r.k, .int .i64 r.v, .int .i64 r.a], .int .i64 me] w fun e w' => e = .returned (.bool true) ∧ Below w.heap.size w w' := by
  obtain ⟨p, cap, rfl, hlc, hcm, parts⟩ := sl
  have SL0 := Lib.hid (show SlR w (.slice p rs.length cap) rs from ⟨p, cap, rfl, hlc, hcm, parts⟩)
  unfold maxLen at hcm
  clear parts
  have HS := Lib.hid hs
  clear hs
  have HV := Lib.hid hv
  clear hv
  have HF := Lib.hid hf
  clear hf
  go_enter Try.func6, Try.ntmps6
  go_wp2_with fail
  refine (head_true _).mono ?_
  rintro e w1 ⟨rfl, hb⟩
  have oQ : Own w1 w.heap.size [.slice p rs.length cap] 24 := ((own_at _ _ rfl).alloc _).below hb
  have oR : Own w1 (w.heap.size + 1) [.int .i64 r.o, .int .i64 r.n, .int .i64 r.k, .int .i64 r.v, .int .i64 r.a] 26 := (own_at _ _ (by simp)).below hb
  have bel := belowTo (((Below.refl w.heap.size w).alloc (by simp) _).alloc (by simp) _) hb (by simp; omega)
  clear hb 
  obtain ⟨cQ0, fQ, zQ⟩ := own1 oQ
  obtain ⟨cR0, cR1, cR2, cR3, cR4, fR, zR⟩ := own5r oR
  have SL1 := Lib.hid (SL0.out.below bel)
  go_wp2_with fail
  refine (short_lit (.slice p rs.length cap) rs true _ SL1.out HS.out).mono ?_
  rintro e w2 ⟨rfl, hb⟩
  replace oQ := oQ.below hb
  replace oR := oR.below hb
  replace bel := belowTo bel hb (by exact bel.size)
  clear hb cQ0 fQ zQ cR0 cR1 cR2 cR3 cR4 fR zR
  obtain ⟨cQ0, fQ, zQ⟩ := own1 oQ
  obtain ⟨cR0, cR1, cR2, cR3, cR4, fR, zR⟩ := own5r oR
  have SL2 := Lib.hid (SL0.out.below bel)
  go_wp2_with fail
  refine (rqvalid_lit (.slice p rs.length cap) rs true _ SL2.out HV.out).mono ?_
  rintro e w3 ⟨rfl, hb⟩
  replace oQ := oQ.below hb
  replace oR := oR.below hb
  replace bel := belowTo bel hb (by exact bel.size)
  clear hb cQ0 fQ zQ cR0 cR1 cR2 cR3 cR4 fR zR
  obtain ⟨cQ0, fQ, zQ⟩ := own1 oQ
  obtain ⟨cR0, cR1, cR2, cR3, cR4, fR, zR⟩ := own5r oR
  have SL3 := Lib.hid (SL0.out.below bel)
  go_wp2_with fail
  refine (rformed_lit r (x := true) _ HF.out).mono ?_
  rintro e w4 ⟨rfl, hb⟩
  replace oQ := oQ.below hb
  replace oR := oR.below hb
  replace bel := belowTo bel hb (by exact bel.size)
  clear hb cQ0 fQ zQ cR0 cR1 cR2 cR3 cR4 fR zR
  obtain ⟨cQ0, fQ, zQ⟩ := own1 oQ
  obtain ⟨cR0, cR1, cR2, cR3, cR4, fR, zR⟩ := own5r oR
  have SL4 := Lib.hid (SL0.out.below bel)
  go_wp2
  all_goals (go_ret; refine ⟨ret_bool (by simp <;> omega), ?_⟩)
  all_goals (repeat (first | (with_reducible exact bel) | (with_reducible refine belowSet ?_ _ _ _ ?_) | (with_reducible refine Below.drew ?_) | (with_reducible refine Below.alloc ?_ ?_ _)))
  all_goals (first | omega | (simp; omega) | (have := bel.size; simp; omega))

set_option linter.unusedVariables false in
set_option maxRecDepth 100000 in
set_option maxHeartbeats 2000000 in
theorem places_in (v : Value) (rs : List Rd) (r : Rd) (me : Int) (w : World) (sl : SlR w v rs) (hs : decide (rs.length ≤ 40) = true) (hv : vdB rs = true) (hf : fmB r = true) (hm0 : 0 ≤ me) (hm : me < 60) (F : Int) (hd : fnd r.o r.n rs = F) (h0 : 0 ≤ F) :
    Calls Try.prog 6 #[.agg #[v], .agg #[.int .i64 r.o, .int .i64 r.n, .int .i64 r.k, .int .i64 r.v, .int .i64 r.a], .int .i64 me] w fun e w' => e = .returned (.bool true) ∧ Below w.heap.size w w' := by
  obtain ⟨p, cap, rfl, hlc, hcm, parts⟩ := sl
  have SL0 := Lib.hid (show SlR w (.slice p rs.length cap) rs from ⟨p, cap, rfl, hlc, hcm, parts⟩)
  unfold maxLen at hcm
  clear parts
  have HS := Lib.hid hs
  clear hs
  have HV := Lib.hid hv
  clear hv
  have HF := Lib.hid hf
  clear hf
  have HD := Lib.hid hd
  clear hd
  go_enter Try.func6, Try.ntmps6
  go_wp2_with fail
  refine (head_true _).mono ?_
  rintro e w1 ⟨rfl, hb⟩
  have oQ : Own w1 w.heap.size [.slice p rs.length cap] 24 := ((own_at _ _ rfl).alloc _).below hb
  have oR : Own w1 (w.heap.size + 1) [.int .i64 r.o, .int .i64 r.n, .int .i64 r.k, .int .i64 r.v, .int .i64 r.a] 26 := (own_at _ _ (by simp)).below hb
  have bel := belowTo (((Below.refl w.heap.size w).alloc (by simp) _).alloc (by simp) _) hb (by simp; omega)
  clear hb 
  obtain ⟨cQ0, fQ, zQ⟩ := own1 oQ
  obtain ⟨cR0, cR1, cR2, cR3, cR4, fR, zR⟩ := own5r oR
  have SL1 := Lib.hid (SL0.out.below bel)
  go_wp2_with fail
  refine (short_lit (.slice p rs.length cap) rs true _ SL1.out HS.out).mono ?_
  rintro e w2 ⟨rfl, hb⟩
  replace oQ := oQ.below hb
  replace oR := oR.below hb
  replace bel := belowTo bel hb (by exact bel.size)
  clear hb cQ0 fQ zQ cR0 cR1 cR2 cR3 cR4 fR zR
  obtain ⟨cQ0, fQ, zQ⟩ := own1 oQ
  obtain ⟨cR0, cR1, cR2, cR3, cR4, fR, zR⟩ := own5r oR
  have SL2 := Lib.hid (SL0.out.below bel)
  go_wp2_with fail
  refine (rqvalid_lit (.slice p rs.length cap) rs true _ SL2.out HV.out).mono ?_
  rintro e w3 ⟨rfl, hb⟩
  replace oQ := oQ.below hb
  replace oR := oR.below hb
  replace bel := belowTo bel hb (by exact bel.size)
  clear hb cQ0 fQ zQ cR0 cR1 cR2 cR3 cR4 fR zR
  obtain ⟨cQ0, fQ, zQ⟩ := own1 oQ
  obtain ⟨cR0, cR1, cR2, cR3, cR4, fR, zR⟩ := own5r oR
  have SL3 := Lib.hid (SL0.out.below bel)
  go_wp2_with fail
  refine (rformed_lit r (x := true) _ HF.out).mono ?_
  rintro e w4 ⟨rfl, hb⟩
  replace oQ := oQ.below hb
  replace oR := oR.below hb
  replace bel := belowTo bel hb (by exact bel.size)
  clear hb cQ0 fQ zQ cR0 cR1 cR2 cR3 cR4 fR zR
  obtain ⟨cQ0, fQ, zQ⟩ := own1 oQ
  obtain ⟨cR0, cR1, cR2, cR3, cR4, fR, zR⟩ := own5r oR
  have SL4 := Lib.hid (SL0.out.below bel)
  go_wp2_with fail
  refine (rfind_lit (.slice p rs.length cap) rs r.o r.n F _ SL4.out HD.out).mono ?_
  rintro e w5 ⟨rfl, hb⟩
  replace oQ := oQ.below hb
  replace oR := oR.below hb
  replace bel := belowTo bel hb (by exact bel.size)
  clear hb cQ0 fQ zQ cR0 cR1 cR2 cR3 cR4 fR zR
  obtain ⟨cQ0, fQ, zQ⟩ := own1 oQ
  obtain ⟨cR0, cR1, cR2, cR3, cR4, fR, zR⟩ := own5r oR
  have SL5 := Lib.hid (SL0.out.below bel)
  go_wp2
  all_goals (go_ret; refine ⟨ret_bool (by simp <;> omega), ?_⟩)
  all_goals (repeat (first | (with_reducible exact bel) | (with_reducible refine belowSet ?_ _ _ _ ?_) | (with_reducible refine Below.drew ?_) | (with_reducible refine Below.alloc ?_ ?_ _)))
  all_goals (first | omega | (simp; omega) | (have := bel.size; simp; omega))

set_option linter.unusedVariables false in
set_option maxRecDepth 100000 in
set_option maxHeartbeats 2000000 in
theorem places_a (v : Value) (rs : List Rd) (r : Rd) (me : Int) (w : World) (sl : SlR w v rs) (hs : decide (rs.length ≤ 40) = true) (hv : vdB rs = true) (hf : fmB r = true) (hm0 : 0 ≤ me) (hm : me < 60) (F : Int) (hd : fnd r.o r.n rs = F) (h0 : F < 0) (ho : (r.o == me) = true) (hl : (rs.length : Int) < 12) (he : putE rs r me = 0) :
    Calls Try.prog 6 #[.agg #[v], .agg #[.int .i64 r.o, .int .i64 r.n, .int .i64 r.k, .int .i64 r.v, .int .i64 r.a], .int .i64 me] w fun e w' => e = .returned (.bool true) ∧ Below w.heap.size w w' := by
  obtain ⟨p, cap, rfl, hlc, hcm, parts⟩ := sl
  have SL0 := Lib.hid (show SlR w (.slice p rs.length cap) rs from ⟨p, cap, rfl, hlc, hcm, parts⟩)
  unfold maxLen at hcm
  clear parts
  have HS := Lib.hid hs
  clear hs
  have HV := Lib.hid hv
  clear hv
  have HF := Lib.hid hf
  clear hf
  have HD := Lib.hid hd
  clear hd
  have HE := Lib.hid he
  clear he
  go_enter Try.func6, Try.ntmps6
  go_wp2_with fail
  refine (head_true _).mono ?_
  rintro e w1 ⟨rfl, hb⟩
  have oQ : Own w1 w.heap.size [.slice p rs.length cap] 24 := ((own_at _ _ rfl).alloc _).below hb
  have oR : Own w1 (w.heap.size + 1) [.int .i64 r.o, .int .i64 r.n, .int .i64 r.k, .int .i64 r.v, .int .i64 r.a] 26 := (own_at _ _ (by simp)).below hb
  have bel := belowTo (((Below.refl w.heap.size w).alloc (by simp) _).alloc (by simp) _) hb (by simp; omega)
  clear hb 
  obtain ⟨cQ0, fQ, zQ⟩ := own1 oQ
  obtain ⟨cR0, cR1, cR2, cR3, cR4, fR, zR⟩ := own5r oR
  have SL1 := Lib.hid (SL0.out.below bel)
  go_wp2_with fail
  refine (short_lit (.slice p rs.length cap) rs true _ SL1.out HS.out).mono ?_
  rintro e w2 ⟨rfl, hb⟩
  replace oQ := oQ.below hb
  replace oR := oR.below hb
  replace bel := belowTo bel hb (by exact bel.size)
  clear hb cQ0 fQ zQ cR0 cR1 cR2 cR3 cR4 fR zR
  obtain ⟨cQ0, fQ, zQ⟩ := own1 oQ
  obtain ⟨cR0, cR1, cR2, cR3, cR4, fR, zR⟩ := own5r oR
  have SL2 := Lib.hid (SL0.out.below bel)
  go_wp2_with fail
  refine (rqvalid_lit (.slice p rs.length cap) rs true _ SL2.out HV.out).mono ?_
  rintro e w3 ⟨rfl, hb⟩
  replace oQ := oQ.below hb
  replace oR := oR.below hb
  replace bel := belowTo bel hb (by exact bel.size)
  clear hb cQ0 fQ zQ cR0 cR1 cR2 cR3 cR4 fR zR
  obtain ⟨cQ0, fQ, zQ⟩ := own1 oQ
  obtain ⟨cR0, cR1, cR2, cR3, cR4, fR, zR⟩ := own5r oR
  have SL3 := Lib.hid (SL0.out.below bel)
  go_wp2_with fail
  refine (rformed_lit r (x := true) _ HF.out).mono ?_
  rintro e w4 ⟨rfl, hb⟩
  replace oQ := oQ.below hb
  replace oR := oR.below hb
  replace bel := belowTo bel hb (by exact bel.size)
  clear hb cQ0 fQ zQ cR0 cR1 cR2 cR3 cR4 fR zR
  obtain ⟨cQ0, fQ, zQ⟩ := own1 oQ
  obtain ⟨cR0, cR1, cR2, cR3, cR4, fR, zR⟩ := own5r oR
  have SL4 := Lib.hid (SL0.out.below bel)
  go_wp2_with fail
  refine (rfind_lit (.slice p rs.length cap) rs r.o r.n F _ SL4.out HD.out).mono ?_
  rintro e w5 ⟨rfl, hb⟩
  replace oQ := oQ.below hb
  replace oR := oR.below hb
  replace bel := belowTo bel hb (by exact bel.size)
  clear hb cQ0 fQ zQ cR0 cR1 cR2 cR3 cR4 fR zR
  obtain ⟨cQ0, fQ, zQ⟩ := own1 oQ
  obtain ⟨cR0, cR1, cR2, cR3, cR4, fR, zR⟩ := own5r oR
  have SL5 := Lib.hid (SL0.out.below bel)
  go_wp2_with fail
  refine (put_lit (.slice p rs.length cap) rs r me 0 _ _ SL5.out ⟨HE.out, rfl⟩).mono ?_
  rintro e w6 ⟨v', rfl, sP, _, hb⟩
  replace oQ := oQ.below hb
  replace oR := oR.below hb
  replace bel := belowTo bel hb (by exact bel.size)
  clear hb cQ0 fQ zQ cR0 cR1 cR2 cR3 cR4 fR zR
  obtain ⟨cQ0, fQ, zQ⟩ := own1 oQ
  obtain ⟨cR0, cR1, cR2, cR3, cR4, fR, zR⟩ := own5r oR
  obtain ⟨pp, cp, rfl⟩ := slr_form _ sP rfl
  clear sP
  go_wp2
  all_goals (go_ret; refine ⟨ret_bool (by simp <;> omega), ?_⟩)
  all_goals (repeat (first | (with_reducible exact bel) | (with_reducible refine belowSet ?_ _ _ _ ?_) | (with_reducible refine Below.drew ?_) | (with_reducible refine Below.alloc ?_ ?_ _)))
  all_goals (first | omega | (simp; omega) | (have := bel.size; simp; omega))

set_option linter.unusedVariables false in
set_option maxRecDepth 100000 in
set_option maxHeartbeats 2000000 in
theorem places_b (v : Value) (rs : List Rd) (r : Rd) (me : Int) (w : World) (sl : SlR w v rs) (hs : decide (rs.length ≤ 40) = true) (hv : vdB rs = true) (hf : fmB r = true) (hm0 : 0 ≤ me) (hm : me < 60) (F : Int) (hd : fnd r.o r.n rs = F) (h0 : F < 0) (ho : (r.o == me) = true) (hl : (12 : Int) ≤ rs.length) (he : putE rs r me = 10) :
    Calls Try.prog 6 #[.agg #[v], .agg #[.int .i64 r.o, .int .i64 r.n, .int .i64 r.k, .int .i64 r.v, .int .i64 r.a], .int .i64 me] w fun e w' => e = .returned (.bool true) ∧ Below w.heap.size w w' := by
  obtain ⟨p, cap, rfl, hlc, hcm, parts⟩ := sl
  have SL0 := Lib.hid (show SlR w (.slice p rs.length cap) rs from ⟨p, cap, rfl, hlc, hcm, parts⟩)
  unfold maxLen at hcm
  clear parts
  have HS := Lib.hid hs
  clear hs
  have HV := Lib.hid hv
  clear hv
  have HF := Lib.hid hf
  clear hf
  have HD := Lib.hid hd
  clear hd
  have HE := Lib.hid he
  clear he
  go_enter Try.func6, Try.ntmps6
  go_wp2_with fail
  refine (head_true _).mono ?_
  rintro e w1 ⟨rfl, hb⟩
  have oQ : Own w1 w.heap.size [.slice p rs.length cap] 24 := ((own_at _ _ rfl).alloc _).below hb
  have oR : Own w1 (w.heap.size + 1) [.int .i64 r.o, .int .i64 r.n, .int .i64 r.k, .int .i64 r.v, .int .i64 r.a] 26 := (own_at _ _ (by simp)).below hb
  have bel := belowTo (((Below.refl w.heap.size w).alloc (by simp) _).alloc (by simp) _) hb (by simp; omega)
  clear hb 
  obtain ⟨cQ0, fQ, zQ⟩ := own1 oQ
  obtain ⟨cR0, cR1, cR2, cR3, cR4, fR, zR⟩ := own5r oR
  have SL1 := Lib.hid (SL0.out.below bel)
  go_wp2_with fail
  refine (short_lit (.slice p rs.length cap) rs true _ SL1.out HS.out).mono ?_
  rintro e w2 ⟨rfl, hb⟩
  replace oQ := oQ.below hb
  replace oR := oR.below hb
  replace bel := belowTo bel hb (by exact bel.size)
  clear hb cQ0 fQ zQ cR0 cR1 cR2 cR3 cR4 fR zR
  obtain ⟨cQ0, fQ, zQ⟩ := own1 oQ
  obtain ⟨cR0, cR1, cR2, cR3, cR4, fR, zR⟩ := own5r oR
  have SL2 := Lib.hid (SL0.out.below bel)
  go_wp2_with fail
  refine (rqvalid_lit (.slice p rs.length cap) rs true _ SL2.out HV.out).mono ?_
  rintro e w3 ⟨rfl, hb⟩
  replace oQ := oQ.below hb
  replace oR := oR.below hb
  replace bel := belowTo bel hb (by exact bel.size)
  clear hb cQ0 fQ zQ cR0 cR1 cR2 cR3 cR4 fR zR
  obtain ⟨cQ0, fQ, zQ⟩ := own1 oQ
  obtain ⟨cR0, cR1, cR2, cR3, cR4, fR, zR⟩ := own5r oR
  have SL3 := Lib.hid (SL0.out.below bel)
  go_wp2_with fail
  refine (rformed_lit r (x := true) _ HF.out).mono ?_
  rintro e w4 ⟨rfl, hb⟩
  replace oQ := oQ.below hb
  replace oR := oR.below hb
  replace bel := belowTo bel hb (by exact bel.size)
  clear hb cQ0 fQ zQ cR0 cR1 cR2 cR3 cR4 fR zR
  obtain ⟨cQ0, fQ, zQ⟩ := own1 oQ
  obtain ⟨cR0, cR1, cR2, cR3, cR4, fR, zR⟩ := own5r oR
  have SL4 := Lib.hid (SL0.out.below bel)
  go_wp2_with fail
  refine (rfind_lit (.slice p rs.length cap) rs r.o r.n F _ SL4.out HD.out).mono ?_
  rintro e w5 ⟨rfl, hb⟩
  replace oQ := oQ.below hb
  replace oR := oR.below hb
  replace bel := belowTo bel hb (by exact bel.size)
  clear hb cQ0 fQ zQ cR0 cR1 cR2 cR3 cR4 fR zR
  obtain ⟨cQ0, fQ, zQ⟩ := own1 oQ
  obtain ⟨cR0, cR1, cR2, cR3, cR4, fR, zR⟩ := own5r oR
  have SL5 := Lib.hid (SL0.out.below bel)
  go_wp2_with fail
  refine (put_lit (.slice p rs.length cap) rs r me 10 _ _ SL5.out ⟨HE.out, rfl⟩).mono ?_
  rintro e w6 ⟨v', rfl, sP, _, hb⟩
  replace oQ := oQ.below hb
  replace oR := oR.below hb
  replace bel := belowTo bel hb (by exact bel.size)
  clear hb cQ0 fQ zQ cR0 cR1 cR2 cR3 cR4 fR zR
  obtain ⟨cQ0, fQ, zQ⟩ := own1 oQ
  obtain ⟨cR0, cR1, cR2, cR3, cR4, fR, zR⟩ := own5r oR
  obtain ⟨pp, cp, rfl⟩ := slr_form _ sP rfl
  clear sP
  go_wp2
  all_goals (go_ret; refine ⟨ret_bool (by simp <;> omega), ?_⟩)
  all_goals (repeat (first | (with_reducible exact bel) | (with_reducible refine belowSet ?_ _ _ _ ?_) | (with_reducible refine Below.drew ?_) | (with_reducible refine Below.alloc ?_ ?_ _)))
  all_goals (first | omega | (simp; omega) | (have := bel.size; simp; omega))

set_option linter.unusedVariables false in
set_option maxRecDepth 100000 in
set_option maxHeartbeats 2000000 in
theorem places_c (v : Value) (rs : List Rd) (r : Rd) (me : Int) (w : World) (sl : SlR w v rs) (hs : decide (rs.length ≤ 40) = true) (hv : vdB rs = true) (hf : fmB r = true) (hm0 : 0 ≤ me) (hm : me < 60) (F : Int) (hd : fnd r.o r.n rs = F) (h0 : F < 0) (ho : (r.o == me) = false) (hl : (rs.length : Int) < 16) (he : putE rs r me = 0) :
    Calls Try.prog 6 #[.agg #[v], .agg #[.int .i64 r.o, .int .i64 r.n, .int .i64 r.k, .int .i64 r.v, .int .i64 r.a], .int .i64 me] w fun e w' => e = .returned (.bool true) ∧ Below w.heap.size w w' := by
  obtain ⟨p, cap, rfl, hlc, hcm, parts⟩ := sl
  have SL0 := Lib.hid (show SlR w (.slice p rs.length cap) rs from ⟨p, cap, rfl, hlc, hcm, parts⟩)
  unfold maxLen at hcm
  clear parts
  have HS := Lib.hid hs
  clear hs
  have HV := Lib.hid hv
  clear hv
  have HF := Lib.hid hf
  clear hf
  have HD := Lib.hid hd
  clear hd
  have HE := Lib.hid he
  clear he
  go_enter Try.func6, Try.ntmps6
  go_wp2_with fail
  refine (head_true _).mono ?_
  rintro e w1 ⟨rfl, hb⟩
  have oQ : Own w1 w.heap.size [.slice p rs.length cap] 24 := ((own_at _ _ rfl).alloc _).below hb
  have oR : Own w1 (w.heap.size + 1) [.int .i64 r.o, .int .i64 r.n, .int .i64 r.k, .int .i64 r.v, .int .i64 r.a] 26 := (own_at _ _ (by simp)).below hb
  have bel := belowTo (((Below.refl w.heap.size w).alloc (by simp) _).alloc (by simp) _) hb (by simp; omega)
  clear hb 
  obtain ⟨cQ0, fQ, zQ⟩ := own1 oQ
  obtain ⟨cR0, cR1, cR2, cR3, cR4, fR, zR⟩ := own5r oR
  have SL1 := Lib.hid (SL0.out.below bel)
  go_wp2_with fail
  refine (short_lit (.slice p rs.length cap) rs true _ SL1.out HS.out).mono ?_
  rintro e w2 ⟨rfl, hb⟩
  replace oQ := oQ.below hb
  replace oR := oR.below hb
  replace bel := belowTo bel hb (by exact bel.size)
  clear hb cQ0 fQ zQ cR0 cR1 cR2 cR3 cR4 fR zR
  obtain ⟨cQ0, fQ, zQ⟩ := own1 oQ
  obtain ⟨cR0, cR1, cR2, cR3, cR4, fR, zR⟩ := own5r oR
  have SL2 := Lib.hid (SL0.out.below bel)
  go_wp2_with fail
  refine (rqvalid_lit (.slice p rs.length cap) rs true _ SL2.out HV.out).mono ?_
  rintro e w3 ⟨rfl, hb⟩
  replace oQ := oQ.below hb
  replace oR := oR.below hb
  replace bel := belowTo bel hb (by exact bel.size)
  clear hb cQ0 fQ zQ cR0 cR1 cR2 cR3 cR4 fR zR
  obtain ⟨cQ0, fQ, zQ⟩ := own1 oQ
  obtain ⟨cR0, cR1, cR2, cR3, cR4, fR, zR⟩ := own5r oR
  have SL3 := Lib.hid (SL0.out.below bel)
  go_wp2_with fail
  refine (rformed_lit r (x := true) _ HF.out).mono ?_
  rintro e w4 ⟨rfl, hb⟩
  replace oQ := oQ.below hb
  replace oR := oR.below hb
  replace bel := belowTo bel hb (by exact bel.size)
  clear hb cQ0 fQ zQ cR0 cR1 cR2 cR3 cR4 fR zR
  obtain ⟨cQ0, fQ, zQ⟩ := own1 oQ
  obtain ⟨cR0, cR1, cR2, cR3, cR4, fR, zR⟩ := own5r oR
  have SL4 := Lib.hid (SL0.out.below bel)
  go_wp2_with fail
  refine (rfind_lit (.slice p rs.length cap) rs r.o r.n F _ SL4.out HD.out).mono ?_
  rintro e w5 ⟨rfl, hb⟩
  replace oQ := oQ.below hb
  replace oR := oR.below hb
  replace bel := belowTo bel hb (by exact bel.size)
  clear hb cQ0 fQ zQ cR0 cR1 cR2 cR3 cR4 fR zR
  obtain ⟨cQ0, fQ, zQ⟩ := own1 oQ
  obtain ⟨cR0, cR1, cR2, cR3, cR4, fR, zR⟩ := own5r oR
  have SL5 := Lib.hid (SL0.out.below bel)
  go_wp2_with fail
  refine (put_lit (.slice p rs.length cap) rs r me 0 _ _ SL5.out ⟨HE.out, rfl⟩).mono ?_
  rintro e w6 ⟨v', rfl, sP, _, hb⟩
  replace oQ := oQ.below hb
  replace oR := oR.below hb
  replace bel := belowTo bel hb (by exact bel.size)
  clear hb cQ0 fQ zQ cR0 cR1 cR2 cR3 cR4 fR zR
  obtain ⟨cQ0, fQ, zQ⟩ := own1 oQ
  obtain ⟨cR0, cR1, cR2, cR3, cR4, fR, zR⟩ := own5r oR
  obtain ⟨pp, cp, rfl⟩ := slr_form _ sP rfl
  clear sP
  go_wp2
  all_goals (go_ret; refine ⟨ret_bool (by simp <;> omega), ?_⟩)
  all_goals (repeat (first | (with_reducible exact bel) | (with_reducible refine belowSet ?_ _ _ _ ?_) | (with_reducible refine Below.drew ?_) | (with_reducible refine Below.alloc ?_ ?_ _)))
  all_goals (first | omega | (simp; omega) | (have := bel.size; simp; omega))

set_option linter.unusedVariables false in
set_option maxRecDepth 100000 in
set_option maxHeartbeats 2000000 in
theorem places_d (v : Value) (rs : List Rd) (r : Rd) (me : Int) (w : World) (sl : SlR w v rs) (hs : decide (rs.length ≤ 40) = true) (hv : vdB rs = true) (hf : fmB r = true) (hm0 : 0 ≤ me) (hm : me < 60) (F : Int) (hd : fnd r.o r.n rs = F) (h0 : F < 0) (ho : (r.o == me) = false) (hl : (16 : Int) ≤ rs.length) (he : putE rs r me = 10) :
    Calls Try.prog 6 #[.agg #[v], .agg #[.int .i64 r.o, .int .i64 r.n, .int .i64 r.k, .int .i64 r.v, .int .i64 r.a], .int .i64 me] w fun e w' => e = .returned (.bool true) ∧ Below w.heap.size w w' := by
  obtain ⟨p, cap, rfl, hlc, hcm, parts⟩ := sl
  have SL0 := Lib.hid (show SlR w (.slice p rs.length cap) rs from ⟨p, cap, rfl, hlc, hcm, parts⟩)
  unfold maxLen at hcm
  clear parts
  have HS := Lib.hid hs
  clear hs
  have HV := Lib.hid hv
  clear hv
  have HF := Lib.hid hf
  clear hf
  have HD := Lib.hid hd
  clear hd
  have HE := Lib.hid he
  clear he
  go_enter Try.func6, Try.ntmps6
  go_wp2_with fail
  refine (head_true _).mono ?_
  rintro e w1 ⟨rfl, hb⟩
  have oQ : Own w1 w.heap.size [.slice p rs.length cap] 24 := ((own_at _ _ rfl).alloc _).below hb
  have oR : Own w1 (w.heap.size + 1) [.int .i64 r.o, .int .i64 r.n, .int .i64 r.k, .int .i64 r.v, .int .i64 r.a] 26 := (own_at _ _ (by simp)).below hb
  have bel := belowTo (((Below.refl w.heap.size w).alloc (by simp) _).alloc (by simp) _) hb (by simp; omega)
  clear hb 
  obtain ⟨cQ0, fQ, zQ⟩ := own1 oQ
  obtain ⟨cR0, cR1, cR2, cR3, cR4, fR, zR⟩ := own5r oR
  have SL1 := Lib.hid (SL0.out.below bel)
  go_wp2_with fail
  refine (short_lit (.slice p rs.length cap) rs true _ SL1.out HS.out).mono ?_
  rintro e w2 ⟨rfl, hb⟩
  replace oQ := oQ.below hb
  replace oR := oR.below hb
  replace bel := belowTo bel hb (by exact bel.size)
  clear hb cQ0 fQ zQ cR0 cR1 cR2 cR3 cR4 fR zR
  obtain ⟨cQ0, fQ, zQ⟩ := own1 oQ
  obtain ⟨cR0, cR1, cR2, cR3, cR4, fR, zR⟩ := own5r oR
  have SL2 := Lib.hid (SL0.out.below bel)
  go_wp2_with fail
  refine (rqvalid_lit (.slice p rs.length cap) rs true _ SL2.out HV.out).mono ?_
  rintro e w3 ⟨rfl, hb⟩
  replace oQ := oQ.below hb
  replace oR := oR.below hb
  replace bel := belowTo bel hb (by exact bel.size)
  clear hb cQ0 fQ zQ cR0 cR1 cR2 cR3 cR4 fR zR
  obtain ⟨cQ0, fQ, zQ⟩ := own1 oQ
  obtain ⟨cR0, cR1, cR2, cR3, cR4, fR, zR⟩ := own5r oR
  have SL3 := Lib.hid (SL0.out.below bel)
  go_wp2_with fail
  refine (rformed_lit r (x := true) _ HF.out).mono ?_
  rintro e w4 ⟨rfl, hb⟩
  replace oQ := oQ.below hb
  replace oR := oR.below hb
  replace bel := belowTo bel hb (by exact bel.size)
  clear hb cQ0 fQ zQ cR0 cR1 cR2 cR3 cR4 fR zR
  obtain ⟨cQ0, fQ, zQ⟩ := own1 oQ
  obtain ⟨cR0, cR1, cR2, cR3, cR4, fR, zR⟩ := own5r oR
  have SL4 := Lib.hid (SL0.out.below bel)
  go_wp2_with fail
  refine (rfind_lit (.slice p rs.length cap) rs r.o r.n F _ SL4.out HD.out).mono ?_
  rintro e w5 ⟨rfl, hb⟩
  replace oQ := oQ.below hb
  replace oR := oR.below hb
  replace bel := belowTo bel hb (by exact bel.size)
  clear hb cQ0 fQ zQ cR0 cR1 cR2 cR3 cR4 fR zR
  obtain ⟨cQ0, fQ, zQ⟩ := own1 oQ
  obtain ⟨cR0, cR1, cR2, cR3, cR4, fR, zR⟩ := own5r oR
  have SL5 := Lib.hid (SL0.out.below bel)
  go_wp2_with fail
  refine (put_lit (.slice p rs.length cap) rs r me 10 _ _ SL5.out ⟨HE.out, rfl⟩).mono ?_
  rintro e w6 ⟨v', rfl, sP, _, hb⟩
  replace oQ := oQ.below hb
  replace oR := oR.below hb
  replace bel := belowTo bel hb (by exact bel.size)
  clear hb cQ0 fQ zQ cR0 cR1 cR2 cR3 cR4 fR zR
  obtain ⟨cQ0, fQ, zQ⟩ := own1 oQ
  obtain ⟨cR0, cR1, cR2, cR3, cR4, fR, zR⟩ := own5r oR
  obtain ⟨pp, cp, rfl⟩ := slr_form _ sP rfl
  clear sP
  go_wp2
  all_goals (go_ret; refine ⟨ret_bool (by simp <;> omega), ?_⟩)
  all_goals (repeat (first | (with_reducible exact bel) | (with_reducible refine belowSet ?_ _ _ _ ?_) | (with_reducible refine Below.drew ?_) | (with_reducible refine Below.alloc ?_ ?_ _)))
  all_goals (first | omega | (simp; omega) | (have := bel.size; simp; omega))

end Go.Proofs.Ytlfdbmndikdhdaa

/- QueueTwice: the walk of the law. It returns true for every input, and leaves old memory alone. -/
import Derived.Test.YtlfdbmndikdhdaaHead27
import Derived.Test.YtlfdbmndikdhdaaOpen27
import Derived.Test.YtlfdbmndikdhdaaPlaces27
import Derived.Test.YtlfdbmndikdhdaaPlain27b
import Derived.WalkKit
import Derived.IntWalk
import Derived.Deep.RegionHeld3
namespace Go.Proofs.Ytlfdbmndikdhdaa
open Go.RowKit

set_option linter.unusedVariables false in
set_option maxRecDepth 100000 in
set_option maxHeartbeats 2000000 in
theorem tw_long (v : Value) (rs : List Rd) (pk : Int) (val at' me : Int) (w : World) (sl : SlR w v rs) (hs : decide (rs.length ≤ 40) = false) :
    Calls Try.prog 8 #[.agg #[v], .int .u8 pk, .int .i64 val, .int .i64 at', .int .i64 me] w fun e w' => e = .returned (.bool true) ∧ Below w.heap.size w w' := by
  obtain ⟨p, cap, rfl, hlc, hcm, parts⟩ := sl
  have SL0 := Lib.hid (show SlR w (.slice p rs.length cap) rs from ⟨p, cap, rfl, hlc, hcm, parts⟩)
  unfold maxLen at hcm
  clear parts
  have HS := Lib.hid hs
  clear hs
  go_enter Try.func8, Try.ntmps8
  go_wp2_with fail
  refine (head_true _).mono ?_
  rintro e w1 ⟨rfl, hb⟩
  have oQ : Own w1 w.heap.size [.slice p rs.length cap] 24 := (own_at _ _ rfl).below hb
  have bel := belowTo ((Below.refl w.heap.size w).alloc (by simp) _) hb (by simp)
  clear hb
  obtain ⟨cQ0, fQ, zQ⟩ := own1 oQ
  have SL := Lib.hid (SL0.out.below bel)
  go_wp2_with fail
  refine (short_lit (.slice p rs.length cap) rs false _ SL.out HS.out).mono ?_
  rintro e w2 ⟨rfl, hb⟩
  replace oQ := oQ.below hb
  replace SL := Lib.hid (SL.out.below hb)
  replace bel := belowTo bel hb (by exact bel.size)
  clear hb
  clear cQ0 fQ zQ
  obtain ⟨cQ0, fQ, zQ⟩ := own1 oQ
  go_wp2
  all_goals (go_ret; exact ⟨ret_bool (by simp <;> omega), bel⟩)

set_option linter.unusedVariables false in
set_option maxRecDepth 100000 in
set_option maxHeartbeats 2000000 in
theorem tw_bad (v : Value) (rs : List Rd) (pk : Int) (val at' me : Int) (w : World) (sl : SlR w v rs) (hs : decide (rs.length ≤ 40) = true) (hv : vdB rs = false) :
    Calls Try.prog 8 #[.agg #[v], .int .u8 pk, .int .i64 val, .int .i64 at', .int .i64 me] w fun e w' => e = .returned (.bool true) ∧ Below w.heap.size w w' := by
  obtain ⟨p, cap, rfl, hlc, hcm, parts⟩ := sl
  have SL0 := Lib.hid (show SlR w (.slice p rs.length cap) rs from ⟨p, cap, rfl, hlc, hcm, parts⟩)
  unfold maxLen at hcm
  clear parts
  have HS := Lib.hid hs
  clear hs
  have HV := Lib.hid hv
  clear hv
  go_enter Try.func8, Try.ntmps8
  go_wp2_with fail
  refine (head_true _).mono ?_
  rintro e w1 ⟨rfl, hb⟩
  have oQ : Own w1 w.heap.size [.slice p rs.length cap] 24 := (own_at _ _ rfl).below hb
  have bel := belowTo ((Below.refl w.heap.size w).alloc (by simp) _) hb (by simp)
  clear hb
  obtain ⟨cQ0, fQ, zQ⟩ := own1 oQ
  have SL := Lib.hid (SL0.out.below bel)
  go_wp2_with fail
  refine (short_lit (.slice p rs.length cap) rs true _ SL.out HS.out).mono ?_
  rintro e w2 ⟨rfl, hb⟩
  replace oQ := oQ.below hb
  replace SL := Lib.hid (SL.out.below hb)
  replace bel := belowTo bel hb (by exact bel.size)
  clear hb
  clear cQ0 fQ zQ
  obtain ⟨cQ0, fQ, zQ⟩ := own1 oQ
  go_wp2_with fail
  refine (rqvalid_lit (.slice p rs.length cap) rs false _ SL.out HV.out).mono ?_
  rintro e w3 ⟨rfl, hb⟩
  replace oQ := oQ.below hb
  replace SL := Lib.hid (SL.out.below hb)
  replace bel := belowTo bel hb (by exact bel.size)
  clear hb
  clear cQ0 fQ zQ
  obtain ⟨cQ0, fQ, zQ⟩ := own1 oQ
  go_wp2
  all_goals (go_ret; exact ⟨ret_bool (by simp <;> omega), bel⟩)

set_option linter.unusedVariables false in
set_option maxRecDepth 100000 in
set_option maxHeartbeats 2000000 in
theorem tw_none (v : Value) (rs : List Rd) (pk : Int) (val at' me : Int) (w : World) (sl : SlR w v rs) (hs : decide (rs.length ≤ 40) = true) (hv : vdB rs = true) (h0 : ((rs.length : Int) == 0) = true) :
    Calls Try.prog 8 #[.agg #[v], .int .u8 pk, .int .i64 val, .int .i64 at', .int .i64 me] w fun e w' => e = .returned (.bool true) ∧ Below w.heap.size w w' := by
  obtain ⟨p, cap, rfl, hlc, hcm, parts⟩ := sl
  have SL0 := Lib.hid (show SlR w (.slice p rs.length cap) rs from ⟨p, cap, rfl, hlc, hcm, parts⟩)
  unfold maxLen at hcm
  clear parts
  have HS := Lib.hid hs
  clear hs
  have HV := Lib.hid hv
  clear hv
  go_enter Try.func8, Try.ntmps8
  go_wp2_with fail
  refine (head_true _).mono ?_
  rintro e w1 ⟨rfl, hb⟩
  have oQ : Own w1 w.heap.size [.slice p rs.length cap] 24 := (own_at _ _ rfl).below hb
  have bel := belowTo ((Below.refl w.heap.size w).alloc (by simp) _) hb (by simp)
  clear hb
  obtain ⟨cQ0, fQ, zQ⟩ := own1 oQ
  have SL := Lib.hid (SL0.out.below bel)
  go_wp2_with fail
  refine (short_lit (.slice p rs.length cap) rs true _ SL.out HS.out).mono ?_
  rintro e w2 ⟨rfl, hb⟩
  replace oQ := oQ.below hb
  replace SL := Lib.hid (SL.out.below hb)
  replace bel := belowTo bel hb (by exact bel.size)
  clear hb
  clear cQ0 fQ zQ
  obtain ⟨cQ0, fQ, zQ⟩ := own1 oQ
  go_wp2_with fail
  refine (rqvalid_lit (.slice p rs.length cap) rs true _ SL.out HV.out).mono ?_
  rintro e w3 ⟨rfl, hb⟩
  replace oQ := oQ.below hb
  replace SL := Lib.hid (SL.out.below hb)
  replace bel := belowTo bel hb (by exact bel.size)
  clear hb
  clear cQ0 fQ zQ
  obtain ⟨cQ0, fQ, zQ⟩ := own1 oQ
  go_wp2
  all_goals (go_ret; exact ⟨ret_bool (by simp <;> omega), bel⟩)

set_option linter.unusedVariables false in
set_option maxRecDepth 100000 in
set_option maxHeartbeats 2000000 in
theorem tw_neg (v : Value) (rs : List Rd) (pk : Int) (val at' me : Int) (w : World) (sl : SlR w v rs) (hs : decide (rs.length ≤ 40) = true) (hv : vdB rs = true) (h0 : ((rs.length : Int) == 0) = false) (hm : me < 0) :
    Calls Try.prog 8 #[.agg #[v], .int .u8 pk, .int .i64 val, .int .i64 at', .int .i64 me] w fun e w' => e = .returned (.bool true) ∧ Below w.heap.size w w' := by
  obtain ⟨p, cap, rfl, hlc, hcm, parts⟩ := sl
  have SL0 := Lib.hid (show SlR w (.slice p rs.length cap) rs from ⟨p, cap, rfl, hlc, hcm, parts⟩)
  unfold maxLen at hcm
  clear parts
  have HS := Lib.hid hs
  clear hs
  have HV := Lib.hid hv
  clear hv
  go_enter Try.func8, Try.ntmps8
  go_wp2_with fail
  refine (head_true _).mono ?_
  rintro e w1 ⟨rfl, hb⟩
  have oQ : Own w1 w.heap.size [.slice p rs.length cap] 24 := (own_at _ _ rfl).below hb
  have bel := belowTo ((Below.refl w.heap.size w).alloc (by simp) _) hb (by simp)
  clear hb
  obtain ⟨cQ0, fQ, zQ⟩ := own1 oQ
  have SL := Lib.hid (SL0.out.below bel)
  go_wp2_with fail
  refine (short_lit (.slice p rs.length cap) rs true _ SL.out HS.out).mono ?_
  rintro e w2 ⟨rfl, hb⟩
  replace oQ := oQ.below hb
  replace SL := Lib.hid (SL.out.below hb)
  replace bel := belowTo bel hb (by exact bel.size)
  clear hb
  clear cQ0 fQ zQ
  obtain ⟨cQ0, fQ, zQ⟩ := own1 oQ
  go_wp2_with fail
  refine (rqvalid_lit (.slice p rs.length cap) rs true _ SL.out HV.out).mono ?_
  rintro e w3 ⟨rfl, hb⟩
  replace oQ := oQ.below hb
  replace SL := Lib.hid (SL.out.below hb)
  replace bel := belowTo bel hb (by exact bel.size)
  clear hb
  clear cQ0 fQ zQ
  obtain ⟨cQ0, fQ, zQ⟩ := own1 oQ
  go_wp2
  all_goals (go_ret; exact ⟨ret_bool (by simp <;> omega), bel⟩)

set_option linter.unusedVariables false in
set_option maxRecDepth 100000 in
set_option maxHeartbeats 2000000 in
theorem tw_far (v : Value) (rs : List Rd) (pk : Int) (val at' me : Int) (w : World) (sl : SlR w v rs) (hs : decide (rs.length ≤ 40) = true) (hv : vdB rs = true) (h0 : ((rs.length : Int) == 0) = false) (hm0 : 0 ≤ me) (hm : 60 ≤ me) :
    Calls Try.prog 8 #[.agg #[v], .int .u8 pk, .int .i64 val, .int .i64 at', .int .i64 me] w fun e w' => e = .returned (.bool true) ∧ Below w.heap.size w w' := by
  obtain ⟨p, cap, rfl, hlc, hcm, parts⟩ := sl
  have SL0 := Lib.hid (show SlR w (.slice p rs.length cap) rs from ⟨p, cap, rfl, hlc, hcm, parts⟩)
  unfold maxLen at hcm
  clear parts
  have HS := Lib.hid hs
  clear hs
  have HV := Lib.hid hv
  clear hv
  go_enter Try.func8, Try.ntmps8
  go_wp2_with fail
  refine (head_true _).mono ?_
  rintro e w1 ⟨rfl, hb⟩
  have oQ : Own w1 w.heap.size [.slice p rs.length cap] 24 := (own_at _ _ rfl).below hb
  have bel := belowTo ((Below.refl w.heap.size w).alloc (by simp) _) hb (by simp)
  clear hb
  obtain ⟨cQ0, fQ, zQ⟩ := own1 oQ
  have SL := Lib.hid (SL0.out.below bel)
  go_wp2_with fail
  refine (short_lit (.slice p rs.length cap) rs true _ SL.out HS.out).mono ?_
  rintro e w2 ⟨rfl, hb⟩
  replace oQ := oQ.below hb
  replace SL := Lib.hid (SL.out.below hb)
  replace bel := belowTo bel hb (by exact bel.size)
  clear hb
  clear cQ0 fQ zQ
  obtain ⟨cQ0, fQ, zQ⟩ := own1 oQ
  go_wp2_with fail
  refine (rqvalid_lit (.slice p rs.length cap) rs true _ SL.out HV.out).mono ?_
  rintro e w3 ⟨rfl, hb⟩
  replace oQ := oQ.below hb
  replace SL := Lib.hid (SL.out.below hb)
  replace bel := belowTo bel hb (by exact bel.size)
  clear hb
  clear cQ0 fQ zQ
  obtain ⟨cQ0, fQ, zQ⟩ := own1 oQ
  go_wp2
  all_goals (go_ret; exact ⟨ret_bool (by simp <;> omega), bel⟩)

set_option linter.unusedVariables false in
set_option maxRecDepth 100000 in
set_option maxHeartbeats 2000000 in
theorem tw_at0 (v : Value) (rs : List Rd) (pk : Int) (val at' me : Int) (w : World) (sl : SlR w v rs) (hs : decide (rs.length ≤ 40) = true) (hv : vdB rs = true) (h0 : ((rs.length : Int) == 0) = false) (hm0 : 0 ≤ me) (hm1 : me < 60) (ha : at' < 0) :
    Calls Try.prog 8 #[.agg #[v], .int .u8 pk, .int .i64 val, .int .i64 at', .int .i64 me] w fun e w' => e = .returned (.bool true) ∧ Below w.heap.size w w' := by
  obtain ⟨p, cap, rfl, hlc, hcm, parts⟩ := sl
  have SL0 := Lib.hid (show SlR w (.slice p rs.length cap) rs from ⟨p, cap, rfl, hlc, hcm, parts⟩)
  unfold maxLen at hcm
  clear parts
  have HS := Lib.hid hs
  clear hs
  have HV := Lib.hid hv
  clear hv
  go_enter Try.func8, Try.ntmps8
  go_wp2_with fail
  refine (head_true _).mono ?_
  rintro e w1 ⟨rfl, hb⟩
  have oQ : Own w1 w.heap.size [.slice p rs.length cap] 24 := (own_at _ _ rfl).below hb
  have bel := belowTo ((Below.refl w.heap.size w).alloc (by simp) _) hb (by simp)
  clear hb
  obtain ⟨cQ0, fQ, zQ⟩ := own1 oQ
  have SL := Lib.hid (SL0.out.below bel)
  go_wp2_with fail
  refine (short_lit (.slice p rs.length cap) rs true _ SL.out HS.out).mono ?_
  rintro e w2 ⟨rfl, hb⟩
  replace oQ := oQ.below hb
  replace SL := Lib.hid (SL.out.below hb)
  replace bel := belowTo bel hb (by exact bel.size)
  clear hb
  clear cQ0 fQ zQ
  obtain ⟨cQ0, fQ, zQ⟩ := own1 oQ
  go_wp2_with fail
  refine (rqvalid_lit (.slice p rs.length cap) rs true _ SL.out HV.out).mono ?_
  rintro e w3 ⟨rfl, hb⟩
  replace oQ := oQ.below hb
  replace SL := Lib.hid (SL.out.below hb)
  replace bel := belowTo bel hb (by exact bel.size)
  clear hb
  clear cQ0 fQ zQ
  obtain ⟨cQ0, fQ, zQ⟩ := own1 oQ
  go_wp2
  all_goals (go_ret; exact ⟨ret_bool (by simp <;> omega), bel⟩)

set_option linter.unusedVariables false in
set_option maxRecDepth 100000 in
set_option maxHeartbeats 2000000 in
theorem tw_at1 (v : Value) (rs : List Rd) (pk : Int) (val at' me : Int) (w : World) (sl : SlR w v rs) (hs : decide (rs.length ≤ 40) = true) (hv : vdB rs = true) (h0 : ((rs.length : Int) == 0) = false) (hm0 : 0 ≤ me) (hm1 : me < 60) (ha0 : 0 ≤ at') (ha : 1000000000 < at') :
    Calls Try.prog 8 #[.agg #[v], .int .u8 pk, .int .i64 val, .int .i64 at', .int .i64 me] w fun e w' => e = .returned (.bool true) ∧ Below w.heap.size w w' := by
  obtain ⟨p, cap, rfl, hlc, hcm, parts⟩ := sl
  have SL0 := Lib.hid (show SlR w (.slice p rs.length cap) rs from ⟨p, cap, rfl, hlc, hcm, parts⟩)
  unfold maxLen at hcm
  clear parts
  have HS := Lib.hid hs
  clear hs
  have HV := Lib.hid hv
  clear hv
  go_enter Try.func8, Try.ntmps8
  go_wp2_with fail
  refine (head_true _).mono ?_
  rintro e w1 ⟨rfl, hb⟩
  have oQ : Own w1 w.heap.size [.slice p rs.length cap] 24 := (own_at _ _ rfl).below hb
  have bel := belowTo ((Below.refl w.heap.size w).alloc (by simp) _) hb (by simp)
  clear hb
  obtain ⟨cQ0, fQ, zQ⟩ := own1 oQ
  have SL := Lib.hid (SL0.out.below bel)
  go_wp2_with fail
  refine (short_lit (.slice p rs.length cap) rs true _ SL.out HS.out).mono ?_
  rintro e w2 ⟨rfl, hb⟩
  replace oQ := oQ.below hb
  replace SL := Lib.hid (SL.out.below hb)
  replace bel := belowTo bel hb (by exact bel.size)
  clear hb
  clear cQ0 fQ zQ
  obtain ⟨cQ0, fQ, zQ⟩ := own1 oQ
  go_wp2_with fail
  refine (rqvalid_lit (.slice p rs.length cap) rs true _ SL.out HV.out).mono ?_
  rintro e w3 ⟨rfl, hb⟩
  replace oQ := oQ.below hb
  replace SL := Lib.hid (SL.out.below hb)
  replace bel := belowTo bel hb (by exact bel.size)
  clear hb
  clear cQ0 fQ zQ
  obtain ⟨cQ0, fQ, zQ⟩ := own1 oQ
  go_wp2
  all_goals (go_ret; exact ⟨ret_bool (by simp <;> omega), bel⟩)

set_option linter.unusedVariables false in
set_option maxRecDepth 100000 in
set_option maxHeartbeats 2000000 in
theorem tw_other (v : Value) (rs : List Rd) (pk : Int) (j : Nat) (val at' me : Int) (w : World) (sl : SlR w v rs) (hs : decide (rs.length ≤ 40) = true) (hv : vdB rs = true) (h0 : ((rs.length : Int) == 0) = false) (hm0 : 0 ≤ me) (hm1 : me < 60) (ha0 : 0 ≤ at') (ha1 : at' ≤ 1000000000) (hp0 : 0 ≤ pk) (hp1 : pk ≤ 255) (hpj : pk.tmod (rs.length : Int) = (j : Int)) (x : Rd) (hx : rs[j]? = some x) (he : (putE rs ⟨x.o, x.n, x.k, val, at'⟩ me = 5 ∧ putL rs ⟨x.o, x.n, x.k, val, at'⟩ me = []) ∧ True) (ds l2 : List Rd) (hds : dropL rs x.o x.n = ds) (he2 : putE ds ⟨x.o, x.n, x.k, val, at'⟩ me = 0 ∧ putL ds ⟨x.o, x.n, x.k, val, at'⟩ me = l2) (hom : (x.o == me) = false) :
    Calls Try.prog 8 #[.agg #[v], .int .u8 pk, .int .i64 val, .int .i64 at', .int .i64 me] w fun e w' => e = .returned (.bool true) ∧ Below w.heap.size w w' := by
  obtain ⟨p, cap, rfl, hlc, hcm, parts⟩ := sl
  have SL0 := Lib.hid (show SlR w (.slice p rs.length cap) rs from ⟨p, cap, rfl, hlc, hcm, parts⟩)
  unfold maxLen at hcm
  clear parts
  have HS := Lib.hid hs
  clear hs
  have HV := Lib.hid hv
  clear hv
  have HE := Lib.hid he
  clear he
  have HX := Lib.hid hx
  clear hx
  have HDS := Lib.hid hds
  clear hds
  have HE2 := Lib.hid he2
  clear he2
  go_enter Try.func8, Try.ntmps8
  have i0 : (0 : Int) ≤ (j : Int) := Int.natCast_nonneg _
  have i1 : (j : Int) < (rs.length : Int) := by have := (List.getElem?_eq_some_iff.1 HX.out).1; omega
  have i2 : (0 : Int) < (rs.length : Int) := by omega
  have hne : ¬ rs = [] := by rintro rfl; simp at i2
  have hpm : pk % (rs.length : Int) = (j : Int) := by rw [← hpj, Int.tmod_eq_emod_of_nonneg hp0]
  have wrp : IntKind.i64.wrap pk = pk := IntWalk.i64_in _ (by omega)
  have wrj : IntKind.i64.wrap (j : Int) = (j : Int) := IntWalk.i64_in _ (by omega)
  go_wp2_with fail
  refine (head_true _).mono ?_
  rintro e w1 ⟨rfl, hb⟩
  have oQ : Own w1 w.heap.size [.slice p rs.length cap] 24 := (own_at _ _ rfl).below hb
  have bel := belowTo ((Below.refl w.heap.size w).alloc (by simp) _) hb (by simp)
  clear hb
  obtain ⟨cQ0, fQ, zQ⟩ := own1 oQ
  have SL := Lib.hid (SL0.out.below bel)
  go_wp2_with fail
  refine (short_lit (.slice p rs.length cap) rs true _ SL.out HS.out).mono ?_
  rintro e w2 ⟨rfl, hb⟩
  replace oQ := oQ.below hb
  replace SL := Lib.hid (SL.out.below hb)
  replace bel := belowTo bel hb (by exact bel.size)
  clear hb
  clear cQ0 fQ zQ
  obtain ⟨cQ0, fQ, zQ⟩ := own1 oQ
  go_wp2_with fail
  refine (rqvalid_lit (.slice p rs.length cap) rs true _ SL.out HV.out).mono ?_
  rintro e w3 ⟨rfl, hb⟩
  replace oQ := oQ.below hb
  replace SL := Lib.hid (SL.out.below hb)
  replace bel := belowTo bel hb (by exact bel.size)
  clear hb
  clear cQ0 fQ zQ
  obtain ⟨cQ0, fQ, zQ⟩ := own1 oQ
  obtain ⟨p1, cap1, e1, _, _, parts⟩ := SL.out
  cases e1
  obtain ⟨x', b, off, hx', rfl, hbl, d0, d1, d2, d3, d4⟩ := SlR.at parts (Below.refl _ _) (List.getElem?_eq_some_iff.1 HX.out).1
  obtain rfl : x = x' := by have := HX.out; rw [hx'] at this; exact (Option.some.inj this).symm
  clear hx' parts
  go_wp2_with fail
  go_region_held3 (fun w' => w'.cell? ⟨w.heap.size, 0, none⟩ = some (.slice (some ⟨b, off, none⟩) rs.length cap) ∧ w'.cell? ⟨b, off + j * 5, none⟩ = some (.int .i64 x.o) ∧ w'.cell? ⟨b, off + j * 5 + 1, none⟩ = some (.int .i64 x.n) ∧ w'.cell? ⟨b, off + j * 5 + 2, none⟩ = some (.int .i64 x.k) ∧ w'.cell? ⟨b, off + j * 5 + 3, none⟩ = some (.int .i64 x.v) ∧ w'.cell? ⟨b, off + j * 5 + 4, none⟩ = some (.int .i64 x.a))
    (((try dsimp only); (repeat' apply And.intro) <;> first | assumption | (rw [cell_newq (by assumption)]; assumption) | (change (World.alloc _ _).cell? _ = _; rw [cell_newq (by assumption)]; assumption)))
    (fail)
  clear d0 d1 d2 d3 d4
  have oT : Own (w3.alloc (Obj.cells #[.int .i64 x.o, .int .i64 x.n, .int .i64 x.k, .int .i64 x.v, .int .i64 x.a] 26)).drew w3.heap.size [.int .i64 x.o, .int .i64 x.n, .int .i64 x.k, .int .i64 x.v, .int .i64 x.a] 26 := (own_at _ _ rfl).drew
  have ltTQ : w.heap.size < w3.heap.size := zQ
  replace oQ := (oQ.alloc (Obj.cells #[.int .i64 x.o, .int .i64 x.n, .int .i64 x.k, .int .i64 x.v, .int .i64 x.a] 26)).drew
  replace SL := Lib.hid ((SL.out.below (belowNew w3 (Obj.cells #[.int .i64 x.o, .int .i64 x.n, .int .i64 x.k, .int .i64 x.v, .int .i64 x.a] 26))).below (Below.refl _ _).drew)
  replace bel := (bel.alloc bel.size (Obj.cells #[.int .i64 x.o, .int .i64 x.n, .int .i64 x.k, .int .i64 x.v, .int .i64 x.a] 26)).drew
  clear cQ0 fQ zQ
  generalize (w3.alloc (Obj.cells #[.int .i64 x.o, .int .i64 x.n, .int .i64 x.k, .int .i64 x.v, .int .i64 x.a] 26)).drew = w5 at oQ oT SL bel ⊢
  obtain ⟨cQ0, fQ, zQ⟩ := own1 oQ
  obtain ⟨cT0, cT1, cT2, cT3, cT4, fT, zT⟩ := own5r oT
  go_wp2_with fail
  replace oQ := ((oQ.other (by first | (simp; done) | (simp; omega) | omega | (dsimp only; omega)) (a := ⟨w3.heap.size, 3, none⟩) (.int .i64 val)).other (by first | (simp; done) | (simp; omega) | omega | (dsimp only; omega)) (a := ⟨w3.heap.size, 4, none⟩) (.int .i64 at'))
  replace bel := ((bel.setCell (p := ⟨w3.heap.size, 3, none⟩) (by first | (simp; done) | (simp; omega) | omega | (dsimp only; omega)) (.int .i64 val)).setCell (p := ⟨w3.heap.size, 4, none⟩) (by first | (simp; done) | (simp; omega) | omega | (dsimp only; omega)) (.int .i64 at'))
  replace SL := Lib.hid (SL0.out.below bel)
  replace oT : Own _ (w3.heap.size) [.int .i64 x.o, .int .i64 x.n, .int .i64 x.k, .int .i64 val, .int .i64 at'] 26 := ((oT.set 3 (.int .i64 val)).set 4 (.int .i64 at'))
  clear cQ0 fQ zQ cT0 cT1 cT2 cT3 cT4 fT zT
  generalize ((w5.setCell ⟨w3.heap.size, 3, none⟩ (.int .i64 val)).setCell ⟨w3.heap.size, 4, none⟩ (.int .i64 at')) = w6 at oQ oT SL bel ⊢
  obtain ⟨cQ0, fQ, zQ⟩ := own1 oQ
  obtain ⟨cT0, cT1, cT2, cT3, cT4, fT, zT⟩ := own5r oT
  go_wp2_with fail
  refine (put_lit (.slice (some ⟨b, off, none⟩) rs.length cap) rs ⟨x.o, x.n, x.k, val, at'⟩ me 5 [] _ SL.out HE.out.1).mono ?_
  rintro e w7 ⟨vp, rfl, sP, _, hb⟩
  replace oQ := oQ.below hb
  replace oT := oT.below hb
  replace SL := Lib.hid (SL.out.below hb)
  replace bel := belowTo bel hb (by exact bel.size)
  clear hb
  clear cQ0 fQ zQ cT0 cT1 cT2 cT3 cT4 fT zT
  obtain ⟨cQ0, fQ, zQ⟩ := own1 oQ
  obtain ⟨cT0, cT1, cT2, cT3, cT4, fT, zT⟩ := own5r oT
  obtain ⟨pp, cp, rfl⟩ := slr_form 0 sP rfl
  clear sP
  go_wp2_with fail
  have oP : Own (w7.alloc (Obj.cells #[.slice pp 0 cp] 24)) w7.heap.size [.slice pp 0 cp] 24 := own_at _ _ rfl
  have ltPQ : w.heap.size < w7.heap.size := zQ
  have ltPT : w3.heap.size < w7.heap.size := zT
  replace oQ := oQ.alloc (Obj.cells #[.slice pp 0 cp] 24)
  replace oT := oT.alloc (Obj.cells #[.slice pp 0 cp] 24)
  replace SL := Lib.hid (SL.out.below (belowNew w7 (Obj.cells #[.slice pp 0 cp] 24)))
  replace bel := bel.alloc bel.size (Obj.cells #[.slice pp 0 cp] 24)
  clear cQ0 fQ zQ cT0 cT1 cT2 cT3 cT4 fT zT
  generalize w7.alloc (Obj.cells #[.slice pp 0 cp] 24) = w8 at oQ oT oP SL bel ⊢
  obtain ⟨cQ0, fQ, zQ⟩ := own1 oQ
  obtain ⟨cT0, cT1, cT2, cT3, cT4, fT, zT⟩ := own5r oT
  obtain ⟨cP0, fP, zP⟩ := own1 oP
  have oQd := oQ.drew
  have oTd := oT.drew
  have SLd := Lib.hid (SL.out.below (Below.refl _ w8).drew)
  have BEd := Lib.hid bel.drew
  have dT0 : w8.drew.cell? ⟨w3.heap.size, 0, none⟩ = some (.int .i64 x.o) := cT0
  have dT1 : w8.drew.cell? ⟨w3.heap.size, 1, none⟩ = some (.int .i64 x.n) := cT1
  have dT2 : w8.drew.cell? ⟨w3.heap.size, 2, none⟩ = some (.int .i64 x.k) := cT2
  have dT3 : w8.drew.cell? ⟨w3.heap.size, 3, none⟩ = some (.int .i64 val) := cT3
  have dT4 : w8.drew.cell? ⟨w3.heap.size, 4, none⟩ = some (.int .i64 at') := cT4
  have dQ0 : w8.drew.cell? ⟨w.heap.size, 0, none⟩ = some (.slice (some ⟨b, off, none⟩) rs.length cap) := cQ0
  have dzQ : w.heap.size < w8.drew.heap.size := zQ
  have dzT : w3.heap.size < w8.drew.heap.size := zT
  go_region_held3 (fun w' => w'.cell? ⟨w.heap.size, 0, none⟩ = some (.slice (some ⟨b, off, none⟩) rs.length cap) ∧ w'.cell? ⟨w3.heap.size, 0, none⟩ = some (.int .i64 x.o) ∧ w'.cell? ⟨w3.heap.size, 1, none⟩ = some (.int .i64 x.n) ∧ w'.cell? ⟨w3.heap.size, 2, none⟩ = some (.int .i64 x.k) ∧ w'.cell? ⟨w3.heap.size, 3, none⟩ = some (.int .i64 val) ∧ w'.cell? ⟨w3.heap.size, 4, none⟩ = some (.int .i64 at') ∧ w.heap.size < w'.heap.size ∧ w3.heap.size < w'.heap.size)
    (((try dsimp only); (repeat' apply And.intro) <;> first | assumption | (rw [cell_newq (by assumption)]; assumption) | (change (World.alloc _ _).cell? _ = _; rw [cell_newq (by assumption)]; assumption) | exact size_newq (by assumption) | (rw [cell_setq (by first | assumption | (simp; omega))]; first | assumption | (rw [cell_newq (by assumption)]; assumption)) | (simp; omega)))
    (first | (go_at_call 16; refine (drop_lit (.slice (some ⟨b, off, none⟩) rs.length cap) rs x.o x.n ds _ (by first | exact SLd.out | exact (SL.out.below (belowNew _ _)).below (Below.refl _ _).drew) HDS.out).mono ?_; rintro e w9 ⟨vd, rfl, sD, _, hb⟩; have oQ9 := (by first | exact oQd.below hb | exact ((oQ.alloc _).drew).below hb : Own w9 w.heap.size [.slice (some ⟨b, off, none⟩) rs.length cap] 24); have oT9 := (by first | exact oTd.below hb | exact ((oT.alloc _).drew).below hb : Own w9 w3.heap.size [.int .i64 x.o, .int .i64 x.n, .int .i64 x.k, .int .i64 val, .int .i64 at'] 26); have SD9 := Lib.hid sD; have BE9 := Lib.hid (by first | exact belowTo BEd.out hb BEd.out.size | exact belowTo (bel.alloc bel.size _).drew hb (by have := bel.size; simp; omega) : Below w.heap.size w w9); obtain ⟨eQ0, _, yQ⟩ := own1 oQ9; obtain ⟨eT0, eT1, eT2, eT3, eT4, _, yT⟩ := own5r oT9; obtain ⟨pd, capd, rfl⟩ := slr_form _ sD rfl; (try (have hN9 := own_lastd hb; obtain ⟨cN90, fN9, zN9⟩ := own1 hN9)); clear sD hb) | (go_at_call 11; refine (put_lit (.slice pd ds.length capd) ds ⟨x.o, x.n, x.k, val, at'⟩ me 0 l2 _ (by first | exact SD9.out | exact SD9.out.below (belowNew _ _)) HE2.out).mono ?_; rintro e w10 ⟨vb, rfl, sB, _, hb⟩; have oQ10 := (by first | exact oQ9.below hb | exact (oQ9.alloc _).below hb : Own w10 w.heap.size [.slice (some ⟨b, off, none⟩) rs.length cap] 24); have oT10 := (by first | exact oT9.below hb | exact (oT9.alloc _).below hb : Own w10 w3.heap.size [.int .i64 x.o, .int .i64 x.n, .int .i64 x.k, .int .i64 val, .int .i64 at'] 26); have BE10 := Lib.hid (by first | exact belowTo BE9.out hb BE9.out.size | exact belowTo (BE9.out.alloc BE9.out.size _) hb (by have := BE9.out.size; simp; omega) : Below w.heap.size w w10); obtain ⟨eQ0, _, yQ⟩ := own1 oQ10; obtain ⟨eT0, eT1, eT2, eT3, eT4, _, yT⟩ := own5r oT10; obtain ⟨pb, capb, rfl⟩ := slr_form _ sB rfl; (try (have hN10 := hN9.below hb; obtain ⟨cN100, fN10, zN10⟩ := own1 hN10)); (try (have hN10 := own_last hb; obtain ⟨cN100, fN10, zN10⟩ := own1 hN10)); clear sB hb))
  all_goals go_wp2
  all_goals (go_ret; refine ⟨ret_bool (by first | rfl | (simp; done)), ?_⟩)
  all_goals (repeat (first | (with_reducible exact bel) | (with_reducible exact BE10.out) | (with_reducible refine belowSet ?_ _ _ _ ?_) | (with_reducible refine Below.drew ?_) | (with_reducible refine Below.alloc ?_ ?_ _)))
  all_goals (first | omega | (simp; omega) | (have := bel.size; have := BE9.out.size; have := BE10.out.size; simp; omega))

set_option linter.unusedVariables false in
set_option maxRecDepth 100000 in
set_option maxHeartbeats 2000000 in
theorem tw_own (v : Value) (rs : List Rd) (pk : Int) (j : Nat) (val at' me : Int) (w : World) (sl : SlR w v rs) (hs : decide (rs.length ≤ 40) = true) (hv : vdB rs = true) (h0 : ((rs.length : Int) == 0) = false) (hm0 : 0 ≤ me) (hm1 : me < 60) (ha0 : 0 ≤ at') (ha1 : at' ≤ 1000000000) (hp0 : 0 ≤ pk) (hp1 : pk ≤ 255) (hpj : pk.tmod (rs.length : Int) = (j : Int)) (x : Rd) (hx : rs[j]? = some x) (he : (putE rs ⟨x.o, x.n, x.k, val, at'⟩ me = 5 ∧ putL rs ⟨x.o, x.n, x.k, val, at'⟩ me = []) ∧ True) (ds l2 : List Rd) (hds : dropL rs x.o x.n = ds) (E2 : Int) (he2 : putE ds ⟨x.o, x.n, x.k, val, at'⟩ me = E2 ∧ putL ds ⟨x.o, x.n, x.k, val, at'⟩ me = l2) (hom : (x.o == me) = true) :
    Calls Try.prog 8 #[.agg #[v], .int .u8 pk, .int .i64 val, .int .i64 at', .int .i64 me] w fun e w' => e = .returned (.bool true) ∧ Below w.heap.size w w' := by
  obtain ⟨p, cap, rfl, hlc, hcm, parts⟩ := sl
  have SL0 := Lib.hid (show SlR w (.slice p rs.length cap) rs from ⟨p, cap, rfl, hlc, hcm, parts⟩)
  unfold maxLen at hcm
  clear parts
  have HS := Lib.hid hs
  clear hs
  have HV := Lib.hid hv
  clear hv
  have HE := Lib.hid he
  clear he
  have HX := Lib.hid hx
  clear hx
  have HDS := Lib.hid hds
  clear hds
  have HE2 := Lib.hid he2
  clear he2
  go_enter Try.func8, Try.ntmps8
  have i0 : (0 : Int) ≤ (j : Int) := Int.natCast_nonneg _
  have i1 : (j : Int) < (rs.length : Int) := by have := (List.getElem?_eq_some_iff.1 HX.out).1; omega
  have i2 : (0 : Int) < (rs.length : Int) := by omega
  have hne : ¬ rs = [] := by rintro rfl; simp at i2
  have hpm : pk % (rs.length : Int) = (j : Int) := by rw [← hpj, Int.tmod_eq_emod_of_nonneg hp0]
  have wrp : IntKind.i64.wrap pk = pk := IntWalk.i64_in _ (by omega)
  have wrj : IntKind.i64.wrap (j : Int) = (j : Int) := IntWalk.i64_in _ (by omega)
  go_wp2_with fail
  refine (head_true _).mono ?_
  rintro e w1 ⟨rfl, hb⟩
  have oQ : Own w1 w.heap.size [.slice p rs.length cap] 24 := (own_at _ _ rfl).below hb
  have bel := belowTo ((Below.refl w.heap.size w).alloc (by simp) _) hb (by simp)
  clear hb
  obtain ⟨cQ0, fQ, zQ⟩ := own1 oQ
  have SL := Lib.hid (SL0.out.below bel)
  go_wp2_with fail
  refine (short_lit (.slice p rs.length cap) rs true _ SL.out HS.out).mono ?_
  rintro e w2 ⟨rfl, hb⟩
  replace oQ := oQ.below hb
  replace SL := Lib.hid (SL.out.below hb)
  replace bel := belowTo bel hb (by exact bel.size)
  clear hb
  clear cQ0 fQ zQ
  obtain ⟨cQ0, fQ, zQ⟩ := own1 oQ
  go_wp2_with fail
  refine (rqvalid_lit (.slice p rs.length cap) rs true _ SL.out HV.out).mono ?_
  rintro e w3 ⟨rfl, hb⟩
  replace oQ := oQ.below hb
  replace SL := Lib.hid (SL.out.below hb)
  replace bel := belowTo bel hb (by exact bel.size)
  clear hb
  clear cQ0 fQ zQ
  obtain ⟨cQ0, fQ, zQ⟩ := own1 oQ
  obtain ⟨p1, cap1, e1, _, _, parts⟩ := SL.out
  cases e1
  obtain ⟨x', b, off, hx', rfl, hbl, d0, d1, d2, d3, d4⟩ := SlR.at parts (Below.refl _ _) (List.getElem?_eq_some_iff.1 HX.out).1
  obtain rfl : x = x' := by have := HX.out; rw [hx'] at this; exact (Option.some.inj this).symm
  clear hx' parts
  go_wp2_with fail
  go_region_held3 (fun w' => w'.cell? ⟨w.heap.size, 0, none⟩ = some (.slice (some ⟨b, off, none⟩) rs.length cap) ∧ w'.cell? ⟨b, off + j * 5, none⟩ = some (.int .i64 x.o) ∧ w'.cell? ⟨b, off + j * 5 + 1, none⟩ = some (.int .i64 x.n) ∧ w'.cell? ⟨b, off + j * 5 + 2, none⟩ = some (.int .i64 x.k) ∧ w'.cell? ⟨b, off + j * 5 + 3, none⟩ = some (.int .i64 x.v) ∧ w'.cell? ⟨b, off + j * 5 + 4, none⟩ = some (.int .i64 x.a))
    (((try dsimp only); (repeat' apply And.intro) <;> first | assumption | (rw [cell_newq (by assumption)]; assumption) | (change (World.alloc _ _).cell? _ = _; rw [cell_newq (by assumption)]; assumption)))
    (fail)
  clear d0 d1 d2 d3 d4
  have oT : Own (w3.alloc (Obj.cells #[.int .i64 x.o, .int .i64 x.n, .int .i64 x.k, .int .i64 x.v, .int .i64 x.a] 26)).drew w3.heap.size [.int .i64 x.o, .int .i64 x.n, .int .i64 x.k, .int .i64 x.v, .int .i64 x.a] 26 := (own_at _ _ rfl).drew
  have ltTQ : w.heap.size < w3.heap.size := zQ
  replace oQ := (oQ.alloc (Obj.cells #[.int .i64 x.o, .int .i64 x.n, .int .i64 x.k, .int .i64 x.v, .int .i64 x.a] 26)).drew
  replace SL := Lib.hid ((SL.out.below (belowNew w3 (Obj.cells #[.int .i64 x.o, .int .i64 x.n, .int .i64 x.k, .int .i64 x.v, .int .i64 x.a] 26))).below (Below.refl _ _).drew)
  replace bel := (bel.alloc bel.size (Obj.cells #[.int .i64 x.o, .int .i64 x.n, .int .i64 x.k, .int .i64 x.v, .int .i64 x.a] 26)).drew
  clear cQ0 fQ zQ
  generalize (w3.alloc (Obj.cells #[.int .i64 x.o, .int .i64 x.n, .int .i64 x.k, .int .i64 x.v, .int .i64 x.a] 26)).drew = w5 at oQ oT SL bel ⊢
  obtain ⟨cQ0, fQ, zQ⟩ := own1 oQ
  obtain ⟨cT0, cT1, cT2, cT3, cT4, fT, zT⟩ := own5r oT
  go_wp2_with fail
  replace oQ := ((oQ.other (by first | (simp; done) | (simp; omega) | omega | (dsimp only; omega)) (a := ⟨w3.heap.size, 3, none⟩) (.int .i64 val)).other (by first | (simp; done) | (simp; omega) | omega | (dsimp only; omega)) (a := ⟨w3.heap.size, 4, none⟩) (.int .i64 at'))
  replace bel := ((bel.setCell (p := ⟨w3.heap.size, 3, none⟩) (by first | (simp; done) | (simp; omega) | omega | (dsimp only; omega)) (.int .i64 val)).setCell (p := ⟨w3.heap.size, 4, none⟩) (by first | (simp; done) | (simp; omega) | omega | (dsimp only; omega)) (.int .i64 at'))
  replace SL := Lib.hid (SL0.out.below bel)
  replace oT : Own _ (w3.heap.size) [.int .i64 x.o, .int .i64 x.n, .int .i64 x.k, .int .i64 val, .int .i64 at'] 26 := ((oT.set 3 (.int .i64 val)).set 4 (.int .i64 at'))
  clear cQ0 fQ zQ cT0 cT1 cT2 cT3 cT4 fT zT
  generalize ((w5.setCell ⟨w3.heap.size, 3, none⟩ (.int .i64 val)).setCell ⟨w3.heap.size, 4, none⟩ (.int .i64 at')) = w6 at oQ oT SL bel ⊢
  obtain ⟨cQ0, fQ, zQ⟩ := own1 oQ
  obtain ⟨cT0, cT1, cT2, cT3, cT4, fT, zT⟩ := own5r oT
  go_wp2_with fail
  refine (put_lit (.slice (some ⟨b, off, none⟩) rs.length cap) rs ⟨x.o, x.n, x.k, val, at'⟩ me 5 [] _ SL.out HE.out.1).mono ?_
  rintro e w7 ⟨vp, rfl, sP, _, hb⟩
  replace oQ := oQ.below hb
  replace oT := oT.below hb
  replace SL := Lib.hid (SL.out.below hb)
  replace bel := belowTo bel hb (by exact bel.size)
  clear hb
  clear cQ0 fQ zQ cT0 cT1 cT2 cT3 cT4 fT zT
  obtain ⟨cQ0, fQ, zQ⟩ := own1 oQ
  obtain ⟨cT0, cT1, cT2, cT3, cT4, fT, zT⟩ := own5r oT
  obtain ⟨pp, cp, rfl⟩ := slr_form 0 sP rfl
  clear sP
  go_wp2_with fail
  have oP : Own (w7.alloc (Obj.cells #[.slice pp 0 cp] 24)) w7.heap.size [.slice pp 0 cp] 24 := own_at _ _ rfl
  have ltPQ : w.heap.size < w7.heap.size := zQ
  have ltPT : w3.heap.size < w7.heap.size := zT
  replace oQ := oQ.alloc (Obj.cells #[.slice pp 0 cp] 24)
  replace oT := oT.alloc (Obj.cells #[.slice pp 0 cp] 24)
  replace SL := Lib.hid (SL.out.below (belowNew w7 (Obj.cells #[.slice pp 0 cp] 24)))
  replace bel := bel.alloc bel.size (Obj.cells #[.slice pp 0 cp] 24)
  clear cQ0 fQ zQ cT0 cT1 cT2 cT3 cT4 fT zT
  generalize w7.alloc (Obj.cells #[.slice pp 0 cp] 24) = w8 at oQ oT oP SL bel ⊢
  obtain ⟨cQ0, fQ, zQ⟩ := own1 oQ
  obtain ⟨cT0, cT1, cT2, cT3, cT4, fT, zT⟩ := own5r oT
  obtain ⟨cP0, fP, zP⟩ := own1 oP
  have oQd := oQ.drew
  have oTd := oT.drew
  have SLd := Lib.hid (SL.out.below (Below.refl _ w8).drew)
  have BEd := Lib.hid bel.drew
  have dT0 : w8.drew.cell? ⟨w3.heap.size, 0, none⟩ = some (.int .i64 x.o) := cT0
  have dT1 : w8.drew.cell? ⟨w3.heap.size, 1, none⟩ = some (.int .i64 x.n) := cT1
  have dT2 : w8.drew.cell? ⟨w3.heap.size, 2, none⟩ = some (.int .i64 x.k) := cT2
  have dT3 : w8.drew.cell? ⟨w3.heap.size, 3, none⟩ = some (.int .i64 val) := cT3
  have dT4 : w8.drew.cell? ⟨w3.heap.size, 4, none⟩ = some (.int .i64 at') := cT4
  have dQ0 : w8.drew.cell? ⟨w.heap.size, 0, none⟩ = some (.slice (some ⟨b, off, none⟩) rs.length cap) := cQ0
  have dzQ : w.heap.size < w8.drew.heap.size := zQ
  have dzT : w3.heap.size < w8.drew.heap.size := zT
  go_region_held3 (fun w' => w'.cell? ⟨w.heap.size, 0, none⟩ = some (.slice (some ⟨b, off, none⟩) rs.length cap) ∧ w'.cell? ⟨w3.heap.size, 0, none⟩ = some (.int .i64 x.o) ∧ w'.cell? ⟨w3.heap.size, 1, none⟩ = some (.int .i64 x.n) ∧ w'.cell? ⟨w3.heap.size, 2, none⟩ = some (.int .i64 x.k) ∧ w'.cell? ⟨w3.heap.size, 3, none⟩ = some (.int .i64 val) ∧ w'.cell? ⟨w3.heap.size, 4, none⟩ = some (.int .i64 at') ∧ w.heap.size < w'.heap.size ∧ w3.heap.size < w'.heap.size)
    (((try dsimp only); (repeat' apply And.intro) <;> first | assumption | (rw [cell_newq (by assumption)]; assumption) | (change (World.alloc _ _).cell? _ = _; rw [cell_newq (by assumption)]; assumption) | exact size_newq (by assumption) | (rw [cell_setq (by first | assumption | (simp; omega))]; first | assumption | (rw [cell_newq (by assumption)]; assumption)) | (simp; omega)))
    (first | (go_at_call 16; refine (drop_lit (.slice (some ⟨b, off, none⟩) rs.length cap) rs x.o x.n ds _ (by first | exact SLd.out | exact (SL.out.below (belowNew _ _)).below (Below.refl _ _).drew) HDS.out).mono ?_; rintro e w9 ⟨vd, rfl, sD, _, hb⟩; have oQ9 := (by first | exact oQd.below hb | exact ((oQ.alloc _).drew).below hb : Own w9 w.heap.size [.slice (some ⟨b, off, none⟩) rs.length cap] 24); have oT9 := (by first | exact oTd.below hb | exact ((oT.alloc _).drew).below hb : Own w9 w3.heap.size [.int .i64 x.o, .int .i64 x.n, .int .i64 x.k, .int .i64 val, .int .i64 at'] 26); have SD9 := Lib.hid sD; have BE9 := Lib.hid (by first | exact belowTo BEd.out hb BEd.out.size | exact belowTo (bel.alloc bel.size _).drew hb (by have := bel.size; simp; omega) : Below w.heap.size w w9); obtain ⟨eQ0, _, yQ⟩ := own1 oQ9; obtain ⟨eT0, eT1, eT2, eT3, eT4, _, yT⟩ := own5r oT9; obtain ⟨pd, capd, rfl⟩ := slr_form _ sD rfl; (try (have hN9 := own_lastd hb; obtain ⟨cN90, fN9, zN9⟩ := own1 hN9)); clear sD hb) | (go_at_call 11; refine (put_lit (.slice pd ds.length capd) ds ⟨x.o, x.n, x.k, val, at'⟩ me E2 l2 _ (by first | exact SD9.out | exact SD9.out.below (belowNew _ _)) HE2.out).mono ?_; rintro e w10 ⟨vb, rfl, sB, _, hb⟩; have oQ10 := (by first | exact oQ9.below hb | exact (oQ9.alloc _).below hb : Own w10 w.heap.size [.slice (some ⟨b, off, none⟩) rs.length cap] 24); have oT10 := (by first | exact oT9.below hb | exact (oT9.alloc _).below hb : Own w10 w3.heap.size [.int .i64 x.o, .int .i64 x.n, .int .i64 x.k, .int .i64 val, .int .i64 at'] 26); have BE10 := Lib.hid (by first | exact belowTo BE9.out hb BE9.out.size | exact belowTo (BE9.out.alloc BE9.out.size _) hb (by have := BE9.out.size; simp; omega) : Below w.heap.size w w10); obtain ⟨eQ0, _, yQ⟩ := own1 oQ10; obtain ⟨eT0, eT1, eT2, eT3, eT4, _, yT⟩ := own5r oT10; obtain ⟨pb, capb, rfl⟩ := slr_form _ sB rfl; (try (have hN10 := hN9.below hb; obtain ⟨cN100, fN10, zN10⟩ := own1 hN10)); (try (have hN10 := own_last hb; obtain ⟨cN100, fN10, zN10⟩ := own1 hN10)); clear sB hb))
  all_goals go_wp2
  all_goals (go_ret; refine ⟨ret_bool (by first | rfl | (simp; done)), ?_⟩)
  all_goals (repeat (first | (with_reducible exact bel) | (with_reducible exact BE10.out) | (with_reducible refine belowSet ?_ _ _ _ ?_) | (with_reducible refine Below.drew ?_) | (with_reducible refine Below.alloc ?_ ?_ _)))
  all_goals (first | omega | (simp; omega) | (have := bel.size; have := BE9.out.size; have := BE10.out.size; simp; omega))

set_option linter.unusedVariables false in
theorem queueTwice_walk (v : Value) (rs : List Rd) (pk val at' me : Int) (w : World) (sl : SlR w v rs) (nk : NilOk v) (ri : ∀ r ∈ rs, RdIn r) (g0 : IntKind.u8.has pk) (g1 : IntKind.i64.has val) (g2 : IntKind.i64.has at') (g3 : IntKind.i64.has me) :
    Calls Try.prog 8 #[.agg #[v], .int .u8 pk, .int .i64 val, .int .i64 at', .int .i64 me] w fun e w' => e = .returned (.bool true) ∧ Below w.heap.size w w' := by
  have hp : 0 ≤ pk ∧ pk ≤ 255 := by simpa [IntKind.has, IntKind.min, IntKind.max, IntKind.signed, IntKind.bits] using g0
  cases hs : decide (rs.length ≤ 40) with
  | false => exact tw_long v rs pk val at' me w sl hs
  | true =>
    cases hv : vdB rs with
    | false => exact tw_bad v rs pk val at' me w sl hs hv
    | true =>
      cases h0 : ((rs.length : Int) == 0) with
      | true => exact tw_none v rs pk val at' me w sl hs hv h0
      | false =>
        by_cases m0 : me < 0
        · exact tw_neg v rs pk val at' me w sl hs hv h0 m0
        · by_cases m1 : 60 ≤ me
          · exact tw_far v rs pk val at' me w sl hs hv h0 (by omega) m1
          · by_cases a0 : at' < 0
            · exact tw_at0 v rs pk val at' me w sl hs hv h0 (by omega) (by omega) a0
            · by_cases a1 : 1000000000 < at'
              · exact tw_at1 v rs pk val at' me w sl hs hv h0 (by omega) (by omega) (by omega) a1
              · have hl : 0 < (rs.length : Int) := by simp at h0; have := List.length_pos_iff.2 h0; omega
                have e1 : pk.tmod (rs.length : Int) = pk % (rs.length : Int) := Int.tmod_eq_emod_of_nonneg hp.1
                have e2 := Int.emod_nonneg pk (by omega : (rs.length : Int) ≠ 0)
                have e3 := Int.emod_lt_of_pos pk hl
                obtain ⟨j, hj⟩ : ∃ j : Nat, pk.tmod (rs.length : Int) = (j : Int) := ⟨(pk % (rs.length : Int)).toNat, by omega⟩
                have hjl : j < rs.length := by omega
                have hx : rs[j]? = some rs[j] := List.getElem?_eq_getElem hjl
                obtain ⟨t1, t2⟩ := twice_plain (v := val) (a := at') (me := me) hv (List.getElem_mem hjl) (by omega) (by omega) (by omega) (by omega)
                have l1 : putL rs ⟨rs[j].o, rs[j].n, rs[j].k, val, at'⟩ me = [] := by rw [putL, t1, if_neg (by omega)]
                cases ho : (rs[j].o == me) with
                | true => exact tw_own v rs pk j val at' me w sl hs hv h0 (by omega) (by omega) (by omega) (by omega) hp.1 hp.2 hj _ hx ⟨⟨t1, l1⟩, trivial⟩ _ _ rfl _ ⟨rfl, rfl⟩ ho
                | false => exact tw_other v rs pk j val at' me w sl hs hv h0 (by omega) (by omega) (by omega) (by omega) hp.1 hp.2 hj _ hx ⟨⟨t1, l1⟩, trivial⟩ _ _ rfl ⟨t2 (by simpa using ho), rfl⟩ ho

end Go.Proofs.Ytlfdbmndikdhdaa

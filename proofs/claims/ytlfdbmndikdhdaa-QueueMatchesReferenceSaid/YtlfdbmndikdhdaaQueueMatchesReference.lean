/- QueueMatchesReference: the walk of the law. It returns true for every input, and leaves old memory alone. -/
import Derived.Test.YtlfdbmndikdhdaaRPut27
import Derived.Test.YtlfdbmndikdhdaaOpen27
import Derived.Test.YtlfdbmndikdhdaaPlaces27
import Derived.WalkKit
import Derived.Deep.RegionHeld3
namespace Go.Proofs.Ytlfdbmndikdhdaa
open Go.RowKit

/-- What Head answers. -/
def hdR (rs : List Rd) : Rd := if vdB rs = true then rs.headD ⟨0, 0, 0, 0, 0⟩ else ⟨0, 0, 0, 0, 0⟩
def hdB (rs : List Rd) : Bool := vdB rs && decide (0 < rs.length)
theorem head_lit (v : Value) (rs : List Rd) (x : Rd) (b : Bool) (w : World) (sl : SlR w v rs) (hx : hdR rs = x ∧ hdB rs = b) :
    Calls Try.prog 13 #[.agg #[v]] w fun e w' => e = .returned (.tuple #[.agg #[.int .i64 x.o, .int .i64 x.n, .int .i64 x.k, .int .i64 x.v, .int .i64 x.a], .bool b]) ∧ Below w.heap.size w w' := by
  obtain ⟨rfl, rfl⟩ := hx
  cases hv : vdB rs with
  | false => have := head_bad v rs w sl hv; simpa [hdR, hdB, hv] using this
  | true =>
    cases rs with
    | nil => have := head_none v [] w sl hv rfl; simpa [hdR, hdB, hv] using this
    | cons a l => have := head_yes v (a :: l) a w sl hv rfl; simpa [hdR, hdB, hv] using this
theorem rhead_lit (v : Value) (rs : List Rd) (x : Rd) (b : Bool) (w : World) (sl : SlR w v rs) (hx : hdR rs = x ∧ hdB rs = b) :
    Calls Try.prog 14 #[.agg #[v]] w fun e w' => e = .returned (.tuple #[.agg #[.int .i64 x.o, .int .i64 x.n, .int .i64 x.k, .int .i64 x.v, .int .i64 x.a], .bool b]) ∧ Below w.heap.size w w' := by
  obtain ⟨rfl, rfl⟩ := hx
  cases hv : vdB rs with
  | false => have := rhead_bad v rs w sl hv; simpa [hdR, hdB, hv] using this
  | true =>
    cases rs with
    | nil => have := rhead_none v [] w sl hv rfl; simpa [hdR, hdB, hv] using this
    | cons a l => have := rhead_yes v (a :: l) a w sl hv rfl; simpa [hdR, hdB, hv] using this
theorem rfull_lit (v : Value) (rs : List Rd) (x : Bool) (w : World) (sl : SlR w v rs) (h : (vdB rs && decide (14 ≤ rs.length)) = x) :
    Calls Try.prog 19 #[.agg #[v]] w fun e w' => e = .returned (.bool x) ∧ Below w.heap.size w w' := by
  have := rfull_any v rs w sl
  rwa [h] at this
theorem rdrop_lit (v : Value) (rs : List Rd) (o n : Int) (l : List Rd) (w : World) (sl : SlR w v rs) (h : dropL rs o n = l) :
    Calls Try.prog 17 #[.agg #[v], .int .i64 o, .int .i64 n] w fun e w' => SPost w l e w' := by
  subst h
  cases hv : vdB rs with
  | false => exact rdrop_bad v rs o n w sl hv
  | true => exact rdrop_good v rs o n w sl hv
theorem msame_lit (u v : Value) (rs ss : List Rd) (x : Bool) (w : World) (sl : SlR w u rs) (sm : SlR w v ss) (h : sameFrom rs ss = x) :
    Calls Try.prog 15 #[.agg #[u], .agg #[v]] w fun e w' => e = .returned (.bool x) ∧ Below w.heap.size w w' := by
  have := same_any u v rs ss w sl sm
  rwa [h] at this

set_option linter.unusedVariables false in
set_option maxRecDepth 100000 in
set_option maxHeartbeats 2000000 in
theorem qm_long (v : Value) (rs : List Rd) (r : Rd) (me o n : Int) (w : World) (sl : SlR w v rs) (nk : NilOk v) (hs : decide (rs.length ≤ 40) = false) :
    Calls Try.prog 3 #[.agg #[v], .agg #[.int .i64 r.o, .int .i64 r.n, .int .i64 r.k, .int .i64 r.v, .int .i64 r.a], .int .i64 me, .int .i64 o, .int .i64 n] w fun e w' => e = .returned (.bool true) ∧ Below w.heap.size w w' := by
  obtain ⟨p, cap, rfl, hlc, hcm, parts⟩ := sl
  have NK := Lib.hid nk
  have SL0 := Lib.hid (show SlR w (.slice p rs.length cap) rs from ⟨p, cap, rfl, hlc, hcm, parts⟩)
  unfold maxLen at hcm
  clear parts nk
  have HS := Lib.hid hs
  clear hs
  go_enter Try.func3, Try.ntmps3
  go_wp2_with fail
  refine (head_true _).mono ?_
  rintro e w1 ⟨rfl, hb⟩
  have oQ : Own w1 w.heap.size [.slice p rs.length cap] 24 := ((own_at _ _ rfl).alloc _).below hb
  have oR : Own w1 (w.heap.size + 1) [.int .i64 r.o, .int .i64 r.n, .int .i64 r.k, .int .i64 r.v, .int .i64 r.a] 26 := (own_at _ _ (by simp)).below hb
  have bel := belowTo (((Below.refl w.heap.size w).alloc (by simp) _).alloc (by simp) _) hb (by simp; omega)
  clear hb
  obtain ⟨cQ0, fQ, zQ⟩ := own1 oQ
  obtain ⟨cR0, cR1, cR2, cR3, cR4, fR, zR⟩ := own5r oR
  have SL := Lib.hid (SL0.out.below bel)
  go_wp2_with fail
  refine (short_lit (.slice p rs.length cap) rs false _ SL.out HS.out).mono ?_
  rintro e w2 ⟨rfl, hb⟩
  replace oQ := oQ.below hb
  replace oR := oR.below hb
  replace SL := Lib.hid (SL.out.below hb)
  replace bel := belowTo bel hb (by exact bel.size)
  clear hb
  clear cQ0 fQ zQ cR0 cR1 cR2 cR3 cR4 fR zR
  obtain ⟨cQ0, fQ, zQ⟩ := own1 oQ
  obtain ⟨cR0, cR1, cR2, cR3, cR4, fR, zR⟩ := own5r oR
  go_wp2
  all_goals (go_ret; exact ⟨ret_bool (by simp <;> omega), bel⟩)

set_option linter.unusedVariables false in
set_option maxRecDepth 100000 in
set_option maxHeartbeats 16000000 in
theorem qm_main (v : Value) (rs : List Rd) (r : Rd) (me o n : Int) (E : Int) (l ds : List Rd) (x : Rd) (b fu : Bool) (w : World) (sl : SlR w v rs) (nk : NilOk v) (hs : decide (rs.length ≤ 40) = true) (he : putE rs r me = E ∧ putL rs r me = l) (hd : dropL rs o n = ds) (hx : hdR rs = x ∧ hdB rs = b) (hfu : (vdB rs && decide (14 ≤ rs.length)) = fu) :
    Calls Try.prog 3 #[.agg #[v], .agg #[.int .i64 r.o, .int .i64 r.n, .int .i64 r.k, .int .i64 r.v, .int .i64 r.a], .int .i64 me, .int .i64 o, .int .i64 n] w fun e w' => e = .returned (.bool true) ∧ Below w.heap.size w w' := by
  obtain ⟨p, cap, rfl, hlc, hcm, parts⟩ := sl
  have NK := Lib.hid nk
  have SL0 := Lib.hid (show SlR w (.slice p rs.length cap) rs from ⟨p, cap, rfl, hlc, hcm, parts⟩)
  unfold maxLen at hcm
  clear parts nk
  have HS := Lib.hid hs
  clear hs
  have HE := Lib.hid he
  clear he
  have HD := Lib.hid hd
  clear hd
  have HX := Lib.hid hx
  clear hx
  have HFU := Lib.hid hfu
  clear hfu
  go_enter Try.func3, Try.ntmps3
  go_wp2_with fail
  refine (head_true _).mono ?_
  rintro e w1 ⟨rfl, hb⟩
  have oQ : Own w1 w.heap.size [.slice p rs.length cap] 24 := ((own_at _ _ rfl).alloc _).below hb
  have oR : Own w1 (w.heap.size + 1) [.int .i64 r.o, .int .i64 r.n, .int .i64 r.k, .int .i64 r.v, .int .i64 r.a] 26 := (own_at _ _ (by simp)).below hb
  have bel := belowTo (((Below.refl w.heap.size w).alloc (by simp) _).alloc (by simp) _) hb (by simp; omega)
  clear hb
  obtain ⟨cQ0, fQ, zQ⟩ := own1 oQ
  obtain ⟨cR0, cR1, cR2, cR3, cR4, fR, zR⟩ := own5r oR
  have SL := Lib.hid (SL0.out.below bel)
  go_wp2_with fail
  refine (short_lit (.slice p rs.length cap) rs true _ SL.out HS.out).mono ?_
  rintro e w2 ⟨rfl, hb⟩
  replace oQ := oQ.below hb
  replace oR := oR.below hb
  replace SL := Lib.hid (SL.out.below hb)
  replace bel := belowTo bel hb (by exact bel.size)
  clear hb
  clear cQ0 fQ zQ cR0 cR1 cR2 cR3 cR4 fR zR
  obtain ⟨cQ0, fQ, zQ⟩ := own1 oQ
  obtain ⟨cR0, cR1, cR2, cR3, cR4, fR, zR⟩ := own5r oR
  go_wp2_with fail
  refine (put_lit (.slice p rs.length cap) rs r me E l _ SL.out HE.out).mono ?_
  rintro e w3 ⟨va, rfl, sA, _, hb⟩
  replace oQ := oQ.below hb
  replace oR := oR.below hb
  replace SL := Lib.hid (SL.out.below hb)
  replace bel := belowTo bel hb (by exact bel.size)
  clear hb
  clear cQ0 fQ zQ cR0 cR1 cR2 cR3 cR4 fR zR
  obtain ⟨cQ0, fQ, zQ⟩ := own1 oQ
  obtain ⟨cR0, cR1, cR2, cR3, cR4, fR, zR⟩ := own5r oR
  have SA := Lib.hid sA
  obtain ⟨pa, ca, rfl⟩ := slr_form _ sA rfl
  clear sA
  go_wp2_with fail
  have oA : Own (w3.alloc (Obj.cells #[.slice pa l.length ca] 24)) w3.heap.size [.slice pa l.length ca] 24 := own_at _ _ rfl
  have ltAQ : w.heap.size < w3.heap.size := zQ
  have ltAR : w.heap.size + 1 < w3.heap.size := zR
  replace oQ := oQ.alloc (Obj.cells #[.slice pa l.length ca] 24)
  replace oR := oR.alloc (Obj.cells #[.slice pa l.length ca] 24)
  replace SL := Lib.hid (SL.out.below (belowNew w3 (Obj.cells #[.slice pa l.length ca] 24)))
  replace SA := Lib.hid (SA.out.below (belowNew w3 (Obj.cells #[.slice pa l.length ca] 24)))
  replace bel := bel.alloc bel.size (Obj.cells #[.slice pa l.length ca] 24)
  clear cQ0 fQ zQ cR0 cR1 cR2 cR3 cR4 fR zR
  generalize w3.alloc (Obj.cells #[.slice pa l.length ca] 24) = w4 at oQ oR oA SL SA bel ⊢
  obtain ⟨cQ0, fQ, zQ⟩ := own1 oQ
  obtain ⟨cR0, cR1, cR2, cR3, cR4, fR, zR⟩ := own5r oR
  obtain ⟨cA0, fA, zA⟩ := own1 oA
  go_wp2_with fail
  refine (rput_lit (.slice p rs.length cap) rs r me E l _ SL.out NK.out HE.out).mono ?_
  rintro e w5 ⟨vb, rfl, sB, _, hb⟩
  replace oQ := oQ.below hb
  replace oR := oR.below hb
  replace oA := oA.below hb
  replace SL := Lib.hid (SL.out.below hb)
  replace SA := Lib.hid (SA.out.below hb)
  replace bel := belowTo bel hb (by exact bel.size)
  clear hb
  clear cQ0 fQ zQ cR0 cR1 cR2 cR3 cR4 fR zR cA0 fA zA
  obtain ⟨cQ0, fQ, zQ⟩ := own1 oQ
  obtain ⟨cR0, cR1, cR2, cR3, cR4, fR, zR⟩ := own5r oR
  obtain ⟨cA0, fA, zA⟩ := own1 oA
  have SB := Lib.hid sB
  obtain ⟨pb, cb, rfl⟩ := slr_form _ sB rfl
  clear sB
  go_wp2_with fail
  have oB : Own (w5.alloc (Obj.cells #[.slice pb l.length cb] 24)) w5.heap.size [.slice pb l.length cb] 24 := own_at _ _ rfl
  have ltBQ : w.heap.size < w5.heap.size := zQ
  have ltBR : w.heap.size + 1 < w5.heap.size := zR
  have ltBA : w3.heap.size < w5.heap.size := zA
  replace oQ := oQ.alloc (Obj.cells #[.slice pb l.length cb] 24)
  replace oR := oR.alloc (Obj.cells #[.slice pb l.length cb] 24)
  replace oA := oA.alloc (Obj.cells #[.slice pb l.length cb] 24)
  replace SL := Lib.hid (SL.out.below (belowNew w5 (Obj.cells #[.slice pb l.length cb] 24)))
  replace SA := Lib.hid (SA.out.below (belowNew w5 (Obj.cells #[.slice pb l.length cb] 24)))
  replace SB := Lib.hid (SB.out.below (belowNew w5 (Obj.cells #[.slice pb l.length cb] 24)))
  replace bel := bel.alloc bel.size (Obj.cells #[.slice pb l.length cb] 24)
  clear cQ0 fQ zQ cR0 cR1 cR2 cR3 cR4 fR zR cA0 fA zA
  generalize w5.alloc (Obj.cells #[.slice pb l.length cb] 24) = w6 at oQ oR oA oB SL SA SB bel ⊢
  obtain ⟨cQ0, fQ, zQ⟩ := own1 oQ
  obtain ⟨cR0, cR1, cR2, cR3, cR4, fR, zR⟩ := own5r oR
  obtain ⟨cA0, fA, zA⟩ := own1 oA
  obtain ⟨cB0, fB, zB⟩ := own1 oB
  go_wp2_with fail
  refine (head_lit (.slice p rs.length cap) rs x b _ SL.out HX.out).mono ?_
  rintro e w7 ⟨rfl, hb⟩
  replace oQ := oQ.below hb
  replace oR := oR.below hb
  replace oA := oA.below hb
  replace oB := oB.below hb
  replace SL := Lib.hid (SL.out.below hb)
  replace SA := Lib.hid (SA.out.below hb)
  replace SB := Lib.hid (SB.out.below hb)
  replace bel := belowTo bel hb (by exact bel.size)
  clear hb
  clear cQ0 fQ zQ cR0 cR1 cR2 cR3 cR4 fR zR cA0 fA zA cB0 fB zB
  obtain ⟨cQ0, fQ, zQ⟩ := own1 oQ
  obtain ⟨cR0, cR1, cR2, cR3, cR4, fR, zR⟩ := own5r oR
  obtain ⟨cA0, fA, zA⟩ := own1 oA
  obtain ⟨cB0, fB, zB⟩ := own1 oB
  go_wp2_with fail
  have oX : Own (w7.alloc (Obj.cells #[.int .i64 x.o, .int .i64 x.n, .int .i64 x.k, .int .i64 x.v, .int .i64 x.a] 26)) w7.heap.size [.int .i64 x.o, .int .i64 x.n, .int .i64 x.k, .int .i64 x.v, .int .i64 x.a] 26 := own_at _ _ rfl
  have ltXQ : w.heap.size < w7.heap.size := zQ
  have ltXR : w.heap.size + 1 < w7.heap.size := zR
  have ltXA : w3.heap.size < w7.heap.size := zA
  have ltXB : w5.heap.size < w7.heap.size := zB
  replace oQ := oQ.alloc (Obj.cells #[.int .i64 x.o, .int .i64 x.n, .int .i64 x.k, .int .i64 x.v, .int .i64 x.a] 26)
  replace oR := oR.alloc (Obj.cells #[.int .i64 x.o, .int .i64 x.n, .int .i64 x.k, .int .i64 x.v, .int .i64 x.a] 26)
  replace oA := oA.alloc (Obj.cells #[.int .i64 x.o, .int .i64 x.n, .int .i64 x.k, .int .i64 x.v, .int .i64 x.a] 26)
  replace oB := oB.alloc (Obj.cells #[.int .i64 x.o, .int .i64 x.n, .int .i64 x.k, .int .i64 x.v, .int .i64 x.a] 26)
  replace SL := Lib.hid (SL.out.below (belowNew w7 (Obj.cells #[.int .i64 x.o, .int .i64 x.n, .int .i64 x.k, .int .i64 x.v, .int .i64 x.a] 26)))
  replace SA := Lib.hid (SA.out.below (belowNew w7 (Obj.cells #[.int .i64 x.o, .int .i64 x.n, .int .i64 x.k, .int .i64 x.v, .int .i64 x.a] 26)))
  replace SB := Lib.hid (SB.out.below (belowNew w7 (Obj.cells #[.int .i64 x.o, .int .i64 x.n, .int .i64 x.k, .int .i64 x.v, .int .i64 x.a] 26)))
  replace bel := bel.alloc bel.size (Obj.cells #[.int .i64 x.o, .int .i64 x.n, .int .i64 x.k, .int .i64 x.v, .int .i64 x.a] 26)
  clear cQ0 fQ zQ cR0 cR1 cR2 cR3 cR4 fR zR cA0 fA zA cB0 fB zB
  generalize w7.alloc (Obj.cells #[.int .i64 x.o, .int .i64 x.n, .int .i64 x.k, .int .i64 x.v, .int .i64 x.a] 26) = w8 at oQ oR oA oB oX SL SA SB bel ⊢
  obtain ⟨cQ0, fQ, zQ⟩ := own1 oQ
  obtain ⟨cR0, cR1, cR2, cR3, cR4, fR, zR⟩ := own5r oR
  obtain ⟨cA0, fA, zA⟩ := own1 oA
  obtain ⟨cB0, fB, zB⟩ := own1 oB
  obtain ⟨cX0, cX1, cX2, cX3, cX4, fX, zX⟩ := own5r oX
  go_wp2_with fail
  refine (rhead_lit (.slice p rs.length cap) rs x b _ SL.out HX.out).mono ?_
  rintro e w9 ⟨rfl, hb⟩
  replace oQ := oQ.below hb
  replace oR := oR.below hb
  replace oA := oA.below hb
  replace oB := oB.below hb
  replace oX := oX.below hb
  replace SL := Lib.hid (SL.out.below hb)
  replace SA := Lib.hid (SA.out.below hb)
  replace SB := Lib.hid (SB.out.below hb)
  replace bel := belowTo bel hb (by exact bel.size)
  clear hb
  clear cQ0 fQ zQ cR0 cR1 cR2 cR3 cR4 fR zR cA0 fA zA cB0 fB zB cX0 cX1 cX2 cX3 cX4 fX zX
  obtain ⟨cQ0, fQ, zQ⟩ := own1 oQ
  obtain ⟨cR0, cR1, cR2, cR3, cR4, fR, zR⟩ := own5r oR
  obtain ⟨cA0, fA, zA⟩ := own1 oA
  obtain ⟨cB0, fB, zB⟩ := own1 oB
  obtain ⟨cX0, cX1, cX2, cX3, cX4, fX, zX⟩ := own5r oX
  go_wp2_with fail
  have oY : Own (w9.alloc (Obj.cells #[.int .i64 x.o, .int .i64 x.n, .int .i64 x.k, .int .i64 x.v, .int .i64 x.a] 26)) w9.heap.size [.int .i64 x.o, .int .i64 x.n, .int .i64 x.k, .int .i64 x.v, .int .i64 x.a] 26 := own_at _ _ rfl
  have ltYQ : w.heap.size < w9.heap.size := zQ
  have ltYR : w.heap.size + 1 < w9.heap.size := zR
  have ltYA : w3.heap.size < w9.heap.size := zA
  have ltYB : w5.heap.size < w9.heap.size := zB
  have ltYX : w7.heap.size < w9.heap.size := zX
  replace oQ := oQ.alloc (Obj.cells #[.int .i64 x.o, .int .i64 x.n, .int .i64 x.k, .int .i64 x.v, .int .i64 x.a] 26)
  replace oR := oR.alloc (Obj.cells #[.int .i64 x.o, .int .i64 x.n, .int .i64 x.k, .int .i64 x.v, .int .i64 x.a] 26)
  replace oA := oA.alloc (Obj.cells #[.int .i64 x.o, .int .i64 x.n, .int .i64 x.k, .int .i64 x.v, .int .i64 x.a] 26)
  replace oB := oB.alloc (Obj.cells #[.int .i64 x.o, .int .i64 x.n, .int .i64 x.k, .int .i64 x.v, .int .i64 x.a] 26)
  replace oX := oX.alloc (Obj.cells #[.int .i64 x.o, .int .i64 x.n, .int .i64 x.k, .int .i64 x.v, .int .i64 x.a] 26)
  replace SL := Lib.hid (SL.out.below (belowNew w9 (Obj.cells #[.int .i64 x.o, .int .i64 x.n, .int .i64 x.k, .int .i64 x.v, .int .i64 x.a] 26)))
  replace SA := Lib.hid (SA.out.below (belowNew w9 (Obj.cells #[.int .i64 x.o, .int .i64 x.n, .int .i64 x.k, .int .i64 x.v, .int .i64 x.a] 26)))
  replace SB := Lib.hid (SB.out.below (belowNew w9 (Obj.cells #[.int .i64 x.o, .int .i64 x.n, .int .i64 x.k, .int .i64 x.v, .int .i64 x.a] 26)))
  replace bel := bel.alloc bel.size (Obj.cells #[.int .i64 x.o, .int .i64 x.n, .int .i64 x.k, .int .i64 x.v, .int .i64 x.a] 26)
  clear cQ0 fQ zQ cR0 cR1 cR2 cR3 cR4 fR zR cA0 fA zA cB0 fB zB cX0 cX1 cX2 cX3 cX4 fX zX
  generalize w9.alloc (Obj.cells #[.int .i64 x.o, .int .i64 x.n, .int .i64 x.k, .int .i64 x.v, .int .i64 x.a] 26) = w10 at oQ oR oA oB oX oY SL SA SB bel ⊢
  obtain ⟨cQ0, fQ, zQ⟩ := own1 oQ
  obtain ⟨cR0, cR1, cR2, cR3, cR4, fR, zR⟩ := own5r oR
  obtain ⟨cA0, fA, zA⟩ := own1 oA
  obtain ⟨cB0, fB, zB⟩ := own1 oB
  obtain ⟨cX0, cX1, cX2, cX3, cX4, fX, zX⟩ := own5r oX
  obtain ⟨cY0, cY1, cY2, cY3, cY4, fY, zY⟩ := own5r oY
  have eq := eq_rd x x true (eqR_iff.2 rfl)
  have HSM := Lib.hid (same_iff.2 (rfl : l = l))
  have HSD := Lib.hid (same_iff.2 (rfl : ds = ds))
  have oQd := oQ.drew
  have dQ0 : w10.drew.cell? ⟨w.heap.size, 0, none⟩ = some (.slice p rs.length cap) := cQ0
  have oAd := oA.drew
  have dA0 : w10.drew.cell? ⟨w3.heap.size, 0, none⟩ = some (.slice pa l.length ca) := cA0
  have oBd := oB.drew
  have dB0 : w10.drew.cell? ⟨w5.heap.size, 0, none⟩ = some (.slice pb l.length cb) := cB0
  have oXd := oX.drew
  have dX0 : w10.drew.cell? ⟨w7.heap.size, 0, none⟩ = some (.int .i64 x.o) := cX0
  have dX1 : w10.drew.cell? ⟨w7.heap.size, 1, none⟩ = some (.int .i64 x.n) := cX1
  have dX2 : w10.drew.cell? ⟨w7.heap.size, 2, none⟩ = some (.int .i64 x.k) := cX2
  have dX3 : w10.drew.cell? ⟨w7.heap.size, 3, none⟩ = some (.int .i64 x.v) := cX3
  have dX4 : w10.drew.cell? ⟨w7.heap.size, 4, none⟩ = some (.int .i64 x.a) := cX4
  have oYd := oY.drew
  have dY0 : w10.drew.cell? ⟨w9.heap.size, 0, none⟩ = some (.int .i64 x.o) := cY0
  have dY1 : w10.drew.cell? ⟨w9.heap.size, 1, none⟩ = some (.int .i64 x.n) := cY1
  have dY2 : w10.drew.cell? ⟨w9.heap.size, 2, none⟩ = some (.int .i64 x.k) := cY2
  have dY3 : w10.drew.cell? ⟨w9.heap.size, 3, none⟩ = some (.int .i64 x.v) := cY3
  have dY4 : w10.drew.cell? ⟨w9.heap.size, 4, none⟩ = some (.int .i64 x.a) := cY4
  have SLd := Lib.hid (SL.out.below (Below.refl _ w10).drew)
  have SAd := Lib.hid (SA.out.below (Below.refl _ w10).drew)
  have SBd := Lib.hid (SB.out.below (Below.refl _ w10).drew)
  have BEd := Lib.hid bel.drew
  clear bel cR0 cR1 cR2 cR3 cR4 fR zR oR
  go_region_held3 (fun w' => w'.cell? ⟨w.heap.size, 0, none⟩ = some (.slice p rs.length cap) ∧ w'.cell? ⟨w3.heap.size, 0, none⟩ = some (.slice pa l.length ca) ∧ w'.cell? ⟨w5.heap.size, 0, none⟩ = some (.slice pb l.length cb) ∧ w'.cell? ⟨w7.heap.size, 0, none⟩ = some (.int .i64 x.o) ∧ w'.cell? ⟨w7.heap.size, 1, none⟩ = some (.int .i64 x.n) ∧ w'.cell? ⟨w7.heap.size, 2, none⟩ = some (.int .i64 x.k) ∧ w'.cell? ⟨w7.heap.size, 3, none⟩ = some (.int .i64 x.v) ∧ w'.cell? ⟨w7.heap.size, 4, none⟩ = some (.int .i64 x.a) ∧ w'.cell? ⟨w9.heap.size, 0, none⟩ = some (.int .i64 x.o) ∧ w'.cell? ⟨w9.heap.size, 1, none⟩ = some (.int .i64 x.n) ∧ w'.cell? ⟨w9.heap.size, 2, none⟩ = some (.int .i64 x.k) ∧ w'.cell? ⟨w9.heap.size, 3, none⟩ = some (.int .i64 x.v) ∧ w'.cell? ⟨w9.heap.size, 4, none⟩ = some (.int .i64 x.a))
    (((try dsimp only); (repeat' apply And.intro) <;> assumption))
    (first | (go_at_call_of 15 (Value.agg #[.slice pa l.length ca]); refine (msame_lit _ _ l l true _ SAd.out SBd.out HSM.out).mono ?_; rintro e wa ⟨rfl, hb⟩; have oQwa := oQd.below hb; have oAwa := oAd.below hb; have oBwa := oBd.below hb; have oXwa := oXd.below hb; have oYwa := oYd.below hb; have SLwa := Lib.hid (SLd.out.below hb); obtain ⟨eQ0, _⟩ := own1 oQwa; obtain ⟨eA0, _⟩ := own1 oAwa; obtain ⟨eB0, _⟩ := own1 oBwa; obtain ⟨eX0, eX1, eX2, eX3, eX4, _⟩ := own5r oXwa; obtain ⟨eY0, eY1, eY2, eY3, eY4, _⟩ := own5r oYwa; have BEwa := Lib.hid (belowTo BEd.out hb BEd.out.size); clear hb) | (go_at_call 16; refine (drop_lit (.slice p rs.length cap) rs o n ds _ SLwa.out HD.out).mono ?_; rintro e wb ⟨vd, rfl, sD, _, hb⟩; have oQwb := oQwa.below hb; have oAwb := oAwa.below hb; have oBwb := oBwa.below hb; have oXwb := oXwa.below hb; have oYwb := oYwa.below hb; have SLwb := Lib.hid (SLwa.out.below hb); have SDwb := Lib.hid sD; clear sD; obtain ⟨eQ0, _⟩ := own1 oQwb; obtain ⟨eA0, _⟩ := own1 oAwb; obtain ⟨eB0, _⟩ := own1 oBwb; obtain ⟨eX0, eX1, eX2, eX3, eX4, _⟩ := own5r oXwb; obtain ⟨eY0, eY1, eY2, eY3, eY4, _⟩ := own5r oYwb; have BEwb := Lib.hid (belowTo BEwa.out hb BEwa.out.size); clear hb) | (go_at_call 17; refine (rdrop_lit (.slice p rs.length cap) rs o n ds _ SLwb.out HD.out).mono ?_; rintro e wc ⟨ve, rfl, sD, _, hb⟩; have oQwc := oQwb.below hb; have oAwc := oAwb.below hb; have oBwc := oBwb.below hb; have oXwc := oXwb.below hb; have oYwc := oYwb.below hb; have SLwc := Lib.hid (SLwb.out.below hb); have SDwc := Lib.hid (SDwb.out.below hb); have SE := Lib.hid sD; clear sD; obtain ⟨eQ0, _⟩ := own1 oQwc; obtain ⟨eA0, _⟩ := own1 oAwc; obtain ⟨eB0, _⟩ := own1 oBwc; obtain ⟨eX0, eX1, eX2, eX3, eX4, _⟩ := own5r oXwc; obtain ⟨eY0, eY1, eY2, eY3, eY4, _⟩ := own5r oYwc; have BEwc := Lib.hid (belowTo BEwb.out hb BEwb.out.size); clear hb) | (go_at_call 15; refine (msame_lit vd ve ds ds true _ SDwc.out SE.out HSD.out).mono ?_; rintro e wd ⟨rfl, hb⟩; have oQwd := oQwc.below hb; have oAwd := oAwc.below hb; have oBwd := oBwc.below hb; have oXwd := oXwc.below hb; have oYwd := oYwc.below hb; have SLwd := Lib.hid (SLwc.out.below hb); obtain ⟨eQ0, _⟩ := own1 oQwd; obtain ⟨eA0, _⟩ := own1 oAwd; obtain ⟨eB0, _⟩ := own1 oBwd; obtain ⟨eX0, eX1, eX2, eX3, eX4, _⟩ := own5r oXwd; obtain ⟨eY0, eY1, eY2, eY3, eY4, _⟩ := own5r oYwd; have BEwd := Lib.hid (belowTo BEwc.out hb BEwc.out.size); clear hb) | (go_at_call 18; refine (full_lit (.slice p rs.length cap) rs fu _ SLwd.out HFU.out).mono ?_; rintro e we ⟨rfl, hb⟩; have oQwe := oQwd.below hb; have oAwe := oAwd.below hb; have oBwe := oBwd.below hb; have oXwe := oXwd.below hb; have oYwe := oYwd.below hb; have SLwe := Lib.hid (SLwd.out.below hb); obtain ⟨eQ0, _⟩ := own1 oQwe; obtain ⟨eA0, _⟩ := own1 oAwe; obtain ⟨eB0, _⟩ := own1 oBwe; obtain ⟨eX0, eX1, eX2, eX3, eX4, _⟩ := own5r oXwe; obtain ⟨eY0, eY1, eY2, eY3, eY4, _⟩ := own5r oYwe; have BEwe := Lib.hid (belowTo BEwd.out hb BEwd.out.size); clear hb) | (go_at_call 19; refine (rfull_lit (.slice p rs.length cap) rs fu _ SLwe.out HFU.out).mono ?_; rintro e wf ⟨rfl, hb⟩; have oQwf := oQwe.below hb; have oAwf := oAwe.below hb; have oBwf := oBwe.below hb; have oXwf := oXwe.below hb; have oYwf := oYwe.below hb; have SLwf := Lib.hid (SLwe.out.below hb); obtain ⟨eQ0, _⟩ := own1 oQwf; obtain ⟨eA0, _⟩ := own1 oAwf; obtain ⟨eB0, _⟩ := own1 oBwf; obtain ⟨eX0, eX1, eX2, eX3, eX4, _⟩ := own5r oXwf; obtain ⟨eY0, eY1, eY2, eY3, eY4, _⟩ := own5r oYwf; have BEwf := Lib.hid (belowTo BEwe.out hb BEwe.out.size); clear hb))
  all_goals go_wp2
  all_goals (go_ret; exact ⟨by first | rfl | (simp; done), BEwf.out⟩)

set_option linter.unusedVariables false in
theorem queueMatchesReference_walk (v : Value) (rs : List Rd) (x0 x1 x2 x3 x4 : Int) (me o n : Int) (w : World) (sl : SlR w v rs) (nk : NilOk v) (ri : ∀ r ∈ rs, RdIn r) (g0 : IntKind.i64.has x0) (g1 : IntKind.i64.has x1) (g2 : IntKind.i64.has x2) (g3 : IntKind.i64.has x3) (g4 : IntKind.i64.has x4) (g5 : IntKind.i64.has me) (g6 : IntKind.i64.has o) (g7 : IntKind.i64.has n) :
    Calls Try.prog 3 #[.agg #[v], .agg #[.int .i64 x0, .int .i64 x1, .int .i64 x2, .int .i64 x3, .int .i64 x4], .int .i64 me, .int .i64 o, .int .i64 n] w fun e w' => e = .returned (.bool true) ∧ Below w.heap.size w w' := by
  obtain ⟨r, hr⟩ : ∃ r : Rd, r = ⟨x0, x1, x2, x3, x4⟩ := ⟨_, rfl⟩
  have key : Calls Try.prog 3 #[.agg #[v], .agg #[.int .i64 r.o, .int .i64 r.n, .int .i64 r.k, .int .i64 r.v, .int .i64 r.a], .int .i64 me, .int .i64 o, .int .i64 n] w fun e w' => e = .returned (.bool true) ∧ Below w.heap.size w w' := by
    cases hs : decide (rs.length ≤ 40) with
    | false => exact qm_long v rs r me o n w sl nk hs
    | true => exact qm_main v rs r me o n _ _ _ _ _ _ w sl nk hs ⟨rfl, rfl⟩ rfl ⟨rfl, rfl⟩ rfl
  rw [hr] at key
  exact key

end Go.Proofs.Ytlfdbmndikdhdaa

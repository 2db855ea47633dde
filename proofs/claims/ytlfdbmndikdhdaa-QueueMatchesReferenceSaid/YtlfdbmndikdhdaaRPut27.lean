/- Contract of the reference's Put. -/
import Derived.Test.YtlfdbmndikdhdaaRDrop27
import Derived.Laws.AppendOwnNone
namespace Go.Proofs.Ytlfdbmndikdhdaa
open Go.RowKit

set_option linter.unusedVariables false in
set_option maxRecDepth 100000 in
set_option maxHeartbeats 2000000 in
theorem rput_bad (v : Value) (rs : List Rd) (r : Rd) (me : Int) (w : World) (sl : SlR w v rs) (nk : NilOk v) (hv : vdB rs = false) :
    Calls Try.prog 12 #[.agg #[v], .agg #[.int .i64 r.o, .int .i64 r.n, .int .i64 r.k, .int .i64 r.v, .int .i64 r.a], .int .i64 me] w fun e w' => QPost w 1 [] e w' := by
  obtain ⟨p, cap, rfl, hlc, hcm, parts⟩ := sl
  have SL0 := Lib.hid (show SlR w (.slice p rs.length cap) rs from ⟨p, cap, rfl, hlc, hcm, parts⟩)
  unfold maxLen at hcm
  clear parts
  have HV := Lib.hid hv
  clear hv
  go_enter Try.func12, Try.ntmps12
  have SL := Lib.hid (((SL0.out.below (belowNew _ (.cells #[.slice p rs.length cap] 24))).below (belowNew _ (.cells #[.int .i64 r.o, .int .i64 r.n, .int .i64 r.k, .int .i64 r.v, .int .i64 r.a] 26))).below (belowNew _ (.cells #[.slice none 0 0] 24)))
  go_wp2_with fail
  refine (rqvalid_lit (.slice p rs.length cap) rs false _ SL.out HV.out).mono ?_
  rintro e w1 ⟨rfl, hb⟩
  have oQ : Own w1 w.heap.size [.slice p rs.length cap] 24 := (((own_at _ _ rfl).alloc _).alloc _).below hb
  have oR : Own w1 (w.heap.size + 1) [.int .i64 r.o, .int .i64 r.n, .int .i64 r.k, .int .i64 r.v, .int .i64 r.a] 26 := ((own_at _ _ (by simp)).alloc _).below hb
  have oF : Own w1 (w.heap.size + 2) [.slice none 0 0] 24 := (own_at _ _ (by simp)).below hb
  have bel := belowTo ((((Below.refl w.heap.size w).alloc (by simp) _).alloc (by simp) _).alloc (by simp; omega) _) hb (by simp; omega)
  clear hb
  obtain ⟨cQ0, fQ, zQ⟩ := own1 oQ
  obtain ⟨cR0, cR1, cR2, cR3, cR4, fR, zR⟩ := own5r oR
  obtain ⟨cF0, fF, zF⟩ := own1 oF
  clear SL
  have SL := Lib.hid (SL0.out.below bel)
  go_wp2
  refine bodyPost_ret (v := .tuple #[.agg #[.slice none 0 0], .int .i64 1]) (by simp [results, Try.results12, go_sem, *]) rfl ⟨_, rfl, slr_nil _, nil_nil, ?_⟩
  exact belowSet bel _ _ _ (by omega)

set_option linter.unusedVariables false in
set_option maxRecDepth 100000 in
set_option maxHeartbeats 2000000 in
theorem rput_form (v : Value) (rs : List Rd) (r : Rd) (me : Int) (w : World) (sl : SlR w v rs) (nk : NilOk v) (hv : vdB rs = true) (hf : fmB r = false) :
    Calls Try.prog 12 #[.agg #[v], .agg #[.int .i64 r.o, .int .i64 r.n, .int .i64 r.k, .int .i64 r.v, .int .i64 r.a], .int .i64 me] w fun e w' => QPost w 1 [] e w' := by
  obtain ⟨p, cap, rfl, hlc, hcm, parts⟩ := sl
  have SL0 := Lib.hid (show SlR w (.slice p rs.length cap) rs from ⟨p, cap, rfl, hlc, hcm, parts⟩)
  unfold maxLen at hcm
  clear parts
  have HV := Lib.hid hv
  clear hv
  have HF := Lib.hid hf
  clear hf
  go_enter Try.func12, Try.ntmps12
  have SL := Lib.hid (((SL0.out.below (belowNew _ (.cells #[.slice p rs.length cap] 24))).below (belowNew _ (.cells #[.int .i64 r.o, .int .i64 r.n, .int .i64 r.k, .int .i64 r.v, .int .i64 r.a] 26))).below (belowNew _ (.cells #[.slice none 0 0] 24)))
  go_wp2_with fail
  refine (rqvalid_lit (.slice p rs.length cap) rs true _ SL.out HV.out).mono ?_
  rintro e w1 ⟨rfl, hb⟩
  have oQ : Own w1 w.heap.size [.slice p rs.length cap] 24 := (((own_at _ _ rfl).alloc _).alloc _).below hb
  have oR : Own w1 (w.heap.size + 1) [.int .i64 r.o, .int .i64 r.n, .int .i64 r.k, .int .i64 r.v, .int .i64 r.a] 26 := ((own_at _ _ (by simp)).alloc _).below hb
  have oF : Own w1 (w.heap.size + 2) [.slice none 0 0] 24 := (own_at _ _ (by simp)).below hb
  have bel := belowTo ((((Below.refl w.heap.size w).alloc (by simp) _).alloc (by simp) _).alloc (by simp; omega) _) hb (by simp; omega)
  clear hb
  obtain ⟨cQ0, fQ, zQ⟩ := own1 oQ
  obtain ⟨cR0, cR1, cR2, cR3, cR4, fR, zR⟩ := own5r oR
  obtain ⟨cF0, fF, zF⟩ := own1 oF
  clear SL
  have SL := Lib.hid (SL0.out.below bel)
  go_wp2_with fail
  refine (rformed_lit r (x := false) _ HF.out).mono ?_
  rintro e w2 ⟨rfl, hb⟩
  replace oQ := oQ.below hb
  replace oR := oR.below hb
  replace oF := oF.below hb
  replace SL := Lib.hid (SL.out.below hb)
  replace bel := belowTo bel hb (by exact bel.size)
  clear hb
  clear cQ0 fQ zQ cR0 cR1 cR2 cR3 cR4 fR zR cF0 fF zF
  obtain ⟨cQ0, fQ, zQ⟩ := own1 oQ
  obtain ⟨cR0, cR1, cR2, cR3, cR4, fR, zR⟩ := own5r oR
  obtain ⟨cF0, fF, zF⟩ := own1 oF
  go_wp2
  refine bodyPost_ret (v := .tuple #[.agg #[.slice none 0 0], .int .i64 1]) (by simp [results, Try.results12, go_sem, *]) rfl ⟨_, rfl, slr_nil _, nil_nil, ?_⟩
  exact belowSet bel _ _ _ (by omega)

set_option linter.unusedVariables false in
set_option maxRecDepth 100000 in
set_option maxHeartbeats 2000000 in
theorem rput_neg (v : Value) (rs : List Rd) (r : Rd) (me : Int) (w : World) (sl : SlR w v rs) (nk : NilOk v) (hv : vdB rs = true) (hf : fmB r = true) (hm : me < 0) :
    Calls Try.prog 12 #[.agg #[v], .agg #[.int .i64 r.o, .int .i64 r.n, .int .i64 r.k, .int .i64 r.v, .int .i64 r.a], .int .i64 me] w fun e w' => QPost w 1 [] e w' := by
  obtain ⟨p, cap, rfl, hlc, hcm, parts⟩ := sl
  have SL0 := Lib.hid (show SlR w (.slice p rs.length cap) rs from ⟨p, cap, rfl, hlc, hcm, parts⟩)
  unfold maxLen at hcm
  clear parts
  have HV := Lib.hid hv
  clear hv
  have HF := Lib.hid hf
  clear hf
  go_enter Try.func12, Try.ntmps12
  have SL := Lib.hid (((SL0.out.below (belowNew _ (.cells #[.slice p rs.length cap] 24))).below (belowNew _ (.cells #[.int .i64 r.o, .int .i64 r.n, .int .i64 r.k, .int .i64 r.v, .int .i64 r.a] 26))).below (belowNew _ (.cells #[.slice none 0 0] 24)))
  go_wp2_with fail
  refine (rqvalid_lit (.slice p rs.length cap) rs true _ SL.out HV.out).mono ?_
  rintro e w1 ⟨rfl, hb⟩
  have oQ : Own w1 w.heap.size [.slice p rs.length cap] 24 := (((own_at _ _ rfl).alloc _).alloc _).below hb
  have oR : Own w1 (w.heap.size + 1) [.int .i64 r.o, .int .i64 r.n, .int .i64 r.k, .int .i64 r.v, .int .i64 r.a] 26 := ((own_at _ _ (by simp)).alloc _).below hb
  have oF : Own w1 (w.heap.size + 2) [.slice none 0 0] 24 := (own_at _ _ (by simp)).below hb
  have bel := belowTo ((((Below.refl w.heap.size w).alloc (by simp) _).alloc (by simp) _).alloc (by simp; omega) _) hb (by simp; omega)
  clear hb
  obtain ⟨cQ0, fQ, zQ⟩ := own1 oQ
  obtain ⟨cR0, cR1, cR2, cR3, cR4, fR, zR⟩ := own5r oR
  obtain ⟨cF0, fF, zF⟩ := own1 oF
  clear SL
  have SL := Lib.hid (SL0.out.below bel)
  go_wp2_with fail
  refine (rformed_lit r (x := true) _ HF.out).mono ?_
  rintro e w2 ⟨rfl, hb⟩
  replace oQ := oQ.below hb
  replace oR := oR.below hb
  replace oF := oF.below hb
  replace SL := Lib.hid (SL.out.below hb)
  replace bel := belowTo bel hb (by exact bel.size)
  clear hb
  clear cQ0 fQ zQ cR0 cR1 cR2 cR3 cR4 fR zR cF0 fF zF
  obtain ⟨cQ0, fQ, zQ⟩ := own1 oQ
  obtain ⟨cR0, cR1, cR2, cR3, cR4, fR, zR⟩ := own5r oR
  obtain ⟨cF0, fF, zF⟩ := own1 oF
  go_wp2
  refine bodyPost_ret (v := .tuple #[.agg #[.slice none 0 0], .int .i64 1]) (by simp [results, Try.results12, go_sem, *]) rfl ⟨_, rfl, slr_nil _, nil_nil, ?_⟩
  exact belowSet bel _ _ _ (by omega)

set_option linter.unusedVariables false in
set_option maxRecDepth 100000 in
set_option maxHeartbeats 2000000 in
theorem rput_far (v : Value) (rs : List Rd) (r : Rd) (me : Int) (w : World) (sl : SlR w v rs) (nk : NilOk v) (hv : vdB rs = true) (hf : fmB r = true) (hm0 : 0 ≤ me) (hm : 60 ≤ me) :
    Calls Try.prog 12 #[.agg #[v], .agg #[.int .i64 r.o, .int .i64 r.n, .int .i64 r.k, .int .i64 r.v, .int .i64 r.a], .int .i64 me] w fun e w' => QPost w 1 [] e w' := by
  obtain ⟨p, cap, rfl, hlc, hcm, parts⟩ := sl
  have SL0 := Lib.hid (show SlR w (.slice p rs.length cap) rs from ⟨p, cap, rfl, hlc, hcm, parts⟩)
  unfold maxLen at hcm
  clear parts
  have HV := Lib.hid hv
  clear hv
  have HF := Lib.hid hf
  clear hf
  go_enter Try.func12, Try.ntmps12
  have SL := Lib.hid (((SL0.out.below (belowNew _ (.cells #[.slice p rs.length cap] 24))).below (belowNew _ (.cells #[.int .i64 r.o, .int .i64 r.n, .int .i64 r.k, .int .i64 r.v, .int .i64 r.a] 26))).below (belowNew _ (.cells #[.slice none 0 0] 24)))
  go_wp2_with fail
  refine (rqvalid_lit (.slice p rs.length cap) rs true _ SL.out HV.out).mono ?_
  rintro e w1 ⟨rfl, hb⟩
  have oQ : Own w1 w.heap.size [.slice p rs.length cap] 24 := (((own_at _ _ rfl).alloc _).alloc _).below hb
  have oR : Own w1 (w.heap.size + 1) [.int .i64 r.o, .int .i64 r.n, .int .i64 r.k, .int .i64 r.v, .int .i64 r.a] 26 := ((own_at _ _ (by simp)).alloc _).below hb
  have oF : Own w1 (w.heap.size + 2) [.slice none 0 0] 24 := (own_at _ _ (by simp)).below hb
  have bel := belowTo ((((Below.refl w.heap.size w).alloc (by simp) _).alloc (by simp) _).alloc (by simp; omega) _) hb (by simp; omega)
  clear hb
  obtain ⟨cQ0, fQ, zQ⟩ := own1 oQ
  obtain ⟨cR0, cR1, cR2, cR3, cR4, fR, zR⟩ := own5r oR
  obtain ⟨cF0, fF, zF⟩ := own1 oF
  clear SL
  have SL := Lib.hid (SL0.out.below bel)
  go_wp2_with fail
  refine (rformed_lit r (x := true) _ HF.out).mono ?_
  rintro e w2 ⟨rfl, hb⟩
  replace oQ := oQ.below hb
  replace oR := oR.below hb
  replace oF := oF.below hb
  replace SL := Lib.hid (SL.out.below hb)
  replace bel := belowTo bel hb (by exact bel.size)
  clear hb
  clear cQ0 fQ zQ cR0 cR1 cR2 cR3 cR4 fR zR cF0 fF zF
  obtain ⟨cQ0, fQ, zQ⟩ := own1 oQ
  obtain ⟨cR0, cR1, cR2, cR3, cR4, fR, zR⟩ := own5r oR
  obtain ⟨cF0, fF, zF⟩ := own1 oF
  go_wp2
  refine bodyPost_ret (v := .tuple #[.agg #[.slice none 0 0], .int .i64 1]) (by simp [results, Try.results12, go_sem, *]) rfl ⟨_, rfl, slr_nil _, nil_nil, ?_⟩
  exact belowSet bel _ _ _ (by omega)

set_option linter.unusedVariables false in
set_option maxRecDepth 100000 in
set_option maxHeartbeats 2000000 in
theorem rput_twice (v : Value) (rs : List Rd) (r : Rd) (me : Int) (w : World) (sl : SlR w v rs) (nk : NilOk v) (hv : vdB rs = true) (hf : fmB r = true) (hm0 : 0 ≤ me) (hm1 : me < 60) (F : Int) (hd : fnd r.o r.n rs = F) (h0 : 0 ≤ F) :
    Calls Try.prog 12 #[.agg #[v], .agg #[.int .i64 r.o, .int .i64 r.n, .int .i64 r.k, .int .i64 r.v, .int .i64 r.a], .int .i64 me] w fun e w' => QPost w 5 [] e w' := by
  obtain ⟨p, cap, rfl, hlc, hcm, parts⟩ := sl
  have SL0 := Lib.hid (show SlR w (.slice p rs.length cap) rs from ⟨p, cap, rfl, hlc, hcm, parts⟩)
  unfold maxLen at hcm
  clear parts
  have HV := Lib.hid hv
  clear hv
  have HF := Lib.hid hf
  clear hf
  have HD := Lib.hid hd
  clear hd
  go_enter Try.func12, Try.ntmps12
  have SL := Lib.hid (((SL0.out.below (belowNew _ (.cells #[.slice p rs.length cap] 24))).below (belowNew _ (.cells #[.int .i64 r.o, .int .i64 r.n, .int .i64 r.k, .int .i64 r.v, .int .i64 r.a] 26))).below (belowNew _ (.cells #[.slice none 0 0] 24)))
  go_wp2_with fail
  refine (rqvalid_lit (.slice p rs.length cap) rs true _ SL.out HV.out).mono ?_
  rintro e w1 ⟨rfl, hb⟩
  have oQ : Own w1 w.heap.size [.slice p rs.length cap] 24 := (((own_at _ _ rfl).alloc _).alloc _).below hb
  have oR : Own w1 (w.heap.size + 1) [.int .i64 r.o, .int .i64 r.n, .int .i64 r.k, .int .i64 r.v, .int .i64 r.a] 26 := ((own_at _ _ (by simp)).alloc _).below hb
  have oF : Own w1 (w.heap.size + 2) [.slice none 0 0] 24 := (own_at _ _ (by simp)).below hb
  have bel := belowTo ((((Below.refl w.heap.size w).alloc (by simp) _).alloc (by simp) _).alloc (by simp; omega) _) hb (by simp; omega)
  clear hb
  obtain ⟨cQ0, fQ, zQ⟩ := own1 oQ
  obtain ⟨cR0, cR1, cR2, cR3, cR4, fR, zR⟩ := own5r oR
  obtain ⟨cF0, fF, zF⟩ := own1 oF
  clear SL
  have SL := Lib.hid (SL0.out.below bel)
  go_wp2_with fail
  refine (rformed_lit r (x := true) _ HF.out).mono ?_
  rintro e w2 ⟨rfl, hb⟩
  replace oQ := oQ.below hb
  replace oR := oR.below hb
  replace oF := oF.below hb
  replace SL := Lib.hid (SL.out.below hb)
  replace bel := belowTo bel hb (by exact bel.size)
  clear hb
  clear cQ0 fQ zQ cR0 cR1 cR2 cR3 cR4 fR zR cF0 fF zF
  obtain ⟨cQ0, fQ, zQ⟩ := own1 oQ
  obtain ⟨cR0, cR1, cR2, cR3, cR4, fR, zR⟩ := own5r oR
  obtain ⟨cF0, fF, zF⟩ := own1 oF
  go_wp2_with fail
  refine (rfind_lit (.slice p rs.length cap) rs r.o r.n F _ SL.out HD.out).mono ?_
  rintro e w3 ⟨rfl, hb⟩
  replace oQ := oQ.below hb
  replace oR := oR.below hb
  replace oF := oF.below hb
  replace SL := Lib.hid (SL.out.below hb)
  replace bel := belowTo bel hb (by exact bel.size)
  clear hb
  clear cQ0 fQ zQ cR0 cR1 cR2 cR3 cR4 fR zR cF0 fF zF
  obtain ⟨cQ0, fQ, zQ⟩ := own1 oQ
  obtain ⟨cR0, cR1, cR2, cR3, cR4, fR, zR⟩ := own5r oR
  obtain ⟨cF0, fF, zF⟩ := own1 oF
  go_wp2
  refine bodyPost_ret (v := .tuple #[.agg #[.slice none 0 0], .int .i64 5]) (by simp [results, Try.results12, go_sem, *]) rfl ⟨_, rfl, slr_nil _, nil_nil, ?_⟩
  exact belowSet bel _ _ _ (by omega)

set_option linter.unusedVariables false in
set_option maxRecDepth 100000 in
set_option maxHeartbeats 2000000 in
theorem rput_full (v : Value) (rs : List Rd) (r : Rd) (me : Int) (w : World) (sl : SlR w v rs) (nk : NilOk v) (hv : vdB rs = true) (hf : fmB r = true) (hm0 : 0 ≤ me) (hm1 : me < 60) (F : Int) (hd : fnd r.o r.n rs = F) (h0 : F < 0) (h16 : ((rs.length : Int) == 16) = true) :
    Calls Try.prog 12 #[.agg #[v], .agg #[.int .i64 r.o, .int .i64 r.n, .int .i64 r.k, .int .i64 r.v, .int .i64 r.a], .int .i64 me] w fun e w' => QPost w 10 [] e w' := by
  obtain ⟨p, cap, rfl, hlc, hcm, parts⟩ := sl
  have SL0 := Lib.hid (show SlR w (.slice p rs.length cap) rs from ⟨p, cap, rfl, hlc, hcm, parts⟩)
  unfold maxLen at hcm
  clear parts
  have HV := Lib.hid hv
  clear hv
  have HF := Lib.hid hf
  clear hf
  have HD := Lib.hid hd
  clear hd
  go_enter Try.func12, Try.ntmps12
  have SL := Lib.hid (((SL0.out.below (belowNew _ (.cells #[.slice p rs.length cap] 24))).below (belowNew _ (.cells #[.int .i64 r.o, .int .i64 r.n, .int .i64 r.k, .int .i64 r.v, .int .i64 r.a] 26))).below (belowNew _ (.cells #[.slice none 0 0] 24)))
  go_wp2_with fail
  refine (rqvalid_lit (.slice p rs.length cap) rs true _ SL.out HV.out).mono ?_
  rintro e w1 ⟨rfl, hb⟩
  have oQ : Own w1 w.heap.size [.slice p rs.length cap] 24 := (((own_at _ _ rfl).alloc _).alloc _).below hb
  have oR : Own w1 (w.heap.size + 1) [.int .i64 r.o, .int .i64 r.n, .int .i64 r.k, .int .i64 r.v, .int .i64 r.a] 26 := ((own_at _ _ (by simp)).alloc _).below hb
  have oF : Own w1 (w.heap.size + 2) [.slice none 0 0] 24 := (own_at _ _ (by simp)).below hb
  have bel := belowTo ((((Below.refl w.heap.size w).alloc (by simp) _).alloc (by simp) _).alloc (by simp; omega) _) hb (by simp; omega)
  clear hb
  obtain ⟨cQ0, fQ, zQ⟩ := own1 oQ
  obtain ⟨cR0, cR1, cR2, cR3, cR4, fR, zR⟩ := own5r oR
  obtain ⟨cF0, fF, zF⟩ := own1 oF
  clear SL
  have SL := Lib.hid (SL0.out.below bel)
  go_wp2_with fail
  refine (rformed_lit r (x := true) _ HF.out).mono ?_
  rintro e w2 ⟨rfl, hb⟩
  replace oQ := oQ.below hb
  replace oR := oR.below hb
  replace oF := oF.below hb
  replace SL := Lib.hid (SL.out.below hb)
  replace bel := belowTo bel hb (by exact bel.size)
  clear hb
  clear cQ0 fQ zQ cR0 cR1 cR2 cR3 cR4 fR zR cF0 fF zF
  obtain ⟨cQ0, fQ, zQ⟩ := own1 oQ
  obtain ⟨cR0, cR1, cR2, cR3, cR4, fR, zR⟩ := own5r oR
  obtain ⟨cF0, fF, zF⟩ := own1 oF
  go_wp2_with fail
  refine (rfind_lit (.slice p rs.length cap) rs r.o r.n F _ SL.out HD.out).mono ?_
  rintro e w3 ⟨rfl, hb⟩
  replace oQ := oQ.below hb
  replace oR := oR.below hb
  replace oF := oF.below hb
  replace SL := Lib.hid (SL.out.below hb)
  replace bel := belowTo bel hb (by exact bel.size)
  clear hb
  clear cQ0 fQ zQ cR0 cR1 cR2 cR3 cR4 fR zR cF0 fF zF
  obtain ⟨cQ0, fQ, zQ⟩ := own1 oQ
  obtain ⟨cR0, cR1, cR2, cR3, cR4, fR, zR⟩ := own5r oR
  obtain ⟨cF0, fF, zF⟩ := own1 oF
  go_wp2
  refine bodyPost_ret (v := .tuple #[.agg #[.slice none 0 0], .int .i64 10]) (by simp [results, Try.results12, go_sem, *]) rfl ⟨_, rfl, slr_nil _, nil_nil, ?_⟩
  exact belowSet bel _ _ _ (by omega)

set_option linter.unusedVariables false in
set_option maxRecDepth 100000 in
set_option maxHeartbeats 2000000 in
theorem rput_own (v : Value) (rs : List Rd) (r : Rd) (me : Int) (w : World) (sl : SlR w v rs) (nk : NilOk v) (hv : vdB rs = true) (hf : fmB r = true) (hm0 : 0 ≤ me) (hm1 : me < 60) (F : Int) (hd : fnd r.o r.n rs = F) (h0 : F < 0) (h16 : ((rs.length : Int) == 16) = false) (h12 : (12 : Int) ≤ rs.length) (ho : (r.o == me) = true) :
    Calls Try.prog 12 #[.agg #[v], .agg #[.int .i64 r.o, .int .i64 r.n, .int .i64 r.k, .int .i64 r.v, .int .i64 r.a], .int .i64 me] w fun e w' => QPost w 10 [] e w' := by
  obtain ⟨p, cap, rfl, hlc, hcm, parts⟩ := sl
  have SL0 := Lib.hid (show SlR w (.slice p rs.length cap) rs from ⟨p, cap, rfl, hlc, hcm, parts⟩)
  unfold maxLen at hcm
  clear parts
  have HV := Lib.hid hv
  clear hv
  have HF := Lib.hid hf
  clear hf
  have HD := Lib.hid hd
  clear hd
  go_enter Try.func12, Try.ntmps12
  have SL := Lib.hid (((SL0.out.below (belowNew _ (.cells #[.slice p rs.length cap] 24))).below (belowNew _ (.cells #[.int .i64 r.o, .int .i64 r.n, .int .i64 r.k, .int .i64 r.v, .int .i64 r.a] 26))).below (belowNew _ (.cells #[.slice none 0 0] 24)))
  go_wp2_with fail
  refine (rqvalid_lit (.slice p rs.length cap) rs true _ SL.out HV.out).mono ?_
  rintro e w1 ⟨rfl, hb⟩
  have oQ : Own w1 w.heap.size [.slice p rs.length cap] 24 := (((own_at _ _ rfl).alloc _).alloc _).below hb
  have oR : Own w1 (w.heap.size + 1) [.int .i64 r.o, .int .i64 r.n, .int .i64 r.k, .int .i64 r.v, .int .i64 r.a] 26 := ((own_at _ _ (by simp)).alloc _).below hb
  have oF : Own w1 (w.heap.size + 2) [.slice none 0 0] 24 := (own_at _ _ (by simp)).below hb
  have bel := belowTo ((((Below.refl w.heap.size w).alloc (by simp) _).alloc (by simp) _).alloc (by simp; omega) _) hb (by simp; omega)
  clear hb
  obtain ⟨cQ0, fQ, zQ⟩ := own1 oQ
  obtain ⟨cR0, cR1, cR2, cR3, cR4, fR, zR⟩ := own5r oR
  obtain ⟨cF0, fF, zF⟩ := own1 oF
  clear SL
  have SL := Lib.hid (SL0.out.below bel)
  go_wp2_with fail
  refine (rformed_lit r (x := true) _ HF.out).mono ?_
  rintro e w2 ⟨rfl, hb⟩
  replace oQ := oQ.below hb
  replace oR := oR.below hb
  replace oF := oF.below hb
  replace SL := Lib.hid (SL.out.below hb)
  replace bel := belowTo bel hb (by exact bel.size)
  clear hb
  clear cQ0 fQ zQ cR0 cR1 cR2 cR3 cR4 fR zR cF0 fF zF
  obtain ⟨cQ0, fQ, zQ⟩ := own1 oQ
  obtain ⟨cR0, cR1, cR2, cR3, cR4, fR, zR⟩ := own5r oR
  obtain ⟨cF0, fF, zF⟩ := own1 oF
  go_wp2_with fail
  refine (rfind_lit (.slice p rs.length cap) rs r.o r.n F _ SL.out HD.out).mono ?_
  rintro e w3 ⟨rfl, hb⟩
  replace oQ := oQ.below hb
  replace oR := oR.below hb
  replace oF := oF.below hb
  replace SL := Lib.hid (SL.out.below hb)
  replace bel := belowTo bel hb (by exact bel.size)
  clear hb
  clear cQ0 fQ zQ cR0 cR1 cR2 cR3 cR4 fR zR cF0 fF zF
  obtain ⟨cQ0, fQ, zQ⟩ := own1 oQ
  obtain ⟨cR0, cR1, cR2, cR3, cR4, fR, zR⟩ := own5r oR
  obtain ⟨cF0, fF, zF⟩ := own1 oF
  go_wp2
  refine bodyPost_ret (v := .tuple #[.agg #[.slice none 0 0], .int .i64 10]) (by simp [results, Try.results12, go_sem, *]) rfl ⟨_, rfl, slr_nil _, nil_nil, ?_⟩
  exact belowSet bel _ _ _ (by omega)

theorem qpost_own {w w' : World} {B b : Nat} {t : TypeId} {v : Value} {rs : List Rd} {E : Int} (h : w'.ownsRow B t 5 v rs.length (flat rs)) (hb : b < B) (bel : Below w.heap.size w w') (hw : w.heap.size ≤ b) :
    QPost w E rs (.returned (.tuple #[.agg #[v], .int .i64 E])) (w'.setCell ⟨b, 0, none⟩ v) := by
  obtain ⟨v', e, s1, s2, s3⟩ := spost_any (w := w) rfl h hb bel hw
  injection e with e1
  injection e1 with e2
  obtain rfl : v = v' := by simpa using e2
  exact ⟨v, rfl, s1, s2, s3⟩

set_option linter.unusedVariables false in
set_option maxRecDepth 100000 in
set_option maxHeartbeats 2000000 in
theorem rput_ok1_n (rs : List Rd) (r : Rd) (me : Int) (w : World) (sl : SlR w (.slice none rs.length 0) rs) (hv : vdB rs = true) (hf : fmB r = true) (hm0 : 0 ≤ me) (hm1 : me < 60) (F : Int) (hd : fnd r.o r.n rs = F) (h0 : F < 0) (h16 : ((rs.length : Int) == 16) = false) (h12 : (rs.length : Int) < 12) :
    Calls Try.prog 12 #[.agg #[.slice none rs.length 0], .agg #[.int .i64 r.o, .int .i64 r.n, .int .i64 r.k, .int .i64 r.v, .int .i64 r.a], .int .i64 me] w fun e w' => QPost w 0 ([] ++ [r] : List Rd) e w' := by
  have SL0 := Lib.hid sl
  obtain rfl : rs = [] := sl.none_len rfl
  clear sl
  have HV := Lib.hid hv
  clear hv
  have HF := Lib.hid hf
  clear hf
  have HD := Lib.hid hd
  clear hd
  go_enter Try.func12, Try.ntmps12
  have hl17 : 0 < 16 := by omega
  have SL := Lib.hid (((SL0.out.below (belowNew _ (.cells #[.slice none 0 0] 24))).below (belowNew _ (.cells #[.int .i64 r.o, .int .i64 r.n, .int .i64 r.k, .int .i64 r.v, .int .i64 r.a] 26))).below (belowNew _ (.cells #[.slice none 0 0] 24)))
  go_wp2_with fail
  refine (rqvalid_lit (.slice none 0 0) [] true _ SL.out HV.out).mono ?_
  rintro e w1 ⟨rfl, hb⟩
  have oQ : Own w1 w.heap.size [.slice none 0 0] 24 := (((own_at _ _ rfl).alloc _).alloc _).below hb
  have oR : Own w1 (w.heap.size + 1) [.int .i64 r.o, .int .i64 r.n, .int .i64 r.k, .int .i64 r.v, .int .i64 r.a] 26 := ((own_at _ _ (by simp)).alloc _).below hb
  have oF : Own w1 (w.heap.size + 2) [.slice none 0 0] 24 := (own_at _ _ (by simp)).below hb
  have bel := belowTo ((((Below.refl w.heap.size w).alloc (by simp) _).alloc (by simp) _).alloc (by simp; omega) _) hb (by simp; omega)
  clear hb
  obtain ⟨cQ0, fQ, zQ⟩ := own1 oQ
  obtain ⟨cR0, cR1, cR2, cR3, cR4, fR, zR⟩ := own5r oR
  obtain ⟨cF0, fF, zF⟩ := own1 oF
  clear SL
  have SL := Lib.hid (SL0.out.below bel)
  go_wp2_with fail
  refine (rformed_lit r (x := true) _ HF.out).mono ?_
  rintro e w2 ⟨rfl, hb⟩
  replace oQ := oQ.below hb
  replace oR := oR.below hb
  replace oF := oF.below hb
  replace SL := Lib.hid (SL.out.below hb)
  replace bel := belowTo bel hb (by exact bel.size)
  clear hb
  clear cQ0 fQ zQ cR0 cR1 cR2 cR3 cR4 fR zR cF0 fF zF
  obtain ⟨cQ0, fQ, zQ⟩ := own1 oQ
  obtain ⟨cR0, cR1, cR2, cR3, cR4, fR, zR⟩ := own5r oR
  obtain ⟨cF0, fF, zF⟩ := own1 oF
  go_wp2_with fail
  refine (rfind_lit (.slice none 0 0) [] r.o r.n F _ SL.out HD.out).mono ?_
  rintro e w3 ⟨rfl, hb⟩
  replace oQ := oQ.below hb
  replace oR := oR.below hb
  replace oF := oF.below hb
  replace SL := Lib.hid (SL.out.below hb)
  replace bel := belowTo bel hb (by exact bel.size)
  clear hb
  clear cQ0 fQ zQ cR0 cR1 cR2 cR3 cR4 fR zR cF0 fF zF
  obtain ⟨cQ0, fQ, zQ⟩ := own1 oQ
  obtain ⟨cR0, cR1, cR2, cR3, cR4, fR, zR⟩ := own5r oR
  obtain ⟨cF0, fF, zF⟩ := own1 oF
  obtain ⟨i0, hi, hz, hs0, hb0⟩ := info_parts info_rd
  have IF := Lib.hid (And.intro hi (And.intro hz (And.intro hs0 hb0)))
  clear hi hz hs0 hb0
  have BE := Lib.hid bel
  have OR := Lib.hid oR
  have OF := Lib.hid oF
  go_wp2_with (at_builtin; refine wpList_append_own _ rfl _ _ 22 rfl w3.heap.size 26 i0 _ 5 40 (by kernel_rfl) IF.out.1 IF.out.2.1 IF.out.2.2.1 IF.out.2.2.2 rfl (by decide) _ 0 [] rfl (World.ownsRow_nil _ _ _ _) ⟨w3.heap.size, 0, none⟩ 1 1 r.cells rfl rfl (news_new w3 r 26) (cells_one r) ?qc4 ?qc5 ?qc6 ?_)
  case qc4 => unfold maxLen; omega
  case qc5 => omega
  case qc6 => simp
  intro v2 w5 hown hgrow hnil
  have B5 := Lib.hid (((Below.refl _ w3).alloc (Nat.le_refl _) (.cells r.cells.toArray 26)).grown hgrow (by simp) (fun k hk => by cases hk))
  have HOWN := Lib.hid (show w5.ownsRow w3.heap.size 26 5 v2 ([] ++ [r] : List Rd).length (flat ([] ++ [r])) by simpa [flat] using hown)
  have oF5 := OF.out.below B5.out
  obtain ⟨hF0, iF, jF⟩ := own1 oF5
  clear hown hgrow hnil
  obtain ⟨sl', nk'⟩ := slr_of_own rfl HOWN.out
  obtain ⟨n2, hn2⟩ : ∃ n2, n2 = ([] ++ [r] : List Rd).length := ⟨_, rfl⟩
  obtain ⟨pq, capq, rfl⟩ := slr_form n2 sl' hn2.symm
  have HN2 := Lib.hid hn2
  clear sl' nk' hn2
  go_wp2_with fail
  refine bodyPost_ret (v := .tuple #[.agg #[.slice pq n2 capq], .int .i64 0]) (by simp [results, Try.results12, go_sem, *]) rfl ?_
  exact qpost_own HOWN.out (by have := OF.out.lt; omega) (BE.out.trans (B5.out.mono BE.out.size)) (by omega)

set_option linter.unusedVariables false in
set_option maxRecDepth 100000 in
set_option maxHeartbeats 2000000 in
theorem rput_ok1_s (ad : Addr) (cap : Nat) (rs : List Rd) (r : Rd) (me : Int) (w : World) (sl : SlR w (.slice (some ad) rs.length cap) rs) (hv : vdB rs = true) (hf : fmB r = true) (hm0 : 0 ≤ me) (hm1 : me < 60) (F : Int) (hd : fnd r.o r.n rs = F) (h0 : F < 0) (h16 : ((rs.length : Int) == 16) = false) (h12 : (rs.length : Int) < 12) :
    Calls Try.prog 12 #[.agg #[.slice (some ad) rs.length cap], .agg #[.int .i64 r.o, .int .i64 r.n, .int .i64 r.k, .int .i64 r.v, .int .i64 r.a], .int .i64 me] w fun e w' => QPost w 0 (rs ++ [r]) e w' := by
  have SL0 := Lib.hid sl
  obtain ⟨_, _, e1, hlc, hcm, _⟩ := sl
  cases e1
  unfold maxLen at hcm
  have HV := Lib.hid hv
  clear hv
  have HF := Lib.hid hf
  clear hf
  have HD := Lib.hid hd
  clear hd
  go_enter Try.func12, Try.ntmps12
  have hl17 : rs.length < 16 := by have := vd_len HV.out; have : rs.length ≠ 16 := (by simp at h16; omega); omega
  have SL := Lib.hid (((SL0.out.below (belowNew _ (.cells #[.slice (some ad) rs.length cap] 24))).below (belowNew _ (.cells #[.int .i64 r.o, .int .i64 r.n, .int .i64 r.k, .int .i64 r.v, .int .i64 r.a] 26))).below (belowNew _ (.cells #[.slice none 0 0] 24)))
  go_wp2_with fail
  refine (rqvalid_lit (.slice (some ad) rs.length cap) rs true _ SL.out HV.out).mono ?_
  rintro e w1 ⟨rfl, hb⟩
  have oQ : Own w1 w.heap.size [.slice (some ad) rs.length cap] 24 := (((own_at _ _ rfl).alloc _).alloc _).below hb
  have oR : Own w1 (w.heap.size + 1) [.int .i64 r.o, .int .i64 r.n, .int .i64 r.k, .int .i64 r.v, .int .i64 r.a] 26 := ((own_at _ _ (by simp)).alloc _).below hb
  have oF : Own w1 (w.heap.size + 2) [.slice none 0 0] 24 := (own_at _ _ (by simp)).below hb
  have bel := belowTo ((((Below.refl w.heap.size w).alloc (by simp) _).alloc (by simp) _).alloc (by simp; omega) _) hb (by simp; omega)
  clear hb
  obtain ⟨cQ0, fQ, zQ⟩ := own1 oQ
  obtain ⟨cR0, cR1, cR2, cR3, cR4, fR, zR⟩ := own5r oR
  obtain ⟨cF0, fF, zF⟩ := own1 oF
  clear SL
  have SL := Lib.hid (SL0.out.below bel)
  go_wp2_with fail
  refine (rformed_lit r (x := true) _ HF.out).mono ?_
  rintro e w2 ⟨rfl, hb⟩
  replace oQ := oQ.below hb
  replace oR := oR.below hb
  replace oF := oF.below hb
  replace SL := Lib.hid (SL.out.below hb)
  replace bel := belowTo bel hb (by exact bel.size)
  clear hb
  clear cQ0 fQ zQ cR0 cR1 cR2 cR3 cR4 fR zR cF0 fF zF
  obtain ⟨cQ0, fQ, zQ⟩ := own1 oQ
  obtain ⟨cR0, cR1, cR2, cR3, cR4, fR, zR⟩ := own5r oR
  obtain ⟨cF0, fF, zF⟩ := own1 oF
  go_wp2_with fail
  refine (rfind_lit (.slice (some ad) rs.length cap) rs r.o r.n F _ SL.out HD.out).mono ?_
  rintro e w3 ⟨rfl, hb⟩
  replace oQ := oQ.below hb
  replace oR := oR.below hb
  replace oF := oF.below hb
  replace SL := Lib.hid (SL.out.below hb)
  replace bel := belowTo bel hb (by exact bel.size)
  clear hb
  clear cQ0 fQ zQ cR0 cR1 cR2 cR3 cR4 fR zR cF0 fF zF
  obtain ⟨cQ0, fQ, zQ⟩ := own1 oQ
  obtain ⟨cR0, cR1, cR2, cR3, cR4, fR, zR⟩ := own5r oR
  obtain ⟨cF0, fF, zF⟩ := own1 oF
  obtain ⟨i0, hi, hz, hs0, hb0⟩ := info_parts info_rd
  have IF := Lib.hid (And.intro hi (And.intro hz (And.intro hs0 hb0)))
  clear hi hz hs0 hb0
  have BE := Lib.hid bel
  have OR := Lib.hid oR
  have OF := Lib.hid oF
  have OL := Lib.hid (SL.out.olds ad rfl)
  go_wp2_with (at_builtin; refine wpList_append_own _ rfl _ _ 22 rfl w3.heap.size 26 i0 _ 5 40 (by kernel_rfl) IF.out.1 IF.out.2.1 IF.out.2.2.1 IF.out.2.2.2 rfl (by decide) _ 0 [] rfl (World.ownsRow_nil _ _ _ _) ad rs.length cap (flat rs) rfl (flat_len rs) OL.out flat_one_cell ?qc4 ?qc5 ?qc6 ?_)
  case qc4 => unfold maxLen; omega
  case qc5 => omega
  try case qc6 => exact Nat.le_refl _
  intro v1 w4 hown hgrow hnil
  have B4 := Lib.hid ((Below.refl _ w3).grown hgrow (Nat.le_refl _) (fun k hk => by cases hk))
  have H4 := Lib.hid hown
  have oR4 := OR.out.below B4.out
  obtain ⟨eR0, eR1, eR2, eR3, eR4, gR, yR⟩ := own5r oR4
  have oF4 := OF.out.below B4.out
  obtain ⟨eF0, gF, yF⟩ := own1 oF4
  clear hown hgrow hnil cR0 cR1 cR2 cR3 cR4 fR zR cF0 fF zF
  go_wp2_with (at_builtin; refine wpList_append_own _ rfl _ _ 22 rfl w3.heap.size 26 i0 _ 5 40 (by kernel_rfl) IF.out.1 IF.out.2.1 IF.out.2.2.1 IF.out.2.2.2 rfl (by decide) _ rs.length (flat rs) rfl (H4.out.alloc _) ⟨w4.heap.size, 0, none⟩ 1 1 r.cells rfl rfl (news_new w4 r 26) (cells_one r) ?qd4 ?qd5 ?qd6 ?_)
  case qd4 => unfold maxLen; omega
  case qd5 => omega
  case qd6 => have := B4.out.size; simp; omega
  intro v2 w5 hown hgrow hnil
  have B5 := Lib.hid ((B4.out.alloc B4.out.size (.cells r.cells.toArray 26)).grown hgrow (by have := B4.out.size; simp; omega) (fun k hk => (H4.out.lt k hk).1))
  have HOWN := Lib.hid (show w5.ownsRow w3.heap.size 26 5 v2 (rs ++ [r]).length (flat (rs ++ [r])) by simpa [flat_append, flat_one] using hown)
  have oF5 := OF.out.below B5.out
  obtain ⟨hF0, iF, jF⟩ := own1 oF5
  clear hown hgrow hnil
  obtain ⟨sl', nk'⟩ := slr_of_own rfl HOWN.out
  obtain ⟨n2, hn2⟩ : ∃ n2, n2 = (rs ++ [r]).length := ⟨_, rfl⟩
  obtain ⟨pq, capq, rfl⟩ := slr_form n2 sl' hn2.symm
  have HN2 := Lib.hid hn2
  clear sl' nk' hn2
  go_wp2_with fail
  refine bodyPost_ret (v := .tuple #[.agg #[.slice pq n2 capq], .int .i64 0]) (by simp [results, Try.results12, go_sem, *]) rfl ?_
  exact qpost_own HOWN.out (by have := OF.out.lt; omega) (BE.out.trans (B5.out.mono BE.out.size)) (by omega)

set_option linter.unusedVariables false in
set_option maxRecDepth 100000 in
set_option maxHeartbeats 2000000 in
theorem rput_ok2_s (ad : Addr) (cap : Nat) (rs : List Rd) (r : Rd) (me : Int) (w : World) (sl : SlR w (.slice (some ad) rs.length cap) rs) (hv : vdB rs = true) (hf : fmB r = true) (hm0 : 0 ≤ me) (hm1 : me < 60) (F : Int) (hd : fnd r.o r.n rs = F) (h0 : F < 0) (h16 : ((rs.length : Int) == 16) = false) (h12 : (12 : Int) ≤ rs.length) (ho : (r.o == me) = false) :
    Calls Try.prog 12 #[.agg #[.slice (some ad) rs.length cap], .agg #[.int .i64 r.o, .int .i64 r.n, .int .i64 r.k, .int .i64 r.v, .int .i64 r.a], .int .i64 me] w fun e w' => QPost w 0 (rs ++ [r]) e w' := by
  have SL0 := Lib.hid sl
  obtain ⟨_, _, e1, hlc, hcm, _⟩ := sl
  cases e1
  unfold maxLen at hcm
  have HV := Lib.hid hv
  clear hv
  have HF := Lib.hid hf
  clear hf
  have HD := Lib.hid hd
  clear hd
  go_enter Try.func12, Try.ntmps12
  have hl17 : rs.length < 16 := by have := vd_len HV.out; have : rs.length ≠ 16 := (by simp at h16; omega); omega
  have SL := Lib.hid (((SL0.out.below (belowNew _ (.cells #[.slice (some ad) rs.length cap] 24))).below (belowNew _ (.cells #[.int .i64 r.o, .int .i64 r.n, .int .i64 r.k, .int .i64 r.v, .int .i64 r.a] 26))).below (belowNew _ (.cells #[.slice none 0 0] 24)))
  go_wp2_with fail
  refine (rqvalid_lit (.slice (some ad) rs.length cap) rs true _ SL.out HV.out).mono ?_
  rintro e w1 ⟨rfl, hb⟩
  have oQ : Own w1 w.heap.size [.slice (some ad) rs.length cap] 24 := (((own_at _ _ rfl).alloc _).alloc _).below hb
  have oR : Own w1 (w.heap.size + 1) [.int .i64 r.o, .int .i64 r.n, .int .i64 r.k, .int .i64 r.v, .int .i64 r.a] 26 := ((own_at _ _ (by simp)).alloc _).below hb
  have oF : Own w1 (w.heap.size + 2) [.slice none 0 0] 24 := (own_at _ _ (by simp)).below hb
  have bel := belowTo ((((Below.refl w.heap.size w).alloc (by simp) _).alloc (by simp) _).alloc (by simp; omega) _) hb (by simp; omega)
  clear hb
  obtain ⟨cQ0, fQ, zQ⟩ := own1 oQ
  obtain ⟨cR0, cR1, cR2, cR3, cR4, fR, zR⟩ := own5r oR
  obtain ⟨cF0, fF, zF⟩ := own1 oF
  clear SL
  have SL := Lib.hid (SL0.out.below bel)
  go_wp2_with fail
  refine (rformed_lit r (x := true) _ HF.out).mono ?_
  rintro e w2 ⟨rfl, hb⟩
  replace oQ := oQ.below hb
  replace oR := oR.below hb
  replace oF := oF.below hb
  replace SL := Lib.hid (SL.out.below hb)
  replace bel := belowTo bel hb (by exact bel.size)
  clear hb
  clear cQ0 fQ zQ cR0 cR1 cR2 cR3 cR4 fR zR cF0 fF zF
  obtain ⟨cQ0, fQ, zQ⟩ := own1 oQ
  obtain ⟨cR0, cR1, cR2, cR3, cR4, fR, zR⟩ := own5r oR
  obtain ⟨cF0, fF, zF⟩ := own1 oF
  go_wp2_with fail
  refine (rfind_lit (.slice (some ad) rs.length cap) rs r.o r.n F _ SL.out HD.out).mono ?_
  rintro e w3 ⟨rfl, hb⟩
  replace oQ := oQ.below hb
  replace oR := oR.below hb
  replace oF := oF.below hb
  replace SL := Lib.hid (SL.out.below hb)
  replace bel := belowTo bel hb (by exact bel.size)
  clear hb
  clear cQ0 fQ zQ cR0 cR1 cR2 cR3 cR4 fR zR cF0 fF zF
  obtain ⟨cQ0, fQ, zQ⟩ := own1 oQ
  obtain ⟨cR0, cR1, cR2, cR3, cR4, fR, zR⟩ := own5r oR
  obtain ⟨cF0, fF, zF⟩ := own1 oF
  obtain ⟨i0, hi, hz, hs0, hb0⟩ := info_parts info_rd
  have IF := Lib.hid (And.intro hi (And.intro hz (And.intro hs0 hb0)))
  clear hi hz hs0 hb0
  have BE := Lib.hid bel
  have OR := Lib.hid oR
  have OF := Lib.hid oF
  have OL := Lib.hid (SL.out.olds ad rfl)
  go_wp2_with (at_builtin; refine wpList_append_own _ rfl _ _ 22 rfl w3.heap.size 26 i0 _ 5 40 (by kernel_rfl) IF.out.1 IF.out.2.1 IF.out.2.2.1 IF.out.2.2.2 rfl (by decide) _ 0 [] rfl (World.ownsRow_nil _ _ _ _) ad rs.length cap (flat rs) rfl (flat_len rs) OL.out flat_one_cell ?qc4 ?qc5 ?qc6 ?_)
  case qc4 => unfold maxLen; omega
  case qc5 => omega
  try case qc6 => exact Nat.le_refl _
  intro v1 w4 hown hgrow hnil
  have B4 := Lib.hid ((Below.refl _ w3).grown hgrow (Nat.le_refl _) (fun k hk => by cases hk))
  have H4 := Lib.hid hown
  have oR4 := OR.out.below B4.out
  obtain ⟨eR0, eR1, eR2, eR3, eR4, gR, yR⟩ := own5r oR4
  have oF4 := OF.out.below B4.out
  obtain ⟨eF0, gF, yF⟩ := own1 oF4
  clear hown hgrow hnil cR0 cR1 cR2 cR3 cR4 fR zR cF0 fF zF
  go_wp2_with (at_builtin; refine wpList_append_own _ rfl _ _ 22 rfl w3.heap.size 26 i0 _ 5 40 (by kernel_rfl) IF.out.1 IF.out.2.1 IF.out.2.2.1 IF.out.2.2.2 rfl (by decide) _ rs.length (flat rs) rfl (H4.out.alloc _) ⟨w4.heap.size, 0, none⟩ 1 1 r.cells rfl rfl (news_new w4 r 26) (cells_one r) ?qd4 ?qd5 ?qd6 ?_)
  case qd4 => unfold maxLen; omega
  case qd5 => omega
  case qd6 => have := B4.out.size; simp; omega
  intro v2 w5 hown hgrow hnil
  have B5 := Lib.hid ((B4.out.alloc B4.out.size (.cells r.cells.toArray 26)).grown hgrow (by have := B4.out.size; simp; omega) (fun k hk => (H4.out.lt k hk).1))
  have HOWN := Lib.hid (show w5.ownsRow w3.heap.size 26 5 v2 (rs ++ [r]).length (flat (rs ++ [r])) by simpa [flat_append, flat_one] using hown)
  have oF5 := OF.out.below B5.out
  obtain ⟨hF0, iF, jF⟩ := own1 oF5
  clear hown hgrow hnil
  obtain ⟨sl', nk'⟩ := slr_of_own rfl HOWN.out
  obtain ⟨n2, hn2⟩ : ∃ n2, n2 = (rs ++ [r]).length := ⟨_, rfl⟩
  obtain ⟨pq, capq, rfl⟩ := slr_form n2 sl' hn2.symm
  have HN2 := Lib.hid hn2
  clear sl' nk' hn2
  go_wp2_with fail
  refine bodyPost_ret (v := .tuple #[.agg #[.slice pq n2 capq], .int .i64 0]) (by simp [results, Try.results12, go_sem, *]) rfl ?_
  exact qpost_own HOWN.out (by have := OF.out.lt; omega) (BE.out.trans (B5.out.mono BE.out.size)) (by omega)

theorem rput_lit (v : Value) (rs : List Rd) (r : Rd) (me E : Int) (l : List Rd) (w : World) (sl : SlR w v rs) (nk : NilOk v) (h : putE rs r me = E ∧ putL rs r me = l) :
    Calls Try.prog 12 #[.agg #[v], .agg #[.int .i64 r.o, .int .i64 r.n, .int .i64 r.k, .int .i64 r.v, .int .i64 r.a], .int .i64 me] w fun e w' => QPost w E l e w' := by
  obtain ⟨rfl, rfl⟩ := h
  cases hv : vdB rs with
  | false =>
    have hE : putE rs r me = 1 := if_pos (Or.inl hv)
    rw [putL, hE, if_neg (by omega)]
    exact rput_bad v rs r me w sl nk hv
  | true =>
    cases hf : fmB r with
    | false =>
      have hE : putE rs r me = 1 := if_pos (Or.inr (Or.inl hf))
      rw [putL, hE, if_neg (by omega)]
      exact rput_form v rs r me w sl nk hv hf
    | true =>
      by_cases m0 : me < 0
      · have hE : putE rs r me = 1 := if_pos (Or.inr (Or.inr (Or.inl m0)))
        rw [putL, hE, if_neg (by omega)]
        exact rput_neg v rs r me w sl nk hv hf m0
      · by_cases m1 : 60 ≤ me
        · have hE : putE rs r me = 1 := if_pos (Or.inr (Or.inr (Or.inr m1)))
          rw [putL, hE, if_neg (by omega)]
          exact rput_far v rs r me w sl nk hv hf (by omega) m1
        · have n1 : ¬ (vdB rs = false ∨ fmB r = false ∨ me < 0 ∨ 60 ≤ me) := by simp [hv, hf]; omega
          by_cases hd : 0 ≤ fnd r.o r.n rs
          · have hE : putE rs r me = 5 := by rw [putE, if_neg n1, if_pos hd]
            rw [putL, hE, if_neg (by omega)]
            exact rput_twice v rs r me w sl nk hv hf (by omega) (by omega) _ rfl hd
          · by_cases h16 : rs.length = 16
            · have hE : putE rs r me = 10 := by rw [putE, if_neg n1, if_neg hd, if_pos (Or.inl h16)]
              rw [putL, hE, if_neg (by omega)]
              exact rput_full v rs r me w sl nk hv hf (by omega) (by omega) _ rfl (by omega) (by simp; omega)
            · have k16 : ((rs.length : Int) == 16) = false := by simp; omega
              by_cases hl : rs.length < 12
              · have hE : putE rs r me = 0 := by rw [putE, if_neg n1, if_neg hd, if_neg (by omega)]
                rw [putL, hE, if_pos rfl]
                obtain ⟨p, cap, rfl, hlc, hcm, parts⟩ := sl
                cases p with
                | none =>
                  obtain rfl : cap = 0 := nk _ _ rfl
                  obtain rfl : rs = [] := List.eq_nil_of_length_eq_zero (by omega)
                  exact rput_ok1_n [] r me w ⟨none, 0, rfl, hlc, hcm, parts⟩ hv hf (by omega) (by omega) _ rfl (by omega) k16 (by simp)
                | some ad => exact rput_ok1_s ad cap rs r me w ⟨some ad, cap, rfl, hlc, hcm, parts⟩ hv hf (by omega) (by omega) _ rfl (by omega) k16 (by omega)
              · by_cases ho : r.o = me
                · have hE : putE rs r me = 10 := by rw [putE, if_neg n1, if_neg hd, if_pos (by omega)]
                  rw [putL, hE, if_neg (by omega)]
                  exact rput_own v rs r me w sl nk hv hf (by omega) (by omega) _ rfl (by omega) k16 (by omega) (by simp [ho])
                · have hE : putE rs r me = 0 := by rw [putE, if_neg n1, if_neg hd, if_neg (by omega)]
                  rw [putL, hE, if_pos rfl]
                  obtain ⟨p, cap, rfl, hlc, hcm, parts⟩ := sl
                  cases p with
                  | none =>
                    obtain rfl : cap = 0 := nk _ _ rfl
                    omega
                  | some ad => exact rput_ok2_s ad cap rs r me w ⟨some ad, cap, rfl, hlc, hcm, parts⟩ hv hf (by omega) (by omega) _ rfl (by omega) k16 (by omega) (by simp [ho])

end Go.Proofs.Ytlfdbmndikdhdaa

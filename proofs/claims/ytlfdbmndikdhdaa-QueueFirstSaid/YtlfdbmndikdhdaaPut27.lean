/- The contract of queue.Put. -/
import Derived.Test.YtlfdbmndikdhdaaHeads27
import Derived.Test.YtlfdbmndikdhdaaMem27
import Derived.Deep.RegionLawGrows
import Derived.Lib.Hide
import Derived.Lib.BufferWrite
import Derived.Lib.SmallJoins
namespace Go.Proofs.Ytlfdbmndikdhdaa
open Go.RowKit

theorem slr_nil (w : World) : SlR w (.slice none 0 0) [] := ⟨none, 0, rfl, Nat.le_refl _, by unfold maxLen; omega, fun i r h => by simp at h⟩
theorem nil_nil : NilOk (.slice none 0 0) := fun n cap e => by cases e; rfl
/-- A queue is returned, with a number. -/
def QPost (w : World) (E : Int) (rs : List Rd) (e : Ending) (w' : World) : Prop :=
  ∃ v', e = .returned (.tuple #[.agg #[v'], .int .i64 E]) ∧ SlR w' v' rs ∧ NilOk v' ∧ Below w.heap.size w w'

set_option linter.unusedVariables false in
set_option maxRecDepth 100000 in
set_option maxHeartbeats 2000000 in
theorem put_invalid (v : Value) (rs : List Rd) (r : Rd) (me : Int) (w : World) (sl : SlR w v rs) (hv : vdB rs = false) :
    Calls Try.prog 11 #[.agg #[v], .agg #[.int .i64 r.o, .int .i64 r.n, .int .i64 r.k, .int .i64 r.v, .int .i64 r.a], .int .i64 me] w fun e w' => QPost w 1 [] e w' := by
  obtain ⟨p, cap, rfl, hlc, hcm, parts⟩ := sl
  have sl0 : SlR w (.slice p rs.length cap) rs := ⟨p, cap, rfl, hlc, hcm, parts⟩
  have SL0 := Lib.hid sl0
  have SL := Lib.hid (sl0.below ((((Below.refl w.heap.size w).alloc (by simp) (.cells #[.slice p rs.length cap] 24)).alloc (by simp) (.cells #[.int .i64 r.o, .int .i64 r.n, .int .i64 r.k, .int .i64 r.v, .int .i64 r.a] 26)).alloc (by simp; omega) (.cells #[.slice none 0 0] 24)))
  unfold maxLen at hcm
  clear sl0 parts
  have HV := Lib.hid hv
  clear hv
  go_enter Try.func11, Try.ntmps11
  go_wp2_with fail
  refine (qvalid_lit (.slice p rs.length cap) rs false _ SL.out HV.out).mono ?_
  rintro e w1 ⟨rfl, hb⟩
  have oQ : Own w1 w.heap.size [.slice p rs.length cap] 24 := (((own_at _ _ rfl).alloc _).alloc _).below hb
  have oR : Own w1 (w.heap.size + 1) [.int .i64 r.o, .int .i64 r.n, .int .i64 r.k, .int .i64 r.v, .int .i64 r.a] 26 := ((own_at _ _ (by simp)).alloc _).below hb
  have oP : Own w1 (w.heap.size + 2) [.slice none 0 0] 24 := (own_at _ _ (by simp)).below hb
  have bel := belowTo ((((Below.refl w.heap.size w).alloc (by simp) _).alloc (by simp) _).alloc (by simp; omega) _) hb (by simp; omega)
  clear hb 
  obtain ⟨cQ0, fQ, zQ⟩ := own1 oQ
  obtain ⟨cR0, cR1, cR2, cR3, cR4, fR, zR⟩ := own5r oR
  obtain ⟨cP0, fP, zP⟩ := own1 oP
  go_wp2_with fail
  refine bodyPost_ret (v := .tuple #[.agg #[.slice none 0 0], .int .i64 1]) (by simp [results, Try.results11, go_sem, *]) rfl ⟨.slice none 0 0, rfl, slr_nil _, nil_nil, ?_⟩
  repeat (first | (with_reducible exact bel) | (with_reducible refine belowSet ?_ _ _ _ ?_) | (with_reducible refine Below.drew ?_) | (with_reducible refine belowN ?_) | (with_reducible refine Below.alloc ?_ ?_ _))
  all_goals (first | omega | (simp; omega) | (simp; done) | (have := bel.size; simp; omega))

set_option linter.unusedVariables false in
set_option maxRecDepth 100000 in
set_option maxHeartbeats 2000000 in
theorem put_unformed (v : Value) (rs : List Rd) (r : Rd) (me : Int) (w : World) (sl : SlR w v rs) (hv : vdB rs = true) (hf : fmB r = false) :
    Calls Try.prog 11 #[.agg #[v], .agg #[.int .i64 r.o, .int .i64 r.n, .int .i64 r.k, .int .i64 r.v, .int .i64 r.a], .int .i64 me] w fun e w' => QPost w 1 [] e w' := by
  obtain ⟨p, cap, rfl, hlc, hcm, parts⟩ := sl
  have sl0 : SlR w (.slice p rs.length cap) rs := ⟨p, cap, rfl, hlc, hcm, parts⟩
  have SL0 := Lib.hid sl0
  have SL := Lib.hid (sl0.below ((((Below.refl w.heap.size w).alloc (by simp) (.cells #[.slice p rs.length cap] 24)).alloc (by simp) (.cells #[.int .i64 r.o, .int .i64 r.n, .int .i64 r.k, .int .i64 r.v, .int .i64 r.a] 26)).alloc (by simp; omega) (.cells #[.slice none 0 0] 24)))
  unfold maxLen at hcm
  clear sl0 parts
  have HV := Lib.hid hv
  clear hv
  have HF := Lib.hid hf
  clear hf
  go_enter Try.func11, Try.ntmps11
  go_wp2_with fail
  refine (qvalid_lit (.slice p rs.length cap) rs true _ SL.out HV.out).mono ?_
  rintro e w1 ⟨rfl, hb⟩
  have oQ : Own w1 w.heap.size [.slice p rs.length cap] 24 := (((own_at _ _ rfl).alloc _).alloc _).below hb
  have oR : Own w1 (w.heap.size + 1) [.int .i64 r.o, .int .i64 r.n, .int .i64 r.k, .int .i64 r.v, .int .i64 r.a] 26 := ((own_at _ _ (by simp)).alloc _).below hb
  have oP : Own w1 (w.heap.size + 2) [.slice none 0 0] 24 := (own_at _ _ (by simp)).below hb
  have bel := belowTo ((((Below.refl w.heap.size w).alloc (by simp) _).alloc (by simp) _).alloc (by simp; omega) _) hb (by simp; omega)
  clear hb 
  obtain ⟨cQ0, fQ, zQ⟩ := own1 oQ
  obtain ⟨cR0, cR1, cR2, cR3, cR4, fR, zR⟩ := own5r oR
  obtain ⟨cP0, fP, zP⟩ := own1 oP
  go_wp2_with fail
  refine (formed_lit r (x := false) _ HF.out).mono ?_
  rintro e w2 ⟨rfl, hb⟩
  replace oQ := oQ.below hb
  replace oR := oR.below hb
  replace oP := oP.below hb
  replace bel := belowTo bel hb (by exact bel.size)
  clear hb cQ0 fQ zQ cR0 cR1 cR2 cR3 cR4 fR zR cP0 fP zP
  obtain ⟨cQ0, fQ, zQ⟩ := own1 oQ
  obtain ⟨cR0, cR1, cR2, cR3, cR4, fR, zR⟩ := own5r oR
  obtain ⟨cP0, fP, zP⟩ := own1 oP
  go_wp2_with fail
  refine bodyPost_ret (v := .tuple #[.agg #[.slice none 0 0], .int .i64 1]) (by simp [results, Try.results11, go_sem, *]) rfl ⟨.slice none 0 0, rfl, slr_nil _, nil_nil, ?_⟩
  repeat (first | (with_reducible exact bel) | (with_reducible refine belowSet ?_ _ _ _ ?_) | (with_reducible refine Below.drew ?_) | (with_reducible refine belowN ?_) | (with_reducible refine Below.alloc ?_ ?_ _))
  all_goals (first | omega | (simp; omega) | (simp; done) | (have := bel.size; simp; omega))

set_option linter.unusedVariables false in
set_option maxRecDepth 100000 in
set_option maxHeartbeats 2000000 in
theorem put_neg (v : Value) (rs : List Rd) (r : Rd) (me : Int) (w : World) (sl : SlR w v rs) (hv : vdB rs = true) (hf : fmB r = true) (hm : me < 0) :
    Calls Try.prog 11 #[.agg #[v], .agg #[.int .i64 r.o, .int .i64 r.n, .int .i64 r.k, .int .i64 r.v, .int .i64 r.a], .int .i64 me] w fun e w' => QPost w 1 [] e w' := by
  obtain ⟨p, cap, rfl, hlc, hcm, parts⟩ := sl
  have sl0 : SlR w (.slice p rs.length cap) rs := ⟨p, cap, rfl, hlc, hcm, parts⟩
  have SL0 := Lib.hid sl0
  have SL := Lib.hid (sl0.below ((((Below.refl w.heap.size w).alloc (by simp) (.cells #[.slice p rs.length cap] 24)).alloc (by simp) (.cells #[.int .i64 r.o, .int .i64 r.n, .int .i64 r.k, .int .i64 r.v, .int .i64 r.a] 26)).alloc (by simp; omega) (.cells #[.slice none 0 0] 24)))
  unfold maxLen at hcm
  clear sl0 parts
  have HV := Lib.hid hv
  clear hv
  have HF := Lib.hid hf
  clear hf
  go_enter Try.func11, Try.ntmps11
  go_wp2_with fail
  refine (qvalid_lit (.slice p rs.length cap) rs true _ SL.out HV.out).mono ?_
  rintro e w1 ⟨rfl, hb⟩
  have oQ : Own w1 w.heap.size [.slice p rs.length cap] 24 := (((own_at _ _ rfl).alloc _).alloc _).below hb
  have oR : Own w1 (w.heap.size + 1) [.int .i64 r.o, .int .i64 r.n, .int .i64 r.k, .int .i64 r.v, .int .i64 r.a] 26 := ((own_at _ _ (by simp)).alloc _).below hb
  have oP : Own w1 (w.heap.size + 2) [.slice none 0 0] 24 := (own_at _ _ (by simp)).below hb
  have bel := belowTo ((((Below.refl w.heap.size w).alloc (by simp) _).alloc (by simp) _).alloc (by simp; omega) _) hb (by simp; omega)
  clear hb 
  obtain ⟨cQ0, fQ, zQ⟩ := own1 oQ
  obtain ⟨cR0, cR1, cR2, cR3, cR4, fR, zR⟩ := own5r oR
  obtain ⟨cP0, fP, zP⟩ := own1 oP
  go_wp2_with fail
  refine (formed_lit r (x := true) _ HF.out).mono ?_
  rintro e w2 ⟨rfl, hb⟩
  replace oQ := oQ.below hb
  replace oR := oR.below hb
  replace oP := oP.below hb
  replace bel := belowTo bel hb (by exact bel.size)
  clear hb cQ0 fQ zQ cR0 cR1 cR2 cR3 cR4 fR zR cP0 fP zP
  obtain ⟨cQ0, fQ, zQ⟩ := own1 oQ
  obtain ⟨cR0, cR1, cR2, cR3, cR4, fR, zR⟩ := own5r oR
  obtain ⟨cP0, fP, zP⟩ := own1 oP
  go_wp2_with fail
  refine bodyPost_ret (v := .tuple #[.agg #[.slice none 0 0], .int .i64 1]) (by simp [results, Try.results11, go_sem, *]) rfl ⟨.slice none 0 0, rfl, slr_nil _, nil_nil, ?_⟩
  repeat (first | (with_reducible exact bel) | (with_reducible refine belowSet ?_ _ _ _ ?_) | (with_reducible refine Below.drew ?_) | (with_reducible refine belowN ?_) | (with_reducible refine Below.alloc ?_ ?_ _))
  all_goals (first | omega | (simp; omega) | (simp; done) | (have := bel.size; simp; omega))

set_option linter.unusedVariables false in
set_option maxRecDepth 100000 in
set_option maxHeartbeats 2000000 in
theorem put_far (v : Value) (rs : List Rd) (r : Rd) (me : Int) (w : World) (sl : SlR w v rs) (hv : vdB rs = true) (hf : fmB r = true) (hm0 : 0 ≤ me) (hm : 60 ≤ me) :
    Calls Try.prog 11 #[.agg #[v], .agg #[.int .i64 r.o, .int .i64 r.n, .int .i64 r.k, .int .i64 r.v, .int .i64 r.a], .int .i64 me] w fun e w' => QPost w 1 [] e w' := by
  obtain ⟨p, cap, rfl, hlc, hcm, parts⟩ := sl
  have sl0 : SlR w (.slice p rs.length cap) rs := ⟨p, cap, rfl, hlc, hcm, parts⟩
  have SL0 := Lib.hid sl0
  have SL := Lib.hid (sl0.below ((((Below.refl w.heap.size w).alloc (by simp) (.cells #[.slice p rs.length cap] 24)).alloc (by simp) (.cells #[.int .i64 r.o, .int .i64 r.n, .int .i64 r.k, .int .i64 r.v, .int .i64 r.a] 26)).alloc (by simp; omega) (.cells #[.slice none 0 0] 24)))
  unfold maxLen at hcm
  clear sl0 parts
  have HV := Lib.hid hv
  clear hv
  have HF := Lib.hid hf
  clear hf
  go_enter Try.func11, Try.ntmps11
  go_wp2_with fail
  refine (qvalid_lit (.slice p rs.length cap) rs true _ SL.out HV.out).mono ?_
  rintro e w1 ⟨rfl, hb⟩
  have oQ : Own w1 w.heap.size [.slice p rs.length cap] 24 := (((own_at _ _ rfl).alloc _).alloc _).below hb
  have oR : Own w1 (w.heap.size + 1) [.int .i64 r.o, .int .i64 r.n, .int .i64 r.k, .int .i64 r.v, .int .i64 r.a] 26 := ((own_at _ _ (by simp)).alloc _).below hb
  have oP : Own w1 (w.heap.size + 2) [.slice none 0 0] 24 := (own_at _ _ (by simp)).below hb
  have bel := belowTo ((((Below.refl w.heap.size w).alloc (by simp) _).alloc (by simp) _).alloc (by simp; omega) _) hb (by simp; omega)
  clear hb 
  obtain ⟨cQ0, fQ, zQ⟩ := own1 oQ
  obtain ⟨cR0, cR1, cR2, cR3, cR4, fR, zR⟩ := own5r oR
  obtain ⟨cP0, fP, zP⟩ := own1 oP
  go_wp2_with fail
  refine (formed_lit r (x := true) _ HF.out).mono ?_
  rintro e w2 ⟨rfl, hb⟩
  replace oQ := oQ.below hb
  replace oR := oR.below hb
  replace oP := oP.below hb
  replace bel := belowTo bel hb (by exact bel.size)
  clear hb cQ0 fQ zQ cR0 cR1 cR2 cR3 cR4 fR zR cP0 fP zP
  obtain ⟨cQ0, fQ, zQ⟩ := own1 oQ
  obtain ⟨cR0, cR1, cR2, cR3, cR4, fR, zR⟩ := own5r oR
  obtain ⟨cP0, fP, zP⟩ := own1 oP
  go_wp2_with fail
  refine bodyPost_ret (v := .tuple #[.agg #[.slice none 0 0], .int .i64 1]) (by simp [results, Try.results11, go_sem, *]) rfl ⟨.slice none 0 0, rfl, slr_nil _, nil_nil, ?_⟩
  repeat (first | (with_reducible exact bel) | (with_reducible refine belowSet ?_ _ _ _ ?_) | (with_reducible refine Below.drew ?_) | (with_reducible refine belowN ?_) | (with_reducible refine Below.alloc ?_ ?_ _))
  all_goals (first | omega | (simp; omega) | (simp; done) | (have := bel.size; simp; omega))

set_option linter.unusedVariables false in
set_option maxRecDepth 100000 in
set_option maxHeartbeats 2000000 in
theorem put_twice (v : Value) (rs : List Rd) (r : Rd) (me : Int) (w : World) (sl : SlR w v rs) (hv : vdB rs = true) (hf : fmB r = true) (hm0 : 0 ≤ me) (hm : me < 60) (F : Int) (hd : fnd r.o r.n rs = F) (h0 : 0 ≤ F) :
    Calls Try.prog 11 #[.agg #[v], .agg #[.int .i64 r.o, .int .i64 r.n, .int .i64 r.k, .int .i64 r.v, .int .i64 r.a], .int .i64 me] w fun e w' => QPost w 5 [] e w' := by
  obtain ⟨p, cap, rfl, hlc, hcm, parts⟩ := sl
  have sl0 : SlR w (.slice p rs.length cap) rs := ⟨p, cap, rfl, hlc, hcm, parts⟩
  have SL0 := Lib.hid sl0
  have SL := Lib.hid (sl0.below ((((Below.refl w.heap.size w).alloc (by simp) (.cells #[.slice p rs.length cap] 24)).alloc (by simp) (.cells #[.int .i64 r.o, .int .i64 r.n, .int .i64 r.k, .int .i64 r.v, .int .i64 r.a] 26)).alloc (by simp; omega) (.cells #[.slice none 0 0] 24)))
  unfold maxLen at hcm
  clear sl0 parts
  have HV := Lib.hid hv
  clear hv
  have HF := Lib.hid hf
  clear hf
  have HD := Lib.hid hd
  clear hd
  go_enter Try.func11, Try.ntmps11
  go_wp2_with fail
  refine (qvalid_lit (.slice p rs.length cap) rs true _ SL.out HV.out).mono ?_
  rintro e w1 ⟨rfl, hb⟩
  have oQ : Own w1 w.heap.size [.slice p rs.length cap] 24 := (((own_at _ _ rfl).alloc _).alloc _).below hb
  have oR : Own w1 (w.heap.size + 1) [.int .i64 r.o, .int .i64 r.n, .int .i64 r.k, .int .i64 r.v, .int .i64 r.a] 26 := ((own_at _ _ (by simp)).alloc _).below hb
  have oP : Own w1 (w.heap.size + 2) [.slice none 0 0] 24 := (own_at _ _ (by simp)).below hb
  have bel := belowTo ((((Below.refl w.heap.size w).alloc (by simp) _).alloc (by simp) _).alloc (by simp; omega) _) hb (by simp; omega)
  clear hb 
  obtain ⟨cQ0, fQ, zQ⟩ := own1 oQ
  obtain ⟨cR0, cR1, cR2, cR3, cR4, fR, zR⟩ := own5r oR
  obtain ⟨cP0, fP, zP⟩ := own1 oP
  go_wp2_with fail
  refine (formed_lit r (x := true) _ HF.out).mono ?_
  rintro e w2 ⟨rfl, hb⟩
  replace oQ := oQ.below hb
  replace oR := oR.below hb
  replace oP := oP.below hb
  replace bel := belowTo bel hb (by exact bel.size)
  clear hb cQ0 fQ zQ cR0 cR1 cR2 cR3 cR4 fR zR cP0 fP zP
  obtain ⟨cQ0, fQ, zQ⟩ := own1 oQ
  obtain ⟨cR0, cR1, cR2, cR3, cR4, fR, zR⟩ := own5r oR
  obtain ⟨cP0, fP, zP⟩ := own1 oP
  have SLZ := Lib.hid (SL0.out.below bel)
  go_wp2_with fail
  have pQ0 := fun x : Past w2 => (oQ.past x).cell (i := 0) rfl
  have pR0 := fun x : Past w2 => (oR.past x).cell (i := 0) rfl
  have pR1 := fun x : Past w2 => (oR.past x).cell (i := 1) rfl
  have pR2 := fun x : Past w2 => (oR.past x).cell (i := 2) rfl
  have pR3 := fun x : Past w2 => (oR.past x).cell (i := 3) rfl
  have pR4 := fun x : Past w2 => (oR.past x).cell (i := 4) rfl
  have pP0 := fun x : Past w2 => (oP.past x).cell (i := 0) rfl
  refine wp_region_past (by kernel_rfl) (by kernel_rfl) ?_
  repeat (go_big_quiet_step ((first | (go_at_call 27; exact calls_past (name_any r.o r.n r.k r.v r.a _)) | (go_at_call 26; exact calls_past (find_lit (.slice p rs.length cap) rs r.o r.n F _ (past_sl SLZ.out) HD.out)))))
  refine wpQuiet_nil ?_
  rintro _ ⟨x, rfl⟩
  replace bel : Below w.heap.size w (past w2 x) := bel.trans (x.h.mono bel.size)
  clear pQ0
  clear pR0 pR1 pR2 pR3 pR4
  clear pP0
  clear cQ0 fQ zQ cR0 cR1 cR2 cR3 cR4 fR zR cP0 fP zP
  replace oQ := oQ.past x
  replace oR := oR.past x
  replace oP := oP.past x
  generalize past w2 x = w3 at oQ oR oP bel ⊢
  obtain ⟨cQ0, fQ, zQ⟩ := own1 oQ
  obtain ⟨cR0, cR1, cR2, cR3, cR4, fR, zR⟩ := own5r oR
  obtain ⟨cP0, fP, zP⟩ := own1 oP
  have SL3 := Lib.hid (SL0.out.below bel)
  clear SLZ
  go_wp2_with fail
  refine bodyPost_ret (v := .tuple #[.agg #[.slice none 0 0], .int .i64 5]) (by simp [results, Try.results11, go_sem, *]) rfl ⟨.slice none 0 0, rfl, slr_nil _, nil_nil, ?_⟩
  repeat (first | (with_reducible exact bel) | (with_reducible refine belowSet ?_ _ _ _ ?_) | (with_reducible refine Below.drew ?_) | (with_reducible refine belowN ?_) | (with_reducible refine Below.alloc ?_ ?_ _))
  all_goals (first | omega | (simp; omega) | (simp; done) | (have := bel.size; simp; omega))

set_option linter.unusedVariables false in
set_option maxRecDepth 100000 in
set_option maxHeartbeats 2000000 in
theorem put_full (v : Value) (rs : List Rd) (r : Rd) (me : Int) (w : World) (sl : SlR w v rs) (hv : vdB rs = true) (hf : fmB r = true) (hm0 : 0 ≤ me) (hm : me < 60) (F : Int) (hd : fnd r.o r.n rs = F) (h0 : F < 0) (h16 : ((rs.length : Int) == 16) = true) :
    Calls Try.prog 11 #[.agg #[v], .agg #[.int .i64 r.o, .int .i64 r.n, .int .i64 r.k, .int .i64 r.v, .int .i64 r.a], .int .i64 me] w fun e w' => QPost w 10 [] e w' := by
  obtain ⟨p, cap, rfl, hlc, hcm, parts⟩ := sl
  have sl0 : SlR w (.slice p rs.length cap) rs := ⟨p, cap, rfl, hlc, hcm, parts⟩
  have SL0 := Lib.hid sl0
  have SL := Lib.hid (sl0.below ((((Below.refl w.heap.size w).alloc (by simp) (.cells #[.slice p rs.length cap] 24)).alloc (by simp) (.cells #[.int .i64 r.o, .int .i64 r.n, .int .i64 r.k, .int .i64 r.v, .int .i64 r.a] 26)).alloc (by simp; omega) (.cells #[.slice none 0 0] 24)))
  unfold maxLen at hcm
  clear sl0 parts
  have HV := Lib.hid hv
  clear hv
  have HF := Lib.hid hf
  clear hf
  have HD := Lib.hid hd
  clear hd
  go_enter Try.func11, Try.ntmps11
  go_wp2_with fail
  refine (qvalid_lit (.slice p rs.length cap) rs true _ SL.out HV.out).mono ?_
  rintro e w1 ⟨rfl, hb⟩
  have oQ : Own w1 w.heap.size [.slice p rs.length cap] 24 := (((own_at _ _ rfl).alloc _).alloc _).below hb
  have oR : Own w1 (w.heap.size + 1) [.int .i64 r.o, .int .i64 r.n, .int .i64 r.k, .int .i64 r.v, .int .i64 r.a] 26 := ((own_at _ _ (by simp)).alloc _).below hb
  have oP : Own w1 (w.heap.size + 2) [.slice none 0 0] 24 := (own_at _ _ (by simp)).below hb
  have bel := belowTo ((((Below.refl w.heap.size w).alloc (by simp) _).alloc (by simp) _).alloc (by simp; omega) _) hb (by simp; omega)
  clear hb 
  obtain ⟨cQ0, fQ, zQ⟩ := own1 oQ
  obtain ⟨cR0, cR1, cR2, cR3, cR4, fR, zR⟩ := own5r oR
  obtain ⟨cP0, fP, zP⟩ := own1 oP
  go_wp2_with fail
  refine (formed_lit r (x := true) _ HF.out).mono ?_
  rintro e w2 ⟨rfl, hb⟩
  replace oQ := oQ.below hb
  replace oR := oR.below hb
  replace oP := oP.below hb
  replace bel := belowTo bel hb (by exact bel.size)
  clear hb cQ0 fQ zQ cR0 cR1 cR2 cR3 cR4 fR zR cP0 fP zP
  obtain ⟨cQ0, fQ, zQ⟩ := own1 oQ
  obtain ⟨cR0, cR1, cR2, cR3, cR4, fR, zR⟩ := own5r oR
  obtain ⟨cP0, fP, zP⟩ := own1 oP
  have SLZ := Lib.hid (SL0.out.below bel)
  go_wp2_with fail
  have pQ0 := fun x : Past w2 => (oQ.past x).cell (i := 0) rfl
  have pR0 := fun x : Past w2 => (oR.past x).cell (i := 0) rfl
  have pR1 := fun x : Past w2 => (oR.past x).cell (i := 1) rfl
  have pR2 := fun x : Past w2 => (oR.past x).cell (i := 2) rfl
  have pR3 := fun x : Past w2 => (oR.past x).cell (i := 3) rfl
  have pR4 := fun x : Past w2 => (oR.past x).cell (i := 4) rfl
  have pP0 := fun x : Past w2 => (oP.past x).cell (i := 0) rfl
  refine wp_region_past (by kernel_rfl) (by kernel_rfl) ?_
  repeat (go_big_quiet_step ((first | (go_at_call 27; exact calls_past (name_any r.o r.n r.k r.v r.a _)) | (go_at_call 26; exact calls_past (find_lit (.slice p rs.length cap) rs r.o r.n F _ (past_sl SLZ.out) HD.out)))))
  refine wpQuiet_nil ?_
  rintro _ ⟨x, rfl⟩
  replace bel : Below w.heap.size w (past w2 x) := bel.trans (x.h.mono bel.size)
  clear pQ0
  clear pR0 pR1 pR2 pR3 pR4
  clear pP0
  clear cQ0 fQ zQ cR0 cR1 cR2 cR3 cR4 fR zR cP0 fP zP
  replace oQ := oQ.past x
  replace oR := oR.past x
  replace oP := oP.past x
  generalize past w2 x = w3 at oQ oR oP bel ⊢
  obtain ⟨cQ0, fQ, zQ⟩ := own1 oQ
  obtain ⟨cR0, cR1, cR2, cR3, cR4, fR, zR⟩ := own5r oR
  obtain ⟨cP0, fP, zP⟩ := own1 oP
  have SL3 := Lib.hid (SL0.out.below bel)
  clear SLZ
  go_wp2_with fail
  refine bodyPost_ret (v := .tuple #[.agg #[.slice none 0 0], .int .i64 10]) (by simp [results, Try.results11, go_sem, *]) rfl ⟨.slice none 0 0, rfl, slr_nil _, nil_nil, ?_⟩
  repeat (first | (with_reducible exact bel) | (with_reducible refine belowSet ?_ _ _ _ ?_) | (with_reducible refine Below.drew ?_) | (with_reducible refine belowN ?_) | (with_reducible refine Below.alloc ?_ ?_ _))
  all_goals (first | omega | (simp; omega) | (simp; done) | (have := bel.size; simp; omega))

set_option linter.unusedVariables false in
set_option maxRecDepth 100000 in
set_option maxHeartbeats 2000000 in
theorem put_own (v : Value) (rs : List Rd) (r : Rd) (me : Int) (w : World) (sl : SlR w v rs) (hv : vdB rs = true) (hf : fmB r = true) (hm0 : 0 ≤ me) (hm : me < 60) (F : Int) (hd : fnd r.o r.n rs = F) (h0 : F < 0) (h16 : ((rs.length : Int) == 16) = false) (h12 : (12 : Int) ≤ rs.length) (ho : (r.o == me) = true) :
    Calls Try.prog 11 #[.agg #[v], .agg #[.int .i64 r.o, .int .i64 r.n, .int .i64 r.k, .int .i64 r.v, .int .i64 r.a], .int .i64 me] w fun e w' => QPost w 10 [] e w' := by
  obtain ⟨p, cap, rfl, hlc, hcm, parts⟩ := sl
  have sl0 : SlR w (.slice p rs.length cap) rs := ⟨p, cap, rfl, hlc, hcm, parts⟩
  have SL0 := Lib.hid sl0
  have SL := Lib.hid (sl0.below ((((Below.refl w.heap.size w).alloc (by simp) (.cells #[.slice p rs.length cap] 24)).alloc (by simp) (.cells #[.int .i64 r.o, .int .i64 r.n, .int .i64 r.k, .int .i64 r.v, .int .i64 r.a] 26)).alloc (by simp; omega) (.cells #[.slice none 0 0] 24)))
  unfold maxLen at hcm
  clear sl0 parts
  have HV := Lib.hid hv
  clear hv
  have HF := Lib.hid hf
  clear hf
  have HD := Lib.hid hd
  clear hd
  go_enter Try.func11, Try.ntmps11
  go_wp2_with fail
  refine (qvalid_lit (.slice p rs.length cap) rs true _ SL.out HV.out).mono ?_
  rintro e w1 ⟨rfl, hb⟩
  have oQ : Own w1 w.heap.size [.slice p rs.length cap] 24 := (((own_at _ _ rfl).alloc _).alloc _).below hb
  have oR : Own w1 (w.heap.size + 1) [.int .i64 r.o, .int .i64 r.n, .int .i64 r.k, .int .i64 r.v, .int .i64 r.a] 26 := ((own_at _ _ (by simp)).alloc _).below hb
  have oP : Own w1 (w.heap.size + 2) [.slice none 0 0] 24 := (own_at _ _ (by simp)).below hb
  have bel := belowTo ((((Below.refl w.heap.size w).alloc (by simp) _).alloc (by simp) _).alloc (by simp; omega) _) hb (by simp; omega)
  clear hb 
  obtain ⟨cQ0, fQ, zQ⟩ := own1 oQ
  obtain ⟨cR0, cR1, cR2, cR3, cR4, fR, zR⟩ := own5r oR
  obtain ⟨cP0, fP, zP⟩ := own1 oP
  go_wp2_with fail
  refine (formed_lit r (x := true) _ HF.out).mono ?_
  rintro e w2 ⟨rfl, hb⟩
  replace oQ := oQ.below hb
  replace oR := oR.below hb
  replace oP := oP.below hb
  replace bel := belowTo bel hb (by exact bel.size)
  clear hb cQ0 fQ zQ cR0 cR1 cR2 cR3 cR4 fR zR cP0 fP zP
  obtain ⟨cQ0, fQ, zQ⟩ := own1 oQ
  obtain ⟨cR0, cR1, cR2, cR3, cR4, fR, zR⟩ := own5r oR
  obtain ⟨cP0, fP, zP⟩ := own1 oP
  have SLZ := Lib.hid (SL0.out.below bel)
  go_wp2_with fail
  have pQ0 := fun x : Past w2 => (oQ.past x).cell (i := 0) rfl
  have pR0 := fun x : Past w2 => (oR.past x).cell (i := 0) rfl
  have pR1 := fun x : Past w2 => (oR.past x).cell (i := 1) rfl
  have pR2 := fun x : Past w2 => (oR.past x).cell (i := 2) rfl
  have pR3 := fun x : Past w2 => (oR.past x).cell (i := 3) rfl
  have pR4 := fun x : Past w2 => (oR.past x).cell (i := 4) rfl
  have pP0 := fun x : Past w2 => (oP.past x).cell (i := 0) rfl
  refine wp_region_past (by kernel_rfl) (by kernel_rfl) ?_
  repeat (go_big_quiet_step ((first | (go_at_call 27; exact calls_past (name_any r.o r.n r.k r.v r.a _)) | (go_at_call 26; exact calls_past (find_lit (.slice p rs.length cap) rs r.o r.n F _ (past_sl SLZ.out) HD.out)))))
  refine wpQuiet_nil ?_
  rintro _ ⟨x, rfl⟩
  replace bel : Below w.heap.size w (past w2 x) := bel.trans (x.h.mono bel.size)
  clear pQ0
  clear pR0 pR1 pR2 pR3 pR4
  clear pP0
  clear cQ0 fQ zQ cR0 cR1 cR2 cR3 cR4 fR zR cP0 fP zP
  replace oQ := oQ.past x
  replace oR := oR.past x
  replace oP := oP.past x
  generalize past w2 x = w3 at oQ oR oP bel ⊢
  obtain ⟨cQ0, fQ, zQ⟩ := own1 oQ
  obtain ⟨cR0, cR1, cR2, cR3, cR4, fR, zR⟩ := own5r oR
  obtain ⟨cP0, fP, zP⟩ := own1 oP
  have SL3 := Lib.hid (SL0.out.below bel)
  clear SLZ
  go_wp2_with fail
  refine bodyPost_ret (v := .tuple #[.agg #[.slice none 0 0], .int .i64 10]) (by simp [results, Try.results11, go_sem, *]) rfl ⟨.slice none 0 0, rfl, slr_nil _, nil_nil, ?_⟩
  repeat (first | (with_reducible exact bel) | (with_reducible refine belowSet ?_ _ _ _ ?_) | (with_reducible refine Below.drew ?_) | (with_reducible refine belowN ?_) | (with_reducible refine Below.alloc ?_ ?_ _))
  all_goals (first | omega | (simp; omega) | (simp; done) | (have := bel.size; simp; omega))

theorem info_rd : (Try.prog.info? 26).map (fun i => (i.zero, i.size, i.bytes)) = some (some (.agg #[.int .i64 0, .int .i64 0, .int .i64 0, .int .i64 0, .int .i64 0]), 5, 40) := by kernel_rfl
theorem vd_len {rs : List Rd} (h : vdB rs = true) : rs.length ≤ 16 := by
  simp only [vdB, Bool.and_eq_true, decide_eq_true_eq] at h
  exact h.2
theorem SlR.none_len {w : World} {p : Option Addr} {n cap : Nat} {rs : List Rd} (h : SlR w (.slice p n cap) rs) : p = none → rs = [] := by
  intro hp
  subst hp
  obtain ⟨p', cap', e, h2, h3, h4⟩ := h
  obtain ⟨rfl, rfl, _⟩ : none = p' ∧ n = rs.length ∧ cap = cap' := by injection e with e1 e2 e3; exact ⟨e1, e2, e3⟩
  cases rs with
  | nil => rfl
  | cons r rs => obtain ⟨b, off, hb, _⟩ := h4 0 r rfl; cases hb
theorem own_app {w : World} {B n : Nat} {t : TypeId} {v : Value} {rs : List Rd} {r : Rd} (h : w.ownsRow B t 5 v n (flat rs ++ r.cells)) : w.ownsRow B t 5 v n (flat (rs ++ [r])) := by rwa [flat_append, flat_one]
theorem slr_own_set {w : World} {B n b : Nat} {t : TypeId} {g gcap : Nat} {rs : List Rd} (hn : n = rs.length) (h : w.ownsRow B t 5 (.slice (some ⟨g, 0, none⟩) n gcap) n (flat rs)) (hb : b < B) (x : Value) :
    SlR (w.setCell ⟨b, 0, none⟩ x) (.slice (some ⟨g, 0, none⟩) n gcap) rs ∧ NilOk (.slice (some ⟨g, 0, none⟩) n gcap) := by
  have hg : B ≤ g := (h.lt g rfl).1
  exact slr_of_own hn (h.kept (Lib.grownBy_setCell w b 0 x) (Or.inr (by simp [Value.ownBlock]; omega)))
theorem cell_alloc_cells (w : World) (cs : Array Value) (t : TypeId) : ∀ j u, cs[j]? = some u → (w.alloc (.cells cs t)).cell? ⟨w.heap.size, j, none⟩ = some u := fun j u h => (own_new w cs t).cell (by simpa using h)

set_option linter.unusedVariables false in
set_option maxRecDepth 100000 in
set_option maxHeartbeats 2000000 in
theorem put_ok1 (v : Value) (rs : List Rd) (r : Rd) (me : Int) (w : World) (sl : SlR w v rs) (hv : vdB rs = true) (hf : fmB r = true) (hm0 : 0 ≤ me) (hm : me < 60) (F : Int) (hd : fnd r.o r.n rs = F) (h0 : F < 0) (h16 : ((rs.length : Int) == 16) = false) (h12 : (rs.length : Int) < 12) :
    Calls Try.prog 11 #[.agg #[v], .agg #[.int .i64 r.o, .int .i64 r.n, .int .i64 r.k, .int .i64 r.v, .int .i64 r.a], .int .i64 me] w fun e w' => QPost w 0 (rs ++ [r]) e w' := by
  obtain ⟨p, cap, rfl, hlc, hcm, parts⟩ := sl
  have sl0 : SlR w (.slice p rs.length cap) rs := ⟨p, cap, rfl, hlc, hcm, parts⟩
  have SL0 := Lib.hid sl0
  have SL := Lib.hid (sl0.below ((((Below.refl w.heap.size w).alloc (by simp) (.cells #[.slice p rs.length cap] 24)).alloc (by simp) (.cells #[.int .i64 r.o, .int .i64 r.n, .int .i64 r.k, .int .i64 r.v, .int .i64 r.a] 26)).alloc (by simp; omega) (.cells #[.slice none 0 0] 24)))
  unfold maxLen at hcm
  clear sl0 parts
  have HD := Lib.hid hd
  clear hd
  have HV := Lib.hid hv
  clear hv
  have HF := Lib.hid hf
  clear hf
  go_enter Try.func11, Try.ntmps11
  go_wp2_with fail
  refine (qvalid_lit (.slice p rs.length cap) rs true _ SL.out HV.out).mono ?_
  rintro e w1 ⟨rfl, hb⟩
  have oQ : Own w1 w.heap.size [.slice p rs.length cap] 24 := (((own_at _ _ rfl).alloc _).alloc _).below hb
  have oR : Own w1 (w.heap.size + 1) [.int .i64 r.o, .int .i64 r.n, .int .i64 r.k, .int .i64 r.v, .int .i64 r.a] 26 := ((own_at _ _ (by simp)).alloc _).below hb
  have oP : Own w1 (w.heap.size + 2) [.slice none 0 0] 24 := (own_at _ _ (by simp)).below hb
  have bel := belowTo ((((Below.refl w.heap.size w).alloc (by simp) _).alloc (by simp) _).alloc (by simp; omega) _) hb (by simp; omega)
  clear hb 
  obtain ⟨cQ0, fQ, zQ⟩ := own1 oQ
  obtain ⟨cR0, cR1, cR2, cR3, cR4, fR, zR⟩ := own5r oR
  obtain ⟨cP0, fP, zP⟩ := own1 oP
  go_wp2_with fail
  refine (formed_lit r (x := true) _ HF.out).mono ?_
  rintro e w2 ⟨rfl, hb⟩
  replace oQ := oQ.below hb
  replace oR := oR.below hb
  replace oP := oP.below hb
  replace bel := belowTo bel hb (by exact bel.size)
  clear hb cQ0 fQ zQ cR0 cR1 cR2 cR3 cR4 fR zR cP0 fP zP
  obtain ⟨cQ0, fQ, zQ⟩ := own1 oQ
  obtain ⟨cR0, cR1, cR2, cR3, cR4, fR, zR⟩ := own5r oR
  obtain ⟨cP0, fP, zP⟩ := own1 oP
  have SLZ := Lib.hid (SL0.out.below bel)
  go_wp2_with fail
  have pQ0 := fun x : Past w2 => (oQ.past x).cell (i := 0) rfl
  have pR0 := fun x : Past w2 => (oR.past x).cell (i := 0) rfl
  have pR1 := fun x : Past w2 => (oR.past x).cell (i := 1) rfl
  have pR2 := fun x : Past w2 => (oR.past x).cell (i := 2) rfl
  have pR3 := fun x : Past w2 => (oR.past x).cell (i := 3) rfl
  have pR4 := fun x : Past w2 => (oR.past x).cell (i := 4) rfl
  have pP0 := fun x : Past w2 => (oP.past x).cell (i := 0) rfl
  refine wp_region_past (by kernel_rfl) (by kernel_rfl) ?_
  repeat (go_big_quiet_step ((first | (go_at_call 27; exact calls_past (name_any r.o r.n r.k r.v r.a _)) | (go_at_call 26; exact calls_past (find_lit (.slice p rs.length cap) rs r.o r.n F _ (past_sl SLZ.out) HD.out)))))
  refine wpQuiet_nil ?_
  rintro _ ⟨x, rfl⟩
  replace bel : Below w.heap.size w (past w2 x) := bel.trans (x.h.mono bel.size)
  clear pQ0
  clear pR0 pR1 pR2 pR3 pR4
  clear pP0
  clear cQ0 fQ zQ cR0 cR1 cR2 cR3 cR4 fR zR cP0 fP zP
  replace oQ := oQ.past x
  replace oR := oR.past x
  replace oP := oP.past x
  generalize past w2 x = w3 at oQ oR oP bel ⊢
  obtain ⟨cQ0, fQ, zQ⟩ := own1 oQ
  obtain ⟨cR0, cR1, cR2, cR3, cR4, fR, zR⟩ := own5r oR
  obtain ⟨cP0, fP, zP⟩ := own1 oP
  have SL3 := Lib.hid (SL0.out.below bel)
  clear SLZ
  go_wp2_with fail
  have bel8 : Below w3.heap.size w3 (w3.alloc (Obj.cells #[.int .i64 r.o, .int .i64 r.n, .int .i64 r.k, .int .i64 r.v, .int .i64 r.a] 26)).drew := ((Below.refl _ w3).alloc (Nat.le_refl _) _).drew
  have OL := Lib.hid ((SL3.out.below bel8).olds)
  have HN := Lib.hid SL3.out.none_len
  have CN := Lib.hid (cell_alloc_cells w3 #[.int .i64 r.o, .int .i64 r.n, .int .i64 r.k, .int .i64 r.v, .int .i64 r.a] 26)
  obtain ⟨i0, hi, hz, hs0, hb0⟩ := info_parts info_rd
  have i1 : (0:Int) ≤ (rs.length : Int) := by omega
  have i2 : (rs.length : Int) ≤ (cap : Int) := by omega
  have hl17 : rs.length < 16 := by have := vd_len HV.out; have : rs.length ≠ 16 := (by simp at h16; omega); omega
  have OP := Lib.hid (oP.below bel8)
  have ZP := Lib.hid (Nat.lt_of_lt_of_le zP bel8.size)
  have BA := Lib.hid (belowTo bel bel8 bel.size)
  clear bel8
  cases p with
  | none =>
    obtain rfl : rs = [] := HN.out rfl
    go_region_law (refine step_append_grows rfl (.tmp 56) (.tmp 58) 22 rfl 26 i0 _ 5 40 (by kernel_rfl) hi hz hs0 hb0 rfl (by decide) none 0 0 [] (by simp [Act.eval, Act.put]) (by simp) rfl (fun b hb => by cases hb) ⟨w3.heap.size, 0, none⟩ 1 1 r.cells (by simp [Act.eval, Act.put]) rfl (fun j u h => by rw [Go.WideShapes.add_plain, Nat.zero_add]; exact CN.out j u (by simpa [Rd.cells] using h)) (by simp [Rd.cells, Value.oneCell']) (by omega) (by unfold maxLen; omega) (by omega) ?_; intro v' w' hown hgrow; obtain ⟨g, gcap, rfl⟩ := Joins.ownsRow_form hown (by omega); have HO := Lib.hid (own_app (rs := ([] : List Rd)) (r := r) hown); have HB := Lib.hid (belowTo BA.out (below_of_grown hgrow) BA.out.size); have oP' := OP.out.below (below_of_grown hgrow); clear hown hgrow; obtain ⟨cP', fP', zP'⟩ := own1 oP'; clear oP')
    all_goals (
      go_wp2_with fail
      refine bodyPost_ret (v := .tuple #[.agg #[.slice (some ⟨g, 0, none⟩) (0 + 1) gcap], .int .i64 0]) (by simp [results, Try.results11, go_sem, *]) rfl ⟨_, rfl, (slr_own_set (rs := ([] : List Rd) ++ [r]) (by simp) HO.out ZP.out _).1, (slr_own_set (rs := ([] : List Rd) ++ [r]) (by simp) HO.out ZP.out (.bool false)).2, ?_⟩
      exact belowSet HB.out _ _ _ (by omega))
  | some ad =>
    go_region_law (refine step_append_grows rfl (.tmp 56) (.tmp 58) 22 rfl 26 i0 _ 5 40 (by kernel_rfl) hi hz hs0 hb0 rfl (by decide) (some ad) rs.length rs.length (flat rs) (by simp [Act.eval, Act.put]) (by simp) (flat_len rs) OL.out ⟨w3.heap.size, 0, none⟩ 1 1 r.cells (by simp [Act.eval, Act.put]) rfl (fun j u h => by rw [Go.WideShapes.add_plain, Nat.zero_add]; exact CN.out j u (by simpa [Rd.cells] using h)) (by simp [Rd.cells, Value.oneCell']) (by omega) (by unfold maxLen; omega) (by omega) ?_; intro v' w' hown hgrow; obtain ⟨g, gcap, rfl⟩ := Joins.ownsRow_form hown (by omega); have HO := Lib.hid (own_app (rs := rs) (r := r) hown); have HB := Lib.hid (belowTo BA.out (below_of_grown hgrow) BA.out.size); have oP' := OP.out.below (below_of_grown hgrow); clear hown hgrow; obtain ⟨cP', fP', zP'⟩ := own1 oP'; clear oP')
    all_goals (
      go_wp2_with fail
      refine bodyPost_ret (v := .tuple #[.agg #[.slice (some ⟨g, 0, none⟩) (rs.length + 1) gcap], .int .i64 0]) (by simp [results, Try.results11, go_sem, *]) rfl ⟨_, rfl, (slr_own_set (rs := rs ++ [r]) (by simp) HO.out ZP.out _).1, (slr_own_set (rs := rs ++ [r]) (by simp) HO.out ZP.out (.bool false)).2, ?_⟩
      exact belowSet HB.out _ _ _ (by omega))

set_option linter.unusedVariables false in
set_option maxRecDepth 100000 in
set_option maxHeartbeats 2000000 in
theorem put_ok2 (v : Value) (rs : List Rd) (r : Rd) (me : Int) (w : World) (sl : SlR w v rs) (hv : vdB rs = true) (hf : fmB r = true) (hm0 : 0 ≤ me) (hm : me < 60) (F : Int) (hd : fnd r.o r.n rs = F) (h0 : F < 0) (h16 : ((rs.length : Int) == 16) = false) (h12 : (12 : Int) ≤ rs.length) (ho : (r.o == me) = false) :
    Calls Try.prog 11 #[.agg #[v], .agg #[.int .i64 r.o, .int .i64 r.n, .int .i64 r.k, .int .i64 r.v, .int .i64 r.a], .int .i64 me] w fun e w' => QPost w 0 (rs ++ [r]) e w' := by
  obtain ⟨p, cap, rfl, hlc, hcm, parts⟩ := sl
  have sl0 : SlR w (.slice p rs.length cap) rs := ⟨p, cap, rfl, hlc, hcm, parts⟩
  have SL0 := Lib.hid sl0
  have SL := Lib.hid (sl0.below ((((Below.refl w.heap.size w).alloc (by simp) (.cells #[.slice p rs.length cap] 24)).alloc (by simp) (.cells #[.int .i64 r.o, .int .i64 r.n, .int .i64 r.k, .int .i64 r.v, .int .i64 r.a] 26)).alloc (by simp; omega) (.cells #[.slice none 0 0] 24)))
  unfold maxLen at hcm
  clear sl0 parts
  have HD := Lib.hid hd
  clear hd
  have HV := Lib.hid hv
  clear hv
  have HF := Lib.hid hf
  clear hf
  go_enter Try.func11, Try.ntmps11
  go_wp2_with fail
  refine (qvalid_lit (.slice p rs.length cap) rs true _ SL.out HV.out).mono ?_
  rintro e w1 ⟨rfl, hb⟩
  have oQ : Own w1 w.heap.size [.slice p rs.length cap] 24 := (((own_at _ _ rfl).alloc _).alloc _).below hb
  have oR : Own w1 (w.heap.size + 1) [.int .i64 r.o, .int .i64 r.n, .int .i64 r.k, .int .i64 r.v, .int .i64 r.a] 26 := ((own_at _ _ (by simp)).alloc _).below hb
  have oP : Own w1 (w.heap.size + 2) [.slice none 0 0] 24 := (own_at _ _ (by simp)).below hb
  have bel := belowTo ((((Below.refl w.heap.size w).alloc (by simp) _).alloc (by simp) _).alloc (by simp; omega) _) hb (by simp; omega)
  clear hb 
  obtain ⟨cQ0, fQ, zQ⟩ := own1 oQ
  obtain ⟨cR0, cR1, cR2, cR3, cR4, fR, zR⟩ := own5r oR
  obtain ⟨cP0, fP, zP⟩ := own1 oP
  go_wp2_with fail
  refine (formed_lit r (x := true) _ HF.out).mono ?_
  rintro e w2 ⟨rfl, hb⟩
  replace oQ := oQ.below hb
  replace oR := oR.below hb
  replace oP := oP.below hb
  replace bel := belowTo bel hb (by exact bel.size)
  clear hb cQ0 fQ zQ cR0 cR1 cR2 cR3 cR4 fR zR cP0 fP zP
  obtain ⟨cQ0, fQ, zQ⟩ := own1 oQ
  obtain ⟨cR0, cR1, cR2, cR3, cR4, fR, zR⟩ := own5r oR
  obtain ⟨cP0, fP, zP⟩ := own1 oP
  have SLZ := Lib.hid (SL0.out.below bel)
  go_wp2_with fail
  have pQ0 := fun x : Past w2 => (oQ.past x).cell (i := 0) rfl
  have pR0 := fun x : Past w2 => (oR.past x).cell (i := 0) rfl
  have pR1 := fun x : Past w2 => (oR.past x).cell (i := 1) rfl
  have pR2 := fun x : Past w2 => (oR.past x).cell (i := 2) rfl
  have pR3 := fun x : Past w2 => (oR.past x).cell (i := 3) rfl
  have pR4 := fun x : Past w2 => (oR.past x).cell (i := 4) rfl
  have pP0 := fun x : Past w2 => (oP.past x).cell (i := 0) rfl
  refine wp_region_past (by kernel_rfl) (by kernel_rfl) ?_
  repeat (go_big_quiet_step ((first | (go_at_call 27; exact calls_past (name_any r.o r.n r.k r.v r.a _)) | (go_at_call 26; exact calls_past (find_lit (.slice p rs.length cap) rs r.o r.n F _ (past_sl SLZ.out) HD.out)))))
  refine wpQuiet_nil ?_
  rintro _ ⟨x, rfl⟩
  replace bel : Below w.heap.size w (past w2 x) := bel.trans (x.h.mono bel.size)
  clear pQ0
  clear pR0 pR1 pR2 pR3 pR4
  clear pP0
  clear cQ0 fQ zQ cR0 cR1 cR2 cR3 cR4 fR zR cP0 fP zP
  replace oQ := oQ.past x
  replace oR := oR.past x
  replace oP := oP.past x
  generalize past w2 x = w3 at oQ oR oP bel ⊢
  obtain ⟨cQ0, fQ, zQ⟩ := own1 oQ
  obtain ⟨cR0, cR1, cR2, cR3, cR4, fR, zR⟩ := own5r oR
  obtain ⟨cP0, fP, zP⟩ := own1 oP
  have SL3 := Lib.hid (SL0.out.below bel)
  clear SLZ
  go_wp2_with fail
  have bel8 : Below w3.heap.size w3 (w3.alloc (Obj.cells #[.int .i64 r.o, .int .i64 r.n, .int .i64 r.k, .int .i64 r.v, .int .i64 r.a] 26)).drew := ((Below.refl _ w3).alloc (Nat.le_refl _) _).drew
  have OL := Lib.hid ((SL3.out.below bel8).olds)
  have HN := Lib.hid SL3.out.none_len
  have CN := Lib.hid (cell_alloc_cells w3 #[.int .i64 r.o, .int .i64 r.n, .int .i64 r.k, .int .i64 r.v, .int .i64 r.a] 26)
  obtain ⟨i0, hi, hz, hs0, hb0⟩ := info_parts info_rd
  have i1 : (0:Int) ≤ (rs.length : Int) := by omega
  have i2 : (rs.length : Int) ≤ (cap : Int) := by omega
  have hl17 : rs.length < 16 := by have := vd_len HV.out; have : rs.length ≠ 16 := (by simp at h16; omega); omega
  have OP := Lib.hid (oP.below bel8)
  have ZP := Lib.hid (Nat.lt_of_lt_of_le zP bel8.size)
  have BA := Lib.hid (belowTo bel bel8 bel.size)
  clear bel8
  cases p with
  | none =>
    obtain rfl : rs = [] := HN.out rfl
    go_region_law (refine step_append_grows rfl (.tmp 56) (.tmp 58) 22 rfl 26 i0 _ 5 40 (by kernel_rfl) hi hz hs0 hb0 rfl (by decide) none 0 0 [] (by simp [Act.eval, Act.put]) (by simp) rfl (fun b hb => by cases hb) ⟨w3.heap.size, 0, none⟩ 1 1 r.cells (by simp [Act.eval, Act.put]) rfl (fun j u h => by rw [Go.WideShapes.add_plain, Nat.zero_add]; exact CN.out j u (by simpa [Rd.cells] using h)) (by simp [Rd.cells, Value.oneCell']) (by omega) (by unfold maxLen; omega) (by omega) ?_; intro v' w' hown hgrow; obtain ⟨g, gcap, rfl⟩ := Joins.ownsRow_form hown (by omega); have HO := Lib.hid (own_app (rs := ([] : List Rd)) (r := r) hown); have HB := Lib.hid (belowTo BA.out (below_of_grown hgrow) BA.out.size); have oP' := OP.out.below (below_of_grown hgrow); clear hown hgrow; obtain ⟨cP', fP', zP'⟩ := own1 oP'; clear oP')
    all_goals (
      go_wp2_with fail
      refine bodyPost_ret (v := .tuple #[.agg #[.slice (some ⟨g, 0, none⟩) (0 + 1) gcap], .int .i64 0]) (by simp [results, Try.results11, go_sem, *]) rfl ⟨_, rfl, (slr_own_set (rs := ([] : List Rd) ++ [r]) (by simp) HO.out ZP.out _).1, (slr_own_set (rs := ([] : List Rd) ++ [r]) (by simp) HO.out ZP.out (.bool false)).2, ?_⟩
      exact belowSet HB.out _ _ _ (by omega))
  | some ad =>
    go_region_law (refine step_append_grows rfl (.tmp 56) (.tmp 58) 22 rfl 26 i0 _ 5 40 (by kernel_rfl) hi hz hs0 hb0 rfl (by decide) (some ad) rs.length rs.length (flat rs) (by simp [Act.eval, Act.put]) (by simp) (flat_len rs) OL.out ⟨w3.heap.size, 0, none⟩ 1 1 r.cells (by simp [Act.eval, Act.put]) rfl (fun j u h => by rw [Go.WideShapes.add_plain, Nat.zero_add]; exact CN.out j u (by simpa [Rd.cells] using h)) (by simp [Rd.cells, Value.oneCell']) (by omega) (by unfold maxLen; omega) (by omega) ?_; intro v' w' hown hgrow; obtain ⟨g, gcap, rfl⟩ := Joins.ownsRow_form hown (by omega); have HO := Lib.hid (own_app (rs := rs) (r := r) hown); have HB := Lib.hid (belowTo BA.out (below_of_grown hgrow) BA.out.size); have oP' := OP.out.below (below_of_grown hgrow); clear hown hgrow; obtain ⟨cP', fP', zP'⟩ := own1 oP'; clear oP')
    all_goals (
      go_wp2_with fail
      refine bodyPost_ret (v := .tuple #[.agg #[.slice (some ⟨g, 0, none⟩) (rs.length + 1) gcap], .int .i64 0]) (by simp [results, Try.results11, go_sem, *]) rfl ⟨_, rfl, (slr_own_set (rs := rs ++ [r]) (by simp) HO.out ZP.out _).1, (slr_own_set (rs := rs ++ [r]) (by simp) HO.out ZP.out (.bool false)).2, ?_⟩
      exact belowSet HB.out _ _ _ (by omega))

/-- What Put answers, and the queue behind it. -/
def putE (rs : List Rd) (r : Rd) (me : Int) : Int :=
  if vdB rs = false ∨ fmB r = false ∨ me < 0 ∨ 60 ≤ me then 1 else if 0 ≤ fnd r.o r.n rs then 5 else if rs.length = 16 ∨ (12 ≤ rs.length ∧ r.o = me) then 10 else 0
def putL (rs : List Rd) (r : Rd) (me : Int) : List Rd := if putE rs r me = 0 then rs ++ [r] else []
theorem put_any (v : Value) (rs : List Rd) (r : Rd) (me : Int) (w : World) (sl : SlR w v rs) :
    Calls Try.prog 11 #[.agg #[v], .agg #[.int .i64 r.o, .int .i64 r.n, .int .i64 r.k, .int .i64 r.v, .int .i64 r.a], .int .i64 me] w fun e w' => QPost w (putE rs r me) (putL rs r me) e w' := by
  cases hv : vdB rs with
  | false =>
    have hE : putE rs r me = 1 := if_pos (Or.inl hv)
    rw [putL, hE]; exact put_invalid v rs r me w sl hv
  | true =>
    cases hf : fmB r with
    | false =>
      have hE : putE rs r me = 1 := if_pos (Or.inr (Or.inl hf))
      rw [putL, hE]; exact put_unformed v rs r me w sl hv hf
    | true =>
      by_cases m0 : me < 0
      · have hE : putE rs r me = 1 := if_pos (Or.inr (Or.inr (Or.inl m0)))
        rw [putL, hE]; exact put_neg v rs r me w sl hv hf m0
      · by_cases m1 : 60 ≤ me
        · have hE : putE rs r me = 1 := if_pos (Or.inr (Or.inr (Or.inr m1)))
          rw [putL, hE]; exact put_far v rs r me w sl hv hf (by omega) m1
        · have n1 : ¬ (vdB rs = false ∨ fmB r = false ∨ me < 0 ∨ 60 ≤ me) := by simp [hv, hf]; omega
          by_cases hd : 0 ≤ fnd r.o r.n rs
          · have hE : putE rs r me = 5 := by rw [putE, if_neg n1, if_pos hd]
            rw [putL, hE]; exact put_twice v rs r me w sl hv hf (by omega) (by omega) _ rfl hd
          · by_cases h16 : rs.length = 16
            · have hE : putE rs r me = 10 := by rw [putE, if_neg n1, if_neg hd, if_pos (Or.inl h16)]
              rw [putL, hE]; exact put_full v rs r me w sl hv hf (by omega) (by omega) _ rfl (by omega) (by simp [h16])
            · have g16 : ((rs.length : Int) == 16) = false := beq_eq_false_iff_ne.2 (by omega)
              by_cases h12 : 12 ≤ rs.length
              · by_cases ho : r.o = me
                · have hE : putE rs r me = 10 := by rw [putE, if_neg n1, if_neg hd, if_pos (Or.inr ⟨h12, ho⟩)]
                  rw [putL, hE]; exact put_own v rs r me w sl hv hf (by omega) (by omega) _ rfl (by omega) g16 (by omega) (by simp [ho])
                · have hE : putE rs r me = 0 := by rw [putE, if_neg n1, if_neg hd, if_neg (by omega)]
                  rw [putL, hE]; exact put_ok2 v rs r me w sl hv hf (by omega) (by omega) _ rfl (by omega) g16 (by omega) (by simp [ho])
              · have hE : putE rs r me = 0 := by rw [putE, if_neg n1, if_neg hd, if_neg (by omega)]
                rw [putL, hE]; exact put_ok1 v rs r me w sl hv hf (by omega) (by omega) _ rfl (by omega) g16 (by omega)

end Go.Proofs.Ytlfdbmndikdhdaa

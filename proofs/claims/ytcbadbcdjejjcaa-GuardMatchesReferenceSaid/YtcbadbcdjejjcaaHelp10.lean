/- The helpers of the statements of layer 10: isTrue, sends, example; the fixed examples. -/
import Derived.Test.YtcbadbcdjejjcaaRef10
import Derived.Test.YtcbadbcdjejjcaaPlain10b
import Derived.Test.YtcbadbcdjejjcaaTrue08
namespace Go.Proofs.Ytcbadbcdjejjcaa
open Go.RowKit

theorem rat_lit (o d t A : Int) (w : World) (hv : vldB o d = true) (h5 : -1 ≤ t) (h6 : t ≤ 19000000000000) (hA : atI o d t = A) :
    Calls Try.prog 31 #[.agg #[.int .i64 o, .int .i64 d], .int .i64 t] w fun e w' => e = .returned (.int .i64 A) ∧ Below w.heap.size w w' := by
  subst hA
  obtain ⟨h1, h2, h3, h4⟩ := vld_out hv
  exact rat_any o d t w h1 h2 h3 h4 h5 h6

set_option linter.unusedVariables false in
set_option maxRecDepth 100000 in
set_option maxHeartbeats 4000000 in
theorem isTrue_state_true (sy : Bool) (l h a k src he o d t : Int) (w : World) (hv : vldT sy l h a k src he = false) (hc : vldB o d = true) :
    Calls Try.prog 17 #[.agg #[.bool sy, .int .i64 l, .int .i64 h, .int .i64 a, .int .i64 k, .int .i64 src, .int .i64 he], .agg #[.int .i64 o, .int .i64 d], .int .i64 t] w
      fun e w' => e = .returned (.bool false) ∧ Below w.heap.size w w' := by
  have Hhv := Lib.hid hv
  clear hv
  have Hhc := Lib.hid hc
  clear hc
  go_enter Try.func17, Try.ntmps17
  go_wp2_with fail
  refine (rtvalid_lit sy l h a k src he false _ Hhv.out).mono ?_
  rintro e w1 ⟨rfl, hb⟩
  have oS : Own w1 w.heap.size [.bool sy, .int .i64 l, .int .i64 h, .int .i64 a, .int .i64 k, .int .i64 src, .int .i64 he] 25 := ((own_at _ _ rfl).alloc _).below hb
  have oC : Own w1 (w.heap.size + 1) [.int .i64 o, .int .i64 d] 27 := (own_at _ _ (by simp)).below hb
  have bel := belowTo (((Below.refl w.heap.size w).alloc (by simp) _).alloc (by simp) _) hb (by simp; omega)
  clear hb 
  obtain ⟨cS0, cS1, cS2, cS3, cS4, cS5, cS6, fS, zS⟩ := own7 oS
  obtain ⟨cC0, cC1, fC, zC⟩ := own2 oC
  go_wp2_with fail
  refine (rvalid_lit o d true _ Hhc.out).mono ?_
  rintro e w2 ⟨rfl, hb⟩
  replace oS := oS.below hb
  replace oC := oC.below hb
  replace bel := belowTo bel hb (by exact bel.size)
  clear hb cS0 cS1 cS2 cS3 cS4 cS5 cS6 fS zS cC0 cC1 fC zC
  obtain ⟨cS0, cS1, cS2, cS3, cS4, cS5, cS6, fS, zS⟩ := own7 oS
  obtain ⟨cC0, cC1, fC, zC⟩ := own2 oC
  go_wp2
  go_ret
  exact ⟨rfl, bel⟩

set_option linter.unusedVariables false in
set_option maxRecDepth 100000 in
set_option maxHeartbeats 4000000 in
theorem isTrue_state_false (sy : Bool) (l h a k src he o d t : Int) (w : World) (hv : vldT sy l h a k src he = false) (hc : vldB o d = false) :
    Calls Try.prog 17 #[.agg #[.bool sy, .int .i64 l, .int .i64 h, .int .i64 a, .int .i64 k, .int .i64 src, .int .i64 he], .agg #[.int .i64 o, .int .i64 d], .int .i64 t] w
      fun e w' => e = .returned (.bool false) ∧ Below w.heap.size w w' := by
  have Hhv := Lib.hid hv
  clear hv
  have Hhc := Lib.hid hc
  clear hc
  go_enter Try.func17, Try.ntmps17
  go_wp2_with fail
  refine (rtvalid_lit sy l h a k src he false _ Hhv.out).mono ?_
  rintro e w1 ⟨rfl, hb⟩
  have oS : Own w1 w.heap.size [.bool sy, .int .i64 l, .int .i64 h, .int .i64 a, .int .i64 k, .int .i64 src, .int .i64 he] 25 := ((own_at _ _ rfl).alloc _).below hb
  have oC : Own w1 (w.heap.size + 1) [.int .i64 o, .int .i64 d] 27 := (own_at _ _ (by simp)).below hb
  have bel := belowTo (((Below.refl w.heap.size w).alloc (by simp) _).alloc (by simp) _) hb (by simp; omega)
  clear hb 
  obtain ⟨cS0, cS1, cS2, cS3, cS4, cS5, cS6, fS, zS⟩ := own7 oS
  obtain ⟨cC0, cC1, fC, zC⟩ := own2 oC
  go_wp2_with fail
  refine (rvalid_lit o d false _ Hhc.out).mono ?_
  rintro e w2 ⟨rfl, hb⟩
  replace oS := oS.below hb
  replace oC := oC.below hb
  replace bel := belowTo bel hb (by exact bel.size)
  clear hb cS0 cS1 cS2 cS3 cS4 cS5 cS6 fS zS cC0 cC1 fC zC
  obtain ⟨cS0, cS1, cS2, cS3, cS4, cS5, cS6, fS, zS⟩ := own7 oS
  obtain ⟨cC0, cC1, fC, zC⟩ := own2 oC
  go_wp2
  go_ret
  exact ⟨rfl, bel⟩

set_option linter.unusedVariables false in
set_option maxRecDepth 100000 in
set_option maxHeartbeats 4000000 in
theorem isTrue_clock (sy : Bool) (l h a k src he o d t : Int) (w : World) (hv : vldT sy l h a k src he = true) (hc : vldB o d = false) :
    Calls Try.prog 17 #[.agg #[.bool sy, .int .i64 l, .int .i64 h, .int .i64 a, .int .i64 k, .int .i64 src, .int .i64 he], .agg #[.int .i64 o, .int .i64 d], .int .i64 t] w
      fun e w' => e = .returned (.bool false) ∧ Below w.heap.size w w' := by
  have Hhv := Lib.hid hv
  clear hv
  have Hhc := Lib.hid hc
  clear hc
  go_enter Try.func17, Try.ntmps17
  go_wp2_with fail
  refine (rtvalid_lit sy l h a k src he true _ Hhv.out).mono ?_
  rintro e w1 ⟨rfl, hb⟩
  have oS : Own w1 w.heap.size [.bool sy, .int .i64 l, .int .i64 h, .int .i64 a, .int .i64 k, .int .i64 src, .int .i64 he] 25 := ((own_at _ _ rfl).alloc _).below hb
  have oC : Own w1 (w.heap.size + 1) [.int .i64 o, .int .i64 d] 27 := (own_at _ _ (by simp)).below hb
  have bel := belowTo (((Below.refl w.heap.size w).alloc (by simp) _).alloc (by simp) _) hb (by simp; omega)
  clear hb 
  obtain ⟨cS0, cS1, cS2, cS3, cS4, cS5, cS6, fS, zS⟩ := own7 oS
  obtain ⟨cC0, cC1, fC, zC⟩ := own2 oC
  go_wp2_with fail
  refine (rvalid_lit o d false _ Hhc.out).mono ?_
  rintro e w2 ⟨rfl, hb⟩
  replace oS := oS.below hb
  replace oC := oC.below hb
  replace bel := belowTo bel hb (by exact bel.size)
  clear hb cS0 cS1 cS2 cS3 cS4 cS5 cS6 fS zS cC0 cC1 fC zC
  obtain ⟨cS0, cS1, cS2, cS3, cS4, cS5, cS6, fS, zS⟩ := own7 oS
  obtain ⟨cC0, cC1, fC, zC⟩ := own2 oC
  go_wp2
  go_ret
  exact ⟨rfl, bel⟩

set_option linter.unusedVariables false in
set_option maxRecDepth 100000 in
set_option maxHeartbeats 4000000 in
theorem isTrue_off (l h a k src he o d t : Int) (w : World) (hv : vldT false l h a k src he = true) (hc : vldB o d = true)  :
    Calls Try.prog 17 #[.agg #[.bool false, .int .i64 l, .int .i64 h, .int .i64 a, .int .i64 k, .int .i64 src, .int .i64 he], .agg #[.int .i64 o, .int .i64 d], .int .i64 t] w
      fun e w' => e = .returned (.bool false) ∧ Below w.heap.size w w' := by
  have Hhv := Lib.hid hv
  clear hv
  have Hhc := Lib.hid hc
  clear hc
  go_enter Try.func17, Try.ntmps17
  go_wp2_with fail
  refine (rtvalid_lit false l h a k src he true _ Hhv.out).mono ?_
  rintro e w1 ⟨rfl, hb⟩
  have oS : Own w1 w.heap.size [.bool false, .int .i64 l, .int .i64 h, .int .i64 a, .int .i64 k, .int .i64 src, .int .i64 he] 25 := ((own_at _ _ rfl).alloc _).below hb
  have oC : Own w1 (w.heap.size + 1) [.int .i64 o, .int .i64 d] 27 := (own_at _ _ (by simp)).below hb
  have bel := belowTo (((Below.refl w.heap.size w).alloc (by simp) _).alloc (by simp) _) hb (by simp; omega)
  clear hb 
  obtain ⟨cS0, cS1, cS2, cS3, cS4, cS5, cS6, fS, zS⟩ := own7 oS
  obtain ⟨cC0, cC1, fC, zC⟩ := own2 oC
  go_wp2_with fail
  refine (rvalid_lit o d true _ Hhc.out).mono ?_
  rintro e w2 ⟨rfl, hb⟩
  replace oS := oS.below hb
  replace oC := oC.below hb
  replace bel := belowTo bel hb (by exact bel.size)
  clear hb cS0 cS1 cS2 cS3 cS4 cS5 cS6 fS zS cC0 cC1 fC zC
  obtain ⟨cS0, cS1, cS2, cS3, cS4, cS5, cS6, fS, zS⟩ := own7 oS
  obtain ⟨cC0, cC1, fC, zC⟩ := own2 oC
  go_wp2
  go_ret
  exact ⟨rfl, bel⟩

set_option linter.unusedVariables false in
set_option maxRecDepth 100000 in
set_option maxHeartbeats 4000000 in
theorem isTrue_neg (l h a k src he o d t : Int) (w : World) (hv : vldT true l h a k src he = true) (hc : vldB o d = true) (h1 : t < 0) :
    Calls Try.prog 17 #[.agg #[.bool true, .int .i64 l, .int .i64 h, .int .i64 a, .int .i64 k, .int .i64 src, .int .i64 he], .agg #[.int .i64 o, .int .i64 d], .int .i64 t] w
      fun e w' => e = .returned (.bool false) ∧ Below w.heap.size w w' := by
  have Hhv := Lib.hid hv
  clear hv
  have Hhc := Lib.hid hc
  clear hc
  go_enter Try.func17, Try.ntmps17
  go_wp2_with fail
  refine (rtvalid_lit true l h a k src he true _ Hhv.out).mono ?_
  rintro e w1 ⟨rfl, hb⟩
  have oS : Own w1 w.heap.size [.bool true, .int .i64 l, .int .i64 h, .int .i64 a, .int .i64 k, .int .i64 src, .int .i64 he] 25 := ((own_at _ _ rfl).alloc _).below hb
  have oC : Own w1 (w.heap.size + 1) [.int .i64 o, .int .i64 d] 27 := (own_at _ _ (by simp)).below hb
  have bel := belowTo (((Below.refl w.heap.size w).alloc (by simp) _).alloc (by simp) _) hb (by simp; omega)
  clear hb 
  obtain ⟨cS0, cS1, cS2, cS3, cS4, cS5, cS6, fS, zS⟩ := own7 oS
  obtain ⟨cC0, cC1, fC, zC⟩ := own2 oC
  go_wp2_with fail
  refine (rvalid_lit o d true _ Hhc.out).mono ?_
  rintro e w2 ⟨rfl, hb⟩
  replace oS := oS.below hb
  replace oC := oC.below hb
  replace bel := belowTo bel hb (by exact bel.size)
  clear hb cS0 cS1 cS2 cS3 cS4 cS5 cS6 fS zS cC0 cC1 fC zC
  obtain ⟨cS0, cS1, cS2, cS3, cS4, cS5, cS6, fS, zS⟩ := own7 oS
  obtain ⟨cC0, cC1, fC, zC⟩ := own2 oC
  go_wp2
  go_ret
  exact ⟨rfl, bel⟩

set_option linter.unusedVariables false in
set_option maxRecDepth 100000 in
set_option maxHeartbeats 4000000 in
theorem isTrue_big (l h a k src he o d t : Int) (w : World) (hv : vldT true l h a k src he = true) (hc : vldB o d = true) (h1 : 0 ≤ t) (h2 : 10000000000000 < t) :
    Calls Try.prog 17 #[.agg #[.bool true, .int .i64 l, .int .i64 h, .int .i64 a, .int .i64 k, .int .i64 src, .int .i64 he], .agg #[.int .i64 o, .int .i64 d], .int .i64 t] w
      fun e w' => e = .returned (.bool false) ∧ Below w.heap.size w w' := by
  have Hhv := Lib.hid hv
  clear hv
  have Hhc := Lib.hid hc
  clear hc
  go_enter Try.func17, Try.ntmps17
  go_wp2_with fail
  refine (rtvalid_lit true l h a k src he true _ Hhv.out).mono ?_
  rintro e w1 ⟨rfl, hb⟩
  have oS : Own w1 w.heap.size [.bool true, .int .i64 l, .int .i64 h, .int .i64 a, .int .i64 k, .int .i64 src, .int .i64 he] 25 := ((own_at _ _ rfl).alloc _).below hb
  have oC : Own w1 (w.heap.size + 1) [.int .i64 o, .int .i64 d] 27 := (own_at _ _ (by simp)).below hb
  have bel := belowTo (((Below.refl w.heap.size w).alloc (by simp) _).alloc (by simp) _) hb (by simp; omega)
  clear hb 
  obtain ⟨cS0, cS1, cS2, cS3, cS4, cS5, cS6, fS, zS⟩ := own7 oS
  obtain ⟨cC0, cC1, fC, zC⟩ := own2 oC
  go_wp2_with fail
  refine (rvalid_lit o d true _ Hhc.out).mono ?_
  rintro e w2 ⟨rfl, hb⟩
  replace oS := oS.below hb
  replace oC := oC.below hb
  replace bel := belowTo bel hb (by exact bel.size)
  clear hb cS0 cS1 cS2 cS3 cS4 cS5 cS6 fS zS cC0 cC1 fC zC
  obtain ⟨cS0, cS1, cS2, cS3, cS4, cS5, cS6, fS, zS⟩ := own7 oS
  obtain ⟨cC0, cC1, fC, zC⟩ := own2 oC
  go_wp2
  go_ret
  exact ⟨rfl, bel⟩

set_option linter.unusedVariables false in
set_option maxRecDepth 100000 in
set_option maxHeartbeats 4000000 in
theorem isTrue_root (l h a k src he o d t : Int) (r : Bool) (w : World) (hv : vldT true l h a k src he = true) (hc : vldB o d = true) (h1 : 0 ≤ t) (h2 : t ≤ 10000000000000) (hk : (k == 0) = true) (hr : decide (o = 0 ∧ d = 0) = r) :
    Calls Try.prog 17 #[.agg #[.bool true, .int .i64 l, .int .i64 h, .int .i64 a, .int .i64 k, .int .i64 src, .int .i64 he], .agg #[.int .i64 o, .int .i64 d], .int .i64 t] w
      fun e w' => e = .returned (.bool r) ∧ Below w.heap.size w w' := by
  have Hhv := Lib.hid hv
  clear hv
  have Hhc := Lib.hid hc
  clear hc
  have Hhr := Lib.hid hr
  clear hr
  go_enter Try.func17, Try.ntmps17
  go_wp2_with fail
  refine (rtvalid_lit true l h a k src he true _ Hhv.out).mono ?_
  rintro e w1 ⟨rfl, hb⟩
  have oS : Own w1 w.heap.size [.bool true, .int .i64 l, .int .i64 h, .int .i64 a, .int .i64 k, .int .i64 src, .int .i64 he] 25 := ((own_at _ _ rfl).alloc _).below hb
  have oC : Own w1 (w.heap.size + 1) [.int .i64 o, .int .i64 d] 27 := (own_at _ _ (by simp)).below hb
  have bel := belowTo (((Below.refl w.heap.size w).alloc (by simp) _).alloc (by simp) _) hb (by simp; omega)
  clear hb 
  obtain ⟨cS0, cS1, cS2, cS3, cS4, cS5, cS6, fS, zS⟩ := own7 oS
  obtain ⟨cC0, cC1, fC, zC⟩ := own2 oC
  go_wp2_with fail
  refine (rvalid_lit o d true _ Hhc.out).mono ?_
  rintro e w2 ⟨rfl, hb⟩
  replace oS := oS.below hb
  replace oC := oC.below hb
  replace bel := belowTo bel hb (by exact bel.size)
  clear hb cS0 cS1 cS2 cS3 cS4 cS5 cS6 fS zS cC0 cC1 fC zC
  obtain ⟨cS0, cS1, cS2, cS3, cS4, cS5, cS6, fS, zS⟩ := own7 oS
  obtain ⟨cC0, cC1, fC, zC⟩ := own2 oC
  go_wp2
  all_goals (go_ret; exact ⟨ret_bool (by first | exact Hhr.out | (have := Hhr.out; simp_all)), bel⟩)

set_option linter.unusedVariables false in
set_option maxRecDepth 100000 in
set_option maxHeartbeats 4000000 in
theorem isTrue_span (l h a k src he o d t A : Int) (r : Bool) (w : World) (hv : vldT true l h a k src he = true) (hc : vldB o d = true) (h1 : 0 ≤ t) (h2 : t ≤ 10000000000000) (hk : (k == 0) = false) (ha : atI o d t = A) (b1 : -30000000000000 ≤ A) (b2 : A ≤ 30000000000000) (hr : truB l h a t A = r) :
    Calls Try.prog 17 #[.agg #[.bool true, .int .i64 l, .int .i64 h, .int .i64 a, .int .i64 k, .int .i64 src, .int .i64 he], .agg #[.int .i64 o, .int .i64 d], .int .i64 t] w
      fun e w' => e = .returned (.bool r) ∧ Below w.heap.size w w' := by
  have Hhv := Lib.hid hv
  clear hv
  have Hhc := Lib.hid hc
  clear hc
  have Hha := Lib.hid ha
  clear ha
  have Hhr := Lib.hid hr
  clear hr
  go_enter Try.func17, Try.ntmps17
  go_wp2_with fail
  refine (rtvalid_lit true l h a k src he true _ Hhv.out).mono ?_
  rintro e w1 ⟨rfl, hb⟩
  have oS : Own w1 w.heap.size [.bool true, .int .i64 l, .int .i64 h, .int .i64 a, .int .i64 k, .int .i64 src, .int .i64 he] 25 := ((own_at _ _ rfl).alloc _).below hb
  have oC : Own w1 (w.heap.size + 1) [.int .i64 o, .int .i64 d] 27 := (own_at _ _ (by simp)).below hb
  have bel := belowTo (((Below.refl w.heap.size w).alloc (by simp) _).alloc (by simp) _) hb (by simp; omega)
  clear hb 
  obtain ⟨cS0, cS1, cS2, cS3, cS4, cS5, cS6, fS, zS⟩ := own7 oS
  obtain ⟨cC0, cC1, fC, zC⟩ := own2 oC
  go_wp2_with fail
  refine (rvalid_lit o d true _ Hhc.out).mono ?_
  rintro e w2 ⟨rfl, hb⟩
  replace oS := oS.below hb
  replace oC := oC.below hb
  replace bel := belowTo bel hb (by exact bel.size)
  clear hb cS0 cS1 cS2 cS3 cS4 cS5 cS6 fS zS cC0 cC1 fC zC
  obtain ⟨cS0, cS1, cS2, cS3, cS4, cS5, cS6, fS, zS⟩ := own7 oS
  obtain ⟨cC0, cC1, fC, zC⟩ := own2 oC
  go_wp2_with fail
  have pS0 := fun x : Past w2 => (oS.past x).cell (i := 0) rfl
  have pS1 := fun x : Past w2 => (oS.past x).cell (i := 1) rfl
  have pS2 := fun x : Past w2 => (oS.past x).cell (i := 2) rfl
  have pS3 := fun x : Past w2 => (oS.past x).cell (i := 3) rfl
  have pS4 := fun x : Past w2 => (oS.past x).cell (i := 4) rfl
  have pS5 := fun x : Past w2 => (oS.past x).cell (i := 5) rfl
  have pS6 := fun x : Past w2 => (oS.past x).cell (i := 6) rfl
  have pC0 := fun x : Past w2 => (oC.past x).cell (i := 0) rfl
  have pC1 := fun x : Past w2 => (oC.past x).cell (i := 1) rfl
  refine wp_region_past (by kernel_rfl) (by kernel_rfl) ?_
  repeat (go_big_quiet_step ((first | (go_at_call 31; exact calls_past (rat_lit o d t A _ Hhc.out (by omega) (by omega) Hha.out)) | (go_at_call 30; exact calls_past (true_lit l h a t A r _ (by omega) (by omega) (by omega) (by omega) Hhr.out)))))
  refine wpQuiet_nil ?_
  rintro _ ⟨x, rfl⟩
  have bel2 := bel.trans (x.h.mono bel.size)
  go_wp2
  go_ret
  exact ⟨rfl, bel2⟩

theorem isTrue_lit (sy : Bool) (l h a k src he o d t : Int) (r : Bool) (w : World) (hr : itB sy l h a k src he o d t = r) :
    Calls Try.prog 17 #[.agg #[.bool sy, .int .i64 l, .int .i64 h, .int .i64 a, .int .i64 k, .int .i64 src, .int .i64 he], .agg #[.int .i64 o, .int .i64 d], .int .i64 t] w
      fun e w' => e = .returned (.bool r) ∧ Below w.heap.size w w' := by
  subst hr
  cases hv : vldT sy l h a k src he with
  | false =>
    rw [show itB sy l h a k src he o d t = false from by simp [itB, hv]]
    cases hc : vldB o d with
    | false => exact isTrue_state_false sy l h a k src he o d t w hv hc
    | true => exact isTrue_state_true sy l h a k src he o d t w hv hc
  | true =>
    cases hc : vldB o d with
    | false =>
      rw [show itB sy l h a k src he o d t = false from by simp [itB, hc]]
      exact isTrue_clock sy l h a k src he o d t w hv hc
    | true =>
      cases sy with
      | false =>
        rw [show itB false l h a k src he o d t = false from by simp [itB]]
        exact isTrue_off l h a k src he o d t w hv hc
      | true =>
        by_cases h1 : 0 ≤ t
        · by_cases h2 : t ≤ 10000000000000
          · obtain ⟨v1, v2, v3, v4⟩ := vld_out hc
            have hb := at_bd (o := o) (d := d) v1 v2 v3 v4 (show -1 ≤ t by omega) (by omega)
            cases hk : (k == 0) with
            | true =>
              rw [show itB true l h a k src he o d t = decide (o = 0 ∧ d = 0) from by simp [itB, hv, hc, h1, h2]; simp_all]
              exact isTrue_root l h a k src he o d t _ w hv hc h1 h2 hk rfl
            | false =>
              rw [show itB true l h a k src he o d t = truB l h a t (atI o d t) from by simp [itB, hv, hc, h1, h2, truS, truB]; simp_all]
              exact isTrue_span l h a k src he o d t _ _ w hv hc h1 h2 hk rfl (by omega) (by omega) rfl
          · rw [show itB true l h a k src he o d t = false from by simp [itB]; intros; omega]
            exact isTrue_big l h a k src he o d t w hv hc h1 (by omega)
        · rw [show itB true l h a k src he o d t = false from by simp [itB]; intros; omega]
          exact isTrue_neg l h a k src he o d t w hv hc (by omega)

set_option linter.unusedVariables false in
set_option maxRecDepth 100000 in
set_option maxHeartbeats 4000000 in
theorem sends_yes (sy : Bool) (l h a k src he o d asn N L H : Int) (w : World) (hs : gsN sy l h a k src he o d asn = N ∧ gsE sy l h a k src he o d asn = 0) (hl : lsL sy l h a k src he o d asn = L ∧ lsH sy l h a k src he o d asn = H ∧ gsE sy l h a k src he o d asn = 0) :
    Calls Try.prog 21 #[.agg #[.bool sy, .int .i64 l, .int .i64 h, .int .i64 a, .int .i64 k, .int .i64 src, .int .i64 he], .agg #[.int .i64 o, .int .i64 d], .int .i64 asn, .int .i64 N, .int .i64 L, .int .i64 H] w
      fun e w' => e = .returned (.bool true) ∧ Below w.heap.size w w' := by
  have Hhs := Lib.hid hs
  clear hs
  have Hhl := Lib.hid hl
  clear hl
  go_enter Try.func21, Try.ntmps21
  go_wp2_with fail
  refine (send_lit sy l h a k src he o d asn N 0 _ Hhs.out).mono ?_
  rintro e w1 ⟨rfl, hb⟩
  have oS : Own w1 w.heap.size [.bool sy, .int .i64 l, .int .i64 h, .int .i64 a, .int .i64 k, .int .i64 src, .int .i64 he] 25 := ((own_at _ _ rfl).alloc _).below hb
  have oC : Own w1 (w.heap.size + 1) [.int .i64 o, .int .i64 d] 27 := (own_at _ _ (by simp)).below hb
  have bel := belowTo (((Below.refl w.heap.size w).alloc (by simp) _).alloc (by simp) _) hb (by simp; omega)
  clear hb 
  obtain ⟨cS0, cS1, cS2, cS3, cS4, cS5, cS6, fS, zS⟩ := own7 oS
  obtain ⟨cC0, cC1, fC, zC⟩ := own2 oC
  go_wp2_with fail
  refine (listen_lit sy l h a k src he o d asn L H 0 _ Hhl.out).mono ?_
  rintro e w2 ⟨rfl, hb⟩
  replace oS := oS.below hb
  replace oC := oC.below hb
  replace bel := belowTo bel hb (by exact bel.size)
  clear hb cS0 cS1 cS2 cS3 cS4 cS5 cS6 fS zS cC0 cC1 fC zC
  obtain ⟨cS0, cS1, cS2, cS3, cS4, cS5, cS6, fS, zS⟩ := own7 oS
  obtain ⟨cC0, cC1, fC, zC⟩ := own2 oC
  go_wp2
  all_goals (go_ret; exact ⟨by first | rfl | simp_all, (by repeat (first | exact bel | refine Below.alloc ?_ (by have := bel.size; simp; omega) _))⟩)

set_option maxHeartbeats 1000000 in
theorem example_any (w : World) :
    Calls Try.prog 23 #[] w
      fun e w' => e = .returned (.agg #[.bool true, .int .i64 90, .int .i64 110, .int .i64 9900, .int .i64 1, .int .i64 0, .int .i64 0]) ∧ Below w.heap.size w w' := by
  go_enter Try.func23, Try.ntmps23
  go_wp2
  refine bodyPost_ret (v := .agg #[.bool true, .int .i64 90, .int .i64 110, .int .i64 9900, .int .i64 1, .int .i64 0, .int .i64 0]) (by simp [results, Try.results23, go_sem, *]) rfl ⟨rfl, ?_⟩
  repeat (first | exact Below.refl _ _ | exact belowNew _ _ | refine Below.setCell ?_ (by simp) _ | refine Below.alloc ?_ (by simp) _)

end Go.Proofs.Ytcbadbcdjejjcaa

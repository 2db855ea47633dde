/- GuardNoOverlaps: the walk of the law. It returns true for every input, and leaves old memory alone. -/
import Derived.Test.YtcbadbcdjejjcaaHead10
namespace Go.Proofs.Ytcbadbcdjejjcaa
open Go.RowKit

set_option linter.unusedVariables false in
set_option maxRecDepth 100000 in
set_option maxHeartbeats 4000000 in
theorem guardNoOverlaps_no_false_false (sy : Bool) (l h a k src he o d t : Int) (sy2 : Bool) (l2 h2 a2 k2 src2 he2 o2 d2 u asn : Int) (w : World) (i : itB sy l h a k src he o d t = false) (j : itB sy2 l2 h2 a2 k2 src2 he2 o2 d2 u = false)  :
    Calls Try.prog 6 #[.agg #[.bool sy, .int .i64 l, .int .i64 h, .int .i64 a, .int .i64 k, .int .i64 src, .int .i64 he], .agg #[.int .i64 o, .int .i64 d], .int .i64 t, .agg #[.bool sy2, .int .i64 l2, .int .i64 h2, .int .i64 a2, .int .i64 k2, .int .i64 src2, .int .i64 he2], .agg #[.int .i64 o2, .int .i64 d2], .int .i64 u, .int .i64 asn] w fun e w' => e = .returned (.bool true) ∧ Below w.heap.size w w' := by
  have Hi := Lib.hid i
  clear i
  have Hj := Lib.hid j
  clear j
  go_enter Try.func6, Try.ntmps6
  go_wp2_with fail
  refine (head_any _).mono ?_
  rintro e w1 ⟨rfl, hb⟩
  have oS : Own w1 w.heap.size [.bool sy, .int .i64 l, .int .i64 h, .int .i64 a, .int .i64 k, .int .i64 src, .int .i64 he] 25 := ((((own_at _ _ rfl).alloc _).alloc _).alloc _).below hb
  have oC : Own w1 (w.heap.size + 1) [.int .i64 o, .int .i64 d] 27 := (((own_at _ _ (by simp)).alloc _).alloc _).below hb
  have oR : Own w1 (w.heap.size + 2) [.bool sy2, .int .i64 l2, .int .i64 h2, .int .i64 a2, .int .i64 k2, .int .i64 src2, .int .i64 he2] 25 := ((own_at _ _ (by simp)).alloc _).below hb
  have oD : Own w1 (w.heap.size + 3) [.int .i64 o2, .int .i64 d2] 27 := (own_at _ _ (by simp)).below hb
  have bel := belowTo (((((Below.refl w.heap.size w).alloc (by simp) _).alloc (by simp) _).alloc (by simp; omega) _).alloc (by simp; omega) _) hb (by simp; omega)
  clear hb 
  obtain ⟨cS0, cS1, cS2, cS3, cS4, cS5, cS6, fS, zS⟩ := own7 oS
  obtain ⟨cC0, cC1, fC, zC⟩ := own2 oC
  obtain ⟨cR0, cR1, cR2, cR3, cR4, cR5, cR6, fR, zR⟩ := own7 oR
  obtain ⟨cD0, cD1, fD, zD⟩ := own2 oD
  go_wp2_with fail
  refine (isTrue_lit sy l h a k src he o d t false _ Hi.out).mono ?_
  rintro e w2 ⟨rfl, hb⟩
  replace oS := oS.below hb
  replace oC := oC.below hb
  replace oR := oR.below hb
  replace oD := oD.below hb
  replace bel := belowTo bel hb (by exact bel.size)
  clear hb cS0 cS1 cS2 cS3 cS4 cS5 cS6 fS zS cC0 cC1 fC zC cR0 cR1 cR2 cR3 cR4 cR5 cR6 fR zR cD0 cD1 fD zD
  obtain ⟨cS0, cS1, cS2, cS3, cS4, cS5, cS6, fS, zS⟩ := own7 oS
  obtain ⟨cC0, cC1, fC, zC⟩ := own2 oC
  obtain ⟨cR0, cR1, cR2, cR3, cR4, cR5, cR6, fR, zR⟩ := own7 oR
  obtain ⟨cD0, cD1, fD, zD⟩ := own2 oD
  go_wp2_with fail
  refine (isTrue_lit sy2 l2 h2 a2 k2 src2 he2 o2 d2 u false _ Hj.out).mono ?_
  rintro e w3 ⟨rfl, hb⟩
  replace oS := oS.below hb
  replace oC := oC.below hb
  replace oR := oR.below hb
  replace oD := oD.below hb
  replace bel := belowTo bel hb (by exact bel.size)
  clear hb cS0 cS1 cS2 cS3 cS4 cS5 cS6 fS zS cC0 cC1 fC zC cR0 cR1 cR2 cR3 cR4 cR5 cR6 fR zR cD0 cD1 fD zD
  obtain ⟨cS0, cS1, cS2, cS3, cS4, cS5, cS6, fS, zS⟩ := own7 oS
  obtain ⟨cC0, cC1, fC, zC⟩ := own2 oC
  obtain ⟨cR0, cR1, cR2, cR3, cR4, cR5, cR6, fR, zR⟩ := own7 oR
  obtain ⟨cD0, cD1, fD, zD⟩ := own2 oD
  go_wp2
  all_goals (go_ret; exact ⟨by first | rfl | simp_all, (by repeat (first | exact bel | refine Below.alloc ?_ (by have := bel.size; simp; omega) _))⟩)

set_option linter.unusedVariables false in
set_option maxRecDepth 100000 in
set_option maxHeartbeats 4000000 in
theorem guardNoOverlaps_no_false_true (sy : Bool) (l h a k src he o d t : Int) (sy2 : Bool) (l2 h2 a2 k2 src2 he2 o2 d2 u asn : Int) (w : World) (i : itB sy l h a k src he o d t = false) (j : itB sy2 l2 h2 a2 k2 src2 he2 o2 d2 u = true)  :
    Calls Try.prog 6 #[.agg #[.bool sy, .int .i64 l, .int .i64 h, .int .i64 a, .int .i64 k, .int .i64 src, .int .i64 he], .agg #[.int .i64 o, .int .i64 d], .int .i64 t, .agg #[.bool sy2, .int .i64 l2, .int .i64 h2, .int .i64 a2, .int .i64 k2, .int .i64 src2, .int .i64 he2], .agg #[.int .i64 o2, .int .i64 d2], .int .i64 u, .int .i64 asn] w fun e w' => e = .returned (.bool true) ∧ Below w.heap.size w w' := by
  have Hi := Lib.hid i
  clear i
  have Hj := Lib.hid j
  clear j
  go_enter Try.func6, Try.ntmps6
  go_wp2_with fail
  refine (head_any _).mono ?_
  rintro e w1 ⟨rfl, hb⟩
  have oS : Own w1 w.heap.size [.bool sy, .int .i64 l, .int .i64 h, .int .i64 a, .int .i64 k, .int .i64 src, .int .i64 he] 25 := ((((own_at _ _ rfl).alloc _).alloc _).alloc _).below hb
  have oC : Own w1 (w.heap.size + 1) [.int .i64 o, .int .i64 d] 27 := (((own_at _ _ (by simp)).alloc _).alloc _).below hb
  have oR : Own w1 (w.heap.size + 2) [.bool sy2, .int .i64 l2, .int .i64 h2, .int .i64 a2, .int .i64 k2, .int .i64 src2, .int .i64 he2] 25 := ((own_at _ _ (by simp)).alloc _).below hb
  have oD : Own w1 (w.heap.size + 3) [.int .i64 o2, .int .i64 d2] 27 := (own_at _ _ (by simp)).below hb
  have bel := belowTo (((((Below.refl w.heap.size w).alloc (by simp) _).alloc (by simp) _).alloc (by simp; omega) _).alloc (by simp; omega) _) hb (by simp; omega)
  clear hb 
  obtain ⟨cS0, cS1, cS2, cS3, cS4, cS5, cS6, fS, zS⟩ := own7 oS
  obtain ⟨cC0, cC1, fC, zC⟩ := own2 oC
  obtain ⟨cR0, cR1, cR2, cR3, cR4, cR5, cR6, fR, zR⟩ := own7 oR
  obtain ⟨cD0, cD1, fD, zD⟩ := own2 oD
  go_wp2_with fail
  refine (isTrue_lit sy l h a k src he o d t false _ Hi.out).mono ?_
  rintro e w2 ⟨rfl, hb⟩
  replace oS := oS.below hb
  replace oC := oC.below hb
  replace oR := oR.below hb
  replace oD := oD.below hb
  replace bel := belowTo bel hb (by exact bel.size)
  clear hb cS0 cS1 cS2 cS3 cS4 cS5 cS6 fS zS cC0 cC1 fC zC cR0 cR1 cR2 cR3 cR4 cR5 cR6 fR zR cD0 cD1 fD zD
  obtain ⟨cS0, cS1, cS2, cS3, cS4, cS5, cS6, fS, zS⟩ := own7 oS
  obtain ⟨cC0, cC1, fC, zC⟩ := own2 oC
  obtain ⟨cR0, cR1, cR2, cR3, cR4, cR5, cR6, fR, zR⟩ := own7 oR
  obtain ⟨cD0, cD1, fD, zD⟩ := own2 oD
  go_wp2_with fail
  refine (isTrue_lit sy2 l2 h2 a2 k2 src2 he2 o2 d2 u true _ Hj.out).mono ?_
  rintro e w3 ⟨rfl, hb⟩
  replace oS := oS.below hb
  replace oC := oC.below hb
  replace oR := oR.below hb
  replace oD := oD.below hb
  replace bel := belowTo bel hb (by exact bel.size)
  clear hb cS0 cS1 cS2 cS3 cS4 cS5 cS6 fS zS cC0 cC1 fC zC cR0 cR1 cR2 cR3 cR4 cR5 cR6 fR zR cD0 cD1 fD zD
  obtain ⟨cS0, cS1, cS2, cS3, cS4, cS5, cS6, fS, zS⟩ := own7 oS
  obtain ⟨cC0, cC1, fC, zC⟩ := own2 oC
  obtain ⟨cR0, cR1, cR2, cR3, cR4, cR5, cR6, fR, zR⟩ := own7 oR
  obtain ⟨cD0, cD1, fD, zD⟩ := own2 oD
  go_wp2
  all_goals (go_ret; exact ⟨by first | rfl | simp_all, (by repeat (first | exact bel | refine Below.alloc ?_ (by have := bel.size; simp; omega) _))⟩)

set_option linter.unusedVariables false in
set_option maxRecDepth 100000 in
set_option maxHeartbeats 4000000 in
theorem guardNoOverlaps_no_true_false (sy : Bool) (l h a k src he o d t : Int) (sy2 : Bool) (l2 h2 a2 k2 src2 he2 o2 d2 u asn : Int) (w : World) (i : itB sy l h a k src he o d t = true) (j : itB sy2 l2 h2 a2 k2 src2 he2 o2 d2 u = false)  :
    Calls Try.prog 6 #[.agg #[.bool sy, .int .i64 l, .int .i64 h, .int .i64 a, .int .i64 k, .int .i64 src, .int .i64 he], .agg #[.int .i64 o, .int .i64 d], .int .i64 t, .agg #[.bool sy2, .int .i64 l2, .int .i64 h2, .int .i64 a2, .int .i64 k2, .int .i64 src2, .int .i64 he2], .agg #[.int .i64 o2, .int .i64 d2], .int .i64 u, .int .i64 asn] w fun e w' => e = .returned (.bool true) ∧ Below w.heap.size w w' := by
  have Hi := Lib.hid i
  clear i
  have Hj := Lib.hid j
  clear j
  go_enter Try.func6, Try.ntmps6
  go_wp2_with fail
  refine (head_any _).mono ?_
  rintro e w1 ⟨rfl, hb⟩
  have oS : Own w1 w.heap.size [.bool sy, .int .i64 l, .int .i64 h, .int .i64 a, .int .i64 k, .int .i64 src, .int .i64 he] 25 := ((((own_at _ _ rfl).alloc _).alloc _).alloc _).below hb
  have oC : Own w1 (w.heap.size + 1) [.int .i64 o, .int .i64 d] 27 := (((own_at _ _ (by simp)).alloc _).alloc _).below hb
  have oR : Own w1 (w.heap.size + 2) [.bool sy2, .int .i64 l2, .int .i64 h2, .int .i64 a2, .int .i64 k2, .int .i64 src2, .int .i64 he2] 25 := ((own_at _ _ (by simp)).alloc _).below hb
  have oD : Own w1 (w.heap.size + 3) [.int .i64 o2, .int .i64 d2] 27 := (own_at _ _ (by simp)).below hb
  have bel := belowTo (((((Below.refl w.heap.size w).alloc (by simp) _).alloc (by simp) _).alloc (by simp; omega) _).alloc (by simp; omega) _) hb (by simp; omega)
  clear hb 
  obtain ⟨cS0, cS1, cS2, cS3, cS4, cS5, cS6, fS, zS⟩ := own7 oS
  obtain ⟨cC0, cC1, fC, zC⟩ := own2 oC
  obtain ⟨cR0, cR1, cR2, cR3, cR4, cR5, cR6, fR, zR⟩ := own7 oR
  obtain ⟨cD0, cD1, fD, zD⟩ := own2 oD
  go_wp2_with fail
  refine (isTrue_lit sy l h a k src he o d t true _ Hi.out).mono ?_
  rintro e w2 ⟨rfl, hb⟩
  replace oS := oS.below hb
  replace oC := oC.below hb
  replace oR := oR.below hb
  replace oD := oD.below hb
  replace bel := belowTo bel hb (by exact bel.size)
  clear hb cS0 cS1 cS2 cS3 cS4 cS5 cS6 fS zS cC0 cC1 fC zC cR0 cR1 cR2 cR3 cR4 cR5 cR6 fR zR cD0 cD1 fD zD
  obtain ⟨cS0, cS1, cS2, cS3, cS4, cS5, cS6, fS, zS⟩ := own7 oS
  obtain ⟨cC0, cC1, fC, zC⟩ := own2 oC
  obtain ⟨cR0, cR1, cR2, cR3, cR4, cR5, cR6, fR, zR⟩ := own7 oR
  obtain ⟨cD0, cD1, fD, zD⟩ := own2 oD
  go_wp2_with fail
  refine (isTrue_lit sy2 l2 h2 a2 k2 src2 he2 o2 d2 u false _ Hj.out).mono ?_
  rintro e w3 ⟨rfl, hb⟩
  replace oS := oS.below hb
  replace oC := oC.below hb
  replace oR := oR.below hb
  replace oD := oD.below hb
  replace bel := belowTo bel hb (by exact bel.size)
  clear hb cS0 cS1 cS2 cS3 cS4 cS5 cS6 fS zS cC0 cC1 fC zC cR0 cR1 cR2 cR3 cR4 cR5 cR6 fR zR cD0 cD1 fD zD
  obtain ⟨cS0, cS1, cS2, cS3, cS4, cS5, cS6, fS, zS⟩ := own7 oS
  obtain ⟨cC0, cC1, fC, zC⟩ := own2 oC
  obtain ⟨cR0, cR1, cR2, cR3, cR4, cR5, cR6, fR, zR⟩ := own7 oR
  obtain ⟨cD0, cD1, fD, zD⟩ := own2 oD
  go_wp2
  all_goals (go_ret; exact ⟨by first | rfl | simp_all, (by repeat (first | exact bel | refine Below.alloc ?_ (by have := bel.size; simp; omega) _))⟩)

set_option linter.unusedVariables false in
set_option maxRecDepth 100000 in
set_option maxHeartbeats 4000000 in
theorem guardNoOverlaps_neg (sy : Bool) (l h a k src he o d t : Int) (sy2 : Bool) (l2 h2 a2 k2 src2 he2 o2 d2 u asn : Int) (w : World) (i : itB sy l h a k src he o d t = true) (j : itB sy2 l2 h2 a2 k2 src2 he2 o2 d2 u = true) (q1 : asn < 0) :
    Calls Try.prog 6 #[.agg #[.bool sy, .int .i64 l, .int .i64 h, .int .i64 a, .int .i64 k, .int .i64 src, .int .i64 he], .agg #[.int .i64 o, .int .i64 d], .int .i64 t, .agg #[.bool sy2, .int .i64 l2, .int .i64 h2, .int .i64 a2, .int .i64 k2, .int .i64 src2, .int .i64 he2], .agg #[.int .i64 o2, .int .i64 d2], .int .i64 u, .int .i64 asn] w fun e w' => e = .returned (.bool true) ∧ Below w.heap.size w w' := by
  have Hi := Lib.hid i
  clear i
  have Hj := Lib.hid j
  clear j
  go_enter Try.func6, Try.ntmps6
  go_wp2_with fail
  refine (head_any _).mono ?_
  rintro e w1 ⟨rfl, hb⟩
  have oS : Own w1 w.heap.size [.bool sy, .int .i64 l, .int .i64 h, .int .i64 a, .int .i64 k, .int .i64 src, .int .i64 he] 25 := ((((own_at _ _ rfl).alloc _).alloc _).alloc _).below hb
  have oC : Own w1 (w.heap.size + 1) [.int .i64 o, .int .i64 d] 27 := (((own_at _ _ (by simp)).alloc _).alloc _).below hb
  have oR : Own w1 (w.heap.size + 2) [.bool sy2, .int .i64 l2, .int .i64 h2, .int .i64 a2, .int .i64 k2, .int .i64 src2, .int .i64 he2] 25 := ((own_at _ _ (by simp)).alloc _).below hb
  have oD : Own w1 (w.heap.size + 3) [.int .i64 o2, .int .i64 d2] 27 := (own_at _ _ (by simp)).below hb
  have bel := belowTo (((((Below.refl w.heap.size w).alloc (by simp) _).alloc (by simp) _).alloc (by simp; omega) _).alloc (by simp; omega) _) hb (by simp; omega)
  clear hb 
  obtain ⟨cS0, cS1, cS2, cS3, cS4, cS5, cS6, fS, zS⟩ := own7 oS
  obtain ⟨cC0, cC1, fC, zC⟩ := own2 oC
  obtain ⟨cR0, cR1, cR2, cR3, cR4, cR5, cR6, fR, zR⟩ := own7 oR
  obtain ⟨cD0, cD1, fD, zD⟩ := own2 oD
  go_wp2_with fail
  refine (isTrue_lit sy l h a k src he o d t true _ Hi.out).mono ?_
  rintro e w2 ⟨rfl, hb⟩
  replace oS := oS.below hb
  replace oC := oC.below hb
  replace oR := oR.below hb
  replace oD := oD.below hb
  replace bel := belowTo bel hb (by exact bel.size)
  clear hb cS0 cS1 cS2 cS3 cS4 cS5 cS6 fS zS cC0 cC1 fC zC cR0 cR1 cR2 cR3 cR4 cR5 cR6 fR zR cD0 cD1 fD zD
  obtain ⟨cS0, cS1, cS2, cS3, cS4, cS5, cS6, fS, zS⟩ := own7 oS
  obtain ⟨cC0, cC1, fC, zC⟩ := own2 oC
  obtain ⟨cR0, cR1, cR2, cR3, cR4, cR5, cR6, fR, zR⟩ := own7 oR
  obtain ⟨cD0, cD1, fD, zD⟩ := own2 oD
  go_wp2_with fail
  refine (isTrue_lit sy2 l2 h2 a2 k2 src2 he2 o2 d2 u true _ Hj.out).mono ?_
  rintro e w3 ⟨rfl, hb⟩
  replace oS := oS.below hb
  replace oC := oC.below hb
  replace oR := oR.below hb
  replace oD := oD.below hb
  replace bel := belowTo bel hb (by exact bel.size)
  clear hb cS0 cS1 cS2 cS3 cS4 cS5 cS6 fS zS cC0 cC1 fC zC cR0 cR1 cR2 cR3 cR4 cR5 cR6 fR zR cD0 cD1 fD zD
  obtain ⟨cS0, cS1, cS2, cS3, cS4, cS5, cS6, fS, zS⟩ := own7 oS
  obtain ⟨cC0, cC1, fC, zC⟩ := own2 oC
  obtain ⟨cR0, cR1, cR2, cR3, cR4, cR5, cR6, fR, zR⟩ := own7 oR
  obtain ⟨cD0, cD1, fD, zD⟩ := own2 oD
  go_wp2
  all_goals (go_ret; exact ⟨by first | rfl | simp_all, (by repeat (first | exact bel | refine Below.alloc ?_ (by have := bel.size; simp; omega) _))⟩)

set_option linter.unusedVariables false in
set_option maxRecDepth 100000 in
set_option maxHeartbeats 4000000 in
theorem guardNoOverlaps_big (sy : Bool) (l h a k src he o d t : Int) (sy2 : Bool) (l2 h2 a2 k2 src2 he2 o2 d2 u asn : Int) (w : World) (i : itB sy l h a k src he o d t = true) (j : itB sy2 l2 h2 a2 k2 src2 he2 o2 d2 u = true) (q1 : 0 ≤ asn) (q2 : 999999999 ≤ asn) :
    Calls Try.prog 6 #[.agg #[.bool sy, .int .i64 l, .int .i64 h, .int .i64 a, .int .i64 k, .int .i64 src, .int .i64 he], .agg #[.int .i64 o, .int .i64 d], .int .i64 t, .agg #[.bool sy2, .int .i64 l2, .int .i64 h2, .int .i64 a2, .int .i64 k2, .int .i64 src2, .int .i64 he2], .agg #[.int .i64 o2, .int .i64 d2], .int .i64 u, .int .i64 asn] w fun e w' => e = .returned (.bool true) ∧ Below w.heap.size w w' := by
  have Hi := Lib.hid i
  clear i
  have Hj := Lib.hid j
  clear j
  go_enter Try.func6, Try.ntmps6
  go_wp2_with fail
  refine (head_any _).mono ?_
  rintro e w1 ⟨rfl, hb⟩
  have oS : Own w1 w.heap.size [.bool sy, .int .i64 l, .int .i64 h, .int .i64 a, .int .i64 k, .int .i64 src, .int .i64 he] 25 := ((((own_at _ _ rfl).alloc _).alloc _).alloc _).below hb
  have oC : Own w1 (w.heap.size + 1) [.int .i64 o, .int .i64 d] 27 := (((own_at _ _ (by simp)).alloc _).alloc _).below hb
  have oR : Own w1 (w.heap.size + 2) [.bool sy2, .int .i64 l2, .int .i64 h2, .int .i64 a2, .int .i64 k2, .int .i64 src2, .int .i64 he2] 25 := ((own_at _ _ (by simp)).alloc _).below hb
  have oD : Own w1 (w.heap.size + 3) [.int .i64 o2, .int .i64 d2] 27 := (own_at _ _ (by simp)).below hb
  have bel := belowTo (((((Below.refl w.heap.size w).alloc (by simp) _).alloc (by simp) _).alloc (by simp; omega) _).alloc (by simp; omega) _) hb (by simp; omega)
  clear hb 
  obtain ⟨cS0, cS1, cS2, cS3, cS4, cS5, cS6, fS, zS⟩ := own7 oS
  obtain ⟨cC0, cC1, fC, zC⟩ := own2 oC
  obtain ⟨cR0, cR1, cR2, cR3, cR4, cR5, cR6, fR, zR⟩ := own7 oR
  obtain ⟨cD0, cD1, fD, zD⟩ := own2 oD
  go_wp2_with fail
  refine (isTrue_lit sy l h a k src he o d t true _ Hi.out).mono ?_
  rintro e w2 ⟨rfl, hb⟩
  replace oS := oS.below hb
  replace oC := oC.below hb
  replace oR := oR.below hb
  replace oD := oD.below hb
  replace bel := belowTo bel hb (by exact bel.size)
  clear hb cS0 cS1 cS2 cS3 cS4 cS5 cS6 fS zS cC0 cC1 fC zC cR0 cR1 cR2 cR3 cR4 cR5 cR6 fR zR cD0 cD1 fD zD
  obtain ⟨cS0, cS1, cS2, cS3, cS4, cS5, cS6, fS, zS⟩ := own7 oS
  obtain ⟨cC0, cC1, fC, zC⟩ := own2 oC
  obtain ⟨cR0, cR1, cR2, cR3, cR4, cR5, cR6, fR, zR⟩ := own7 oR
  obtain ⟨cD0, cD1, fD, zD⟩ := own2 oD
  go_wp2_with fail
  refine (isTrue_lit sy2 l2 h2 a2 k2 src2 he2 o2 d2 u true _ Hj.out).mono ?_
  rintro e w3 ⟨rfl, hb⟩
  replace oS := oS.below hb
  replace oC := oC.below hb
  replace oR := oR.below hb
  replace oD := oD.below hb
  replace bel := belowTo bel hb (by exact bel.size)
  clear hb cS0 cS1 cS2 cS3 cS4 cS5 cS6 fS zS cC0 cC1 fC zC cR0 cR1 cR2 cR3 cR4 cR5 cR6 fR zR cD0 cD1 fD zD
  obtain ⟨cS0, cS1, cS2, cS3, cS4, cS5, cS6, fS, zS⟩ := own7 oS
  obtain ⟨cC0, cC1, fC, zC⟩ := own2 oC
  obtain ⟨cR0, cR1, cR2, cR3, cR4, cR5, cR6, fR, zR⟩ := own7 oR
  obtain ⟨cD0, cD1, fD, zD⟩ := own2 oD
  go_wp2
  all_goals (go_ret; exact ⟨by first | rfl | simp_all, (by repeat (first | exact bel | refine Below.alloc ?_ (by have := bel.size; simp; omega) _))⟩)

set_option linter.unusedVariables false in
set_option maxRecDepth 100000 in
set_option maxHeartbeats 4000000 in
theorem guardNoOverlaps_err1 (sy : Bool) (l h a k src he o d t : Int) (sy2 : Bool) (l2 h2 a2 k2 src2 he2 o2 d2 u asn N E M F : Int) (w : World) (i : itB sy l h a k src he o d t = true) (j : itB sy2 l2 h2 a2 k2 src2 he2 o2 d2 u = true) (q1 : 0 ≤ asn) (q2 : asn < 999999999) (s : gsN sy l h a k src he o d asn = N ∧ gsE sy l h a k src he o d asn = E) (s2 : gsN sy2 l2 h2 a2 k2 src2 he2 o2 d2 (asn + 1) = M ∧ gsE sy2 l2 h2 a2 k2 src2 he2 o2 d2 (asn + 1) = F) (Eb : (E == 0) = false) (En : (E != 0) = true)  :
    Calls Try.prog 6 #[.agg #[.bool sy, .int .i64 l, .int .i64 h, .int .i64 a, .int .i64 k, .int .i64 src, .int .i64 he], .agg #[.int .i64 o, .int .i64 d], .int .i64 t, .agg #[.bool sy2, .int .i64 l2, .int .i64 h2, .int .i64 a2, .int .i64 k2, .int .i64 src2, .int .i64 he2], .agg #[.int .i64 o2, .int .i64 d2], .int .i64 u, .int .i64 asn] w fun e w' => e = .returned (.bool true) ∧ Below w.heap.size w w' := by
  have Hi := Lib.hid i
  clear i
  have Hj := Lib.hid j
  clear j
  have Hs := Lib.hid s
  clear s
  have Hs2 := Lib.hid s2
  clear s2
  go_enter Try.func6, Try.ntmps6
  go_wp2_with fail
  refine (head_any _).mono ?_
  rintro e w1 ⟨rfl, hb⟩
  have oS : Own w1 w.heap.size [.bool sy, .int .i64 l, .int .i64 h, .int .i64 a, .int .i64 k, .int .i64 src, .int .i64 he] 25 := ((((own_at _ _ rfl).alloc _).alloc _).alloc _).below hb
  have oC : Own w1 (w.heap.size + 1) [.int .i64 o, .int .i64 d] 27 := (((own_at _ _ (by simp)).alloc _).alloc _).below hb
  have oR : Own w1 (w.heap.size + 2) [.bool sy2, .int .i64 l2, .int .i64 h2, .int .i64 a2, .int .i64 k2, .int .i64 src2, .int .i64 he2] 25 := ((own_at _ _ (by simp)).alloc _).below hb
  have oD : Own w1 (w.heap.size + 3) [.int .i64 o2, .int .i64 d2] 27 := (own_at _ _ (by simp)).below hb
  have bel := belowTo (((((Below.refl w.heap.size w).alloc (by simp) _).alloc (by simp) _).alloc (by simp; omega) _).alloc (by simp; omega) _) hb (by simp; omega)
  clear hb 
  obtain ⟨cS0, cS1, cS2, cS3, cS4, cS5, cS6, fS, zS⟩ := own7 oS
  obtain ⟨cC0, cC1, fC, zC⟩ := own2 oC
  obtain ⟨cR0, cR1, cR2, cR3, cR4, cR5, cR6, fR, zR⟩ := own7 oR
  obtain ⟨cD0, cD1, fD, zD⟩ := own2 oD
  go_wp2_with fail
  refine (isTrue_lit sy l h a k src he o d t true _ Hi.out).mono ?_
  rintro e w2 ⟨rfl, hb⟩
  replace oS := oS.below hb
  replace oC := oC.below hb
  replace oR := oR.below hb
  replace oD := oD.below hb
  replace bel := belowTo bel hb (by exact bel.size)
  clear hb cS0 cS1 cS2 cS3 cS4 cS5 cS6 fS zS cC0 cC1 fC zC cR0 cR1 cR2 cR3 cR4 cR5 cR6 fR zR cD0 cD1 fD zD
  obtain ⟨cS0, cS1, cS2, cS3, cS4, cS5, cS6, fS, zS⟩ := own7 oS
  obtain ⟨cC0, cC1, fC, zC⟩ := own2 oC
  obtain ⟨cR0, cR1, cR2, cR3, cR4, cR5, cR6, fR, zR⟩ := own7 oR
  obtain ⟨cD0, cD1, fD, zD⟩ := own2 oD
  go_wp2_with fail
  refine (isTrue_lit sy2 l2 h2 a2 k2 src2 he2 o2 d2 u true _ Hj.out).mono ?_
  rintro e w3 ⟨rfl, hb⟩
  replace oS := oS.below hb
  replace oC := oC.below hb
  replace oR := oR.below hb
  replace oD := oD.below hb
  replace bel := belowTo bel hb (by exact bel.size)
  clear hb cS0 cS1 cS2 cS3 cS4 cS5 cS6 fS zS cC0 cC1 fC zC cR0 cR1 cR2 cR3 cR4 cR5 cR6 fR zR cD0 cD1 fD zD
  obtain ⟨cS0, cS1, cS2, cS3, cS4, cS5, cS6, fS, zS⟩ := own7 oS
  obtain ⟨cC0, cC1, fC, zC⟩ := own2 oC
  obtain ⟨cR0, cR1, cR2, cR3, cR4, cR5, cR6, fR, zR⟩ := own7 oR
  obtain ⟨cD0, cD1, fD, zD⟩ := own2 oD
  go_wp2_with fail
  refine (send_lit sy l h a k src he o d asn N E _ Hs.out).mono ?_
  rintro e w4 ⟨rfl, hb⟩
  replace oS := oS.below hb
  replace oC := oC.below hb
  replace oR := oR.below hb
  replace oD := oD.below hb
  replace bel := belowTo bel hb (by exact bel.size)
  clear hb cS0 cS1 cS2 cS3 cS4 cS5 cS6 fS zS cC0 cC1 fC zC cR0 cR1 cR2 cR3 cR4 cR5 cR6 fR zR cD0 cD1 fD zD
  obtain ⟨cS0, cS1, cS2, cS3, cS4, cS5, cS6, fS, zS⟩ := own7 oS
  obtain ⟨cC0, cC1, fC, zC⟩ := own2 oC
  obtain ⟨cR0, cR1, cR2, cR3, cR4, cR5, cR6, fR, zR⟩ := own7 oR
  obtain ⟨cD0, cD1, fD, zD⟩ := own2 oD
  go_wp2_with fail
  refine (send_lit sy2 l2 h2 a2 k2 src2 he2 o2 d2 (asn + 1) M F _ Hs2.out).mono ?_
  rintro e w5 ⟨rfl, hb⟩
  replace oS := oS.below hb
  replace oC := oC.below hb
  replace oR := oR.below hb
  replace oD := oD.below hb
  replace bel := belowTo bel hb (by exact bel.size)
  clear hb cS0 cS1 cS2 cS3 cS4 cS5 cS6 fS zS cC0 cC1 fC zC cR0 cR1 cR2 cR3 cR4 cR5 cR6 fR zR cD0 cD1 fD zD
  obtain ⟨cS0, cS1, cS2, cS3, cS4, cS5, cS6, fS, zS⟩ := own7 oS
  obtain ⟨cC0, cC1, fC, zC⟩ := own2 oC
  obtain ⟨cR0, cR1, cR2, cR3, cR4, cR5, cR6, fR, zR⟩ := own7 oR
  obtain ⟨cD0, cD1, fD, zD⟩ := own2 oD
  go_wp2
  all_goals (go_ret; exact ⟨by first | rfl | simp_all, (by repeat (first | exact bel | refine Below.alloc ?_ (by have := bel.size; simp; omega) _))⟩)

set_option linter.unusedVariables false in
set_option maxRecDepth 100000 in
set_option maxHeartbeats 4000000 in
theorem guardNoOverlaps_err2 (sy : Bool) (l h a k src he o d t : Int) (sy2 : Bool) (l2 h2 a2 k2 src2 he2 o2 d2 u asn N M F : Int) (w : World) (i : itB sy l h a k src he o d t = true) (j : itB sy2 l2 h2 a2 k2 src2 he2 o2 d2 u = true) (q1 : 0 ≤ asn) (q2 : asn < 999999999) (s : gsN sy l h a k src he o d asn = N ∧ gsE sy l h a k src he o d asn = 0) (s2 : gsN sy2 l2 h2 a2 k2 src2 he2 o2 d2 (asn + 1) = M ∧ gsE sy2 l2 h2 a2 k2 src2 he2 o2 d2 (asn + 1) = F) (Fb : (F == 0) = false) (Fn : (F != 0) = true)  :
    Calls Try.prog 6 #[.agg #[.bool sy, .int .i64 l, .int .i64 h, .int .i64 a, .int .i64 k, .int .i64 src, .int .i64 he], .agg #[.int .i64 o, .int .i64 d], .int .i64 t, .agg #[.bool sy2, .int .i64 l2, .int .i64 h2, .int .i64 a2, .int .i64 k2, .int .i64 src2, .int .i64 he2], .agg #[.int .i64 o2, .int .i64 d2], .int .i64 u, .int .i64 asn] w fun e w' => e = .returned (.bool true) ∧ Below w.heap.size w w' := by
  have Hi := Lib.hid i
  clear i
  have Hj := Lib.hid j
  clear j
  have Hs := Lib.hid s
  clear s
  have Hs2 := Lib.hid s2
  clear s2
  go_enter Try.func6, Try.ntmps6
  go_wp2_with fail
  refine (head_any _).mono ?_
  rintro e w1 ⟨rfl, hb⟩
  have oS : Own w1 w.heap.size [.bool sy, .int .i64 l, .int .i64 h, .int .i64 a, .int .i64 k, .int .i64 src, .int .i64 he] 25 := ((((own_at _ _ rfl).alloc _).alloc _).alloc _).below hb
  have oC : Own w1 (w.heap.size + 1) [.int .i64 o, .int .i64 d] 27 := (((own_at _ _ (by simp)).alloc _).alloc _).below hb
  have oR : Own w1 (w.heap.size + 2) [.bool sy2, .int .i64 l2, .int .i64 h2, .int .i64 a2, .int .i64 k2, .int .i64 src2, .int .i64 he2] 25 := ((own_at _ _ (by simp)).alloc _).below hb
  have oD : Own w1 (w.heap.size + 3) [.int .i64 o2, .int .i64 d2] 27 := (own_at _ _ (by simp)).below hb
  have bel := belowTo (((((Below.refl w.heap.size w).alloc (by simp) _).alloc (by simp) _).alloc (by simp; omega) _).alloc (by simp; omega) _) hb (by simp; omega)
  clear hb 
  obtain ⟨cS0, cS1, cS2, cS3, cS4, cS5, cS6, fS, zS⟩ := own7 oS
  obtain ⟨cC0, cC1, fC, zC⟩ := own2 oC
  obtain ⟨cR0, cR1, cR2, cR3, cR4, cR5, cR6, fR, zR⟩ := own7 oR
  obtain ⟨cD0, cD1, fD, zD⟩ := own2 oD
  go_wp2_with fail
  refine (isTrue_lit sy l h a k src he o d t true _ Hi.out).mono ?_
  rintro e w2 ⟨rfl, hb⟩
  replace oS := oS.below hb
  replace oC := oC.below hb
  replace oR := oR.below hb
  replace oD := oD.below hb
  replace bel := belowTo bel hb (by exact bel.size)
  clear hb cS0 cS1 cS2 cS3 cS4 cS5 cS6 fS zS cC0 cC1 fC zC cR0 cR1 cR2 cR3 cR4 cR5 cR6 fR zR cD0 cD1 fD zD
  obtain ⟨cS0, cS1, cS2, cS3, cS4, cS5, cS6, fS, zS⟩ := own7 oS
  obtain ⟨cC0, cC1, fC, zC⟩ := own2 oC
  obtain ⟨cR0, cR1, cR2, cR3, cR4, cR5, cR6, fR, zR⟩ := own7 oR
  obtain ⟨cD0, cD1, fD, zD⟩ := own2 oD
  go_wp2_with fail
  refine (isTrue_lit sy2 l2 h2 a2 k2 src2 he2 o2 d2 u true _ Hj.out).mono ?_
  rintro e w3 ⟨rfl, hb⟩
  replace oS := oS.below hb
  replace oC := oC.below hb
  replace oR := oR.below hb
  replace oD := oD.below hb
  replace bel := belowTo bel hb (by exact bel.size)
  clear hb cS0 cS1 cS2 cS3 cS4 cS5 cS6 fS zS cC0 cC1 fC zC cR0 cR1 cR2 cR3 cR4 cR5 cR6 fR zR cD0 cD1 fD zD
  obtain ⟨cS0, cS1, cS2, cS3, cS4, cS5, cS6, fS, zS⟩ := own7 oS
  obtain ⟨cC0, cC1, fC, zC⟩ := own2 oC
  obtain ⟨cR0, cR1, cR2, cR3, cR4, cR5, cR6, fR, zR⟩ := own7 oR
  obtain ⟨cD0, cD1, fD, zD⟩ := own2 oD
  go_wp2_with fail
  refine (send_lit sy l h a k src he o d asn N 0 _ Hs.out).mono ?_
  rintro e w4 ⟨rfl, hb⟩
  replace oS := oS.below hb
  replace oC := oC.below hb
  replace oR := oR.below hb
  replace oD := oD.below hb
  replace bel := belowTo bel hb (by exact bel.size)
  clear hb cS0 cS1 cS2 cS3 cS4 cS5 cS6 fS zS cC0 cC1 fC zC cR0 cR1 cR2 cR3 cR4 cR5 cR6 fR zR cD0 cD1 fD zD
  obtain ⟨cS0, cS1, cS2, cS3, cS4, cS5, cS6, fS, zS⟩ := own7 oS
  obtain ⟨cC0, cC1, fC, zC⟩ := own2 oC
  obtain ⟨cR0, cR1, cR2, cR3, cR4, cR5, cR6, fR, zR⟩ := own7 oR
  obtain ⟨cD0, cD1, fD, zD⟩ := own2 oD
  go_wp2_with fail
  refine (send_lit sy2 l2 h2 a2 k2 src2 he2 o2 d2 (asn + 1) M F _ Hs2.out).mono ?_
  rintro e w5 ⟨rfl, hb⟩
  replace oS := oS.below hb
  replace oC := oC.below hb
  replace oR := oR.below hb
  replace oD := oD.below hb
  replace bel := belowTo bel hb (by exact bel.size)
  clear hb cS0 cS1 cS2 cS3 cS4 cS5 cS6 fS zS cC0 cC1 fC zC cR0 cR1 cR2 cR3 cR4 cR5 cR6 fR zR cD0 cD1 fD zD
  obtain ⟨cS0, cS1, cS2, cS3, cS4, cS5, cS6, fS, zS⟩ := own7 oS
  obtain ⟨cC0, cC1, fC, zC⟩ := own2 oC
  obtain ⟨cR0, cR1, cR2, cR3, cR4, cR5, cR6, fR, zR⟩ := own7 oR
  obtain ⟨cD0, cD1, fD, zD⟩ := own2 oD
  go_wp2
  all_goals (go_ret; exact ⟨by first | rfl | simp_all, (by repeat (first | exact bel | refine Below.alloc ?_ (by have := bel.size; simp; omega) _))⟩)

set_option linter.unusedVariables false in
set_option maxRecDepth 100000 in
set_option maxHeartbeats 4000000 in
theorem guardNoOverlaps_ok (sy : Bool) (l h a k src he o d t : Int) (sy2 : Bool) (l2 h2 a2 k2 src2 he2 o2 d2 u asn N M : Int) (w : World) (i : itB sy l h a k src he o d t = true) (j : itB sy2 l2 h2 a2 k2 src2 he2 o2 d2 u = true) (q1 : 0 ≤ asn) (q2 : asn < 999999999) (s : gsN sy l h a k src he o d asn = N ∧ gsE sy l h a k src he o d asn = 0) (s2 : gsN sy2 l2 h2 a2 k2 src2 he2 o2 d2 (asn + 1) = M ∧ gsE sy2 l2 h2 a2 k2 src2 he2 o2 d2 (asn + 1) = 0) (b1 : -2002 ≤ N) (b2 : N ≤ 2002) (b3 : -2002 ≤ M) (b4 : M ≤ 2002) :
    Calls Try.prog 6 #[.agg #[.bool sy, .int .i64 l, .int .i64 h, .int .i64 a, .int .i64 k, .int .i64 src, .int .i64 he], .agg #[.int .i64 o, .int .i64 d], .int .i64 t, .agg #[.bool sy2, .int .i64 l2, .int .i64 h2, .int .i64 a2, .int .i64 k2, .int .i64 src2, .int .i64 he2], .agg #[.int .i64 o2, .int .i64 d2], .int .i64 u, .int .i64 asn] w fun e w' => e = .returned (.bool true) ∧ Below w.heap.size w w' := by
  have Hi := Lib.hid i
  clear i
  have Hj := Lib.hid j
  clear j
  have Hs := Lib.hid s
  clear s
  have Hs2 := Lib.hid s2
  clear s2
  go_enter Try.func6, Try.ntmps6
  go_wp2_with fail
  refine (head_any _).mono ?_
  rintro e w1 ⟨rfl, hb⟩
  have oS : Own w1 w.heap.size [.bool sy, .int .i64 l, .int .i64 h, .int .i64 a, .int .i64 k, .int .i64 src, .int .i64 he] 25 := ((((own_at _ _ rfl).alloc _).alloc _).alloc _).below hb
  have oC : Own w1 (w.heap.size + 1) [.int .i64 o, .int .i64 d] 27 := (((own_at _ _ (by simp)).alloc _).alloc _).below hb
  have oR : Own w1 (w.heap.size + 2) [.bool sy2, .int .i64 l2, .int .i64 h2, .int .i64 a2, .int .i64 k2, .int .i64 src2, .int .i64 he2] 25 := ((own_at _ _ (by simp)).alloc _).below hb
  have oD : Own w1 (w.heap.size + 3) [.int .i64 o2, .int .i64 d2] 27 := (own_at _ _ (by simp)).below hb
  have bel := belowTo (((((Below.refl w.heap.size w).alloc (by simp) _).alloc (by simp) _).alloc (by simp; omega) _).alloc (by simp; omega) _) hb (by simp; omega)
  clear hb 
  obtain ⟨cS0, cS1, cS2, cS3, cS4, cS5, cS6, fS, zS⟩ := own7 oS
  obtain ⟨cC0, cC1, fC, zC⟩ := own2 oC
  obtain ⟨cR0, cR1, cR2, cR3, cR4, cR5, cR6, fR, zR⟩ := own7 oR
  obtain ⟨cD0, cD1, fD, zD⟩ := own2 oD
  go_wp2_with fail
  refine (isTrue_lit sy l h a k src he o d t true _ Hi.out).mono ?_
  rintro e w2 ⟨rfl, hb⟩
  replace oS := oS.below hb
  replace oC := oC.below hb
  replace oR := oR.below hb
  replace oD := oD.below hb
  replace bel := belowTo bel hb (by exact bel.size)
  clear hb cS0 cS1 cS2 cS3 cS4 cS5 cS6 fS zS cC0 cC1 fC zC cR0 cR1 cR2 cR3 cR4 cR5 cR6 fR zR cD0 cD1 fD zD
  obtain ⟨cS0, cS1, cS2, cS3, cS4, cS5, cS6, fS, zS⟩ := own7 oS
  obtain ⟨cC0, cC1, fC, zC⟩ := own2 oC
  obtain ⟨cR0, cR1, cR2, cR3, cR4, cR5, cR6, fR, zR⟩ := own7 oR
  obtain ⟨cD0, cD1, fD, zD⟩ := own2 oD
  go_wp2_with fail
  refine (isTrue_lit sy2 l2 h2 a2 k2 src2 he2 o2 d2 u true _ Hj.out).mono ?_
  rintro e w3 ⟨rfl, hb⟩
  replace oS := oS.below hb
  replace oC := oC.below hb
  replace oR := oR.below hb
  replace oD := oD.below hb
  replace bel := belowTo bel hb (by exact bel.size)
  clear hb cS0 cS1 cS2 cS3 cS4 cS5 cS6 fS zS cC0 cC1 fC zC cR0 cR1 cR2 cR3 cR4 cR5 cR6 fR zR cD0 cD1 fD zD
  obtain ⟨cS0, cS1, cS2, cS3, cS4, cS5, cS6, fS, zS⟩ := own7 oS
  obtain ⟨cC0, cC1, fC, zC⟩ := own2 oC
  obtain ⟨cR0, cR1, cR2, cR3, cR4, cR5, cR6, fR, zR⟩ := own7 oR
  obtain ⟨cD0, cD1, fD, zD⟩ := own2 oD
  go_wp2_with fail
  refine (send_lit sy l h a k src he o d asn N 0 _ Hs.out).mono ?_
  rintro e w4 ⟨rfl, hb⟩
  replace oS := oS.below hb
  replace oC := oC.below hb
  replace oR := oR.below hb
  replace oD := oD.below hb
  replace bel := belowTo bel hb (by exact bel.size)
  clear hb cS0 cS1 cS2 cS3 cS4 cS5 cS6 fS zS cC0 cC1 fC zC cR0 cR1 cR2 cR3 cR4 cR5 cR6 fR zR cD0 cD1 fD zD
  obtain ⟨cS0, cS1, cS2, cS3, cS4, cS5, cS6, fS, zS⟩ := own7 oS
  obtain ⟨cC0, cC1, fC, zC⟩ := own2 oC
  obtain ⟨cR0, cR1, cR2, cR3, cR4, cR5, cR6, fR, zR⟩ := own7 oR
  obtain ⟨cD0, cD1, fD, zD⟩ := own2 oD
  go_wp2_with fail
  refine (send_lit sy2 l2 h2 a2 k2 src2 he2 o2 d2 (asn + 1) M 0 _ Hs2.out).mono ?_
  rintro e w5 ⟨rfl, hb⟩
  replace oS := oS.below hb
  replace oC := oC.below hb
  replace oR := oR.below hb
  replace oD := oD.below hb
  replace bel := belowTo bel hb (by exact bel.size)
  clear hb cS0 cS1 cS2 cS3 cS4 cS5 cS6 fS zS cC0 cC1 fC zC cR0 cR1 cR2 cR3 cR4 cR5 cR6 fR zR cD0 cD1 fD zD
  obtain ⟨cS0, cS1, cS2, cS3, cS4, cS5, cS6, fS, zS⟩ := own7 oS
  obtain ⟨cC0, cC1, fC, zC⟩ := own2 oC
  obtain ⟨cR0, cR1, cR2, cR3, cR4, cR5, cR6, fR, zR⟩ := own7 oR
  obtain ⟨cD0, cD1, fD, zD⟩ := own2 oD
  go_wp2
  all_goals (go_ret; exact ⟨ret_bool (by simp; omega), bel⟩)

theorem guardNoOverlaps_walk (sy : Bool) (l h a k src he o d t : Int) (sy2 : Bool) (l2 h2 a2 k2 src2 he2 o2 d2 u asn : Int) (w : World) (_0 : IntKind.i64.has l) (_1 : IntKind.i64.has h) (_2 : IntKind.i64.has a) (_3 : IntKind.i64.has k) (_4 : IntKind.i64.has src) (_5 : IntKind.i64.has he) (_6 : IntKind.i64.has o) (_7 : IntKind.i64.has d) (_8 : IntKind.i64.has t) (_9 : IntKind.i64.has l2) (_10 : IntKind.i64.has h2) (_11 : IntKind.i64.has a2) (_12 : IntKind.i64.has k2) (_13 : IntKind.i64.has src2) (_14 : IntKind.i64.has he2) (_15 : IntKind.i64.has o2) (_16 : IntKind.i64.has d2) (_17 : IntKind.i64.has u) (_18 : IntKind.i64.has asn) :
    Calls Try.prog 6 #[.agg #[.bool sy, .int .i64 l, .int .i64 h, .int .i64 a, .int .i64 k, .int .i64 src, .int .i64 he], .agg #[.int .i64 o, .int .i64 d], .int .i64 t, .agg #[.bool sy2, .int .i64 l2, .int .i64 h2, .int .i64 a2, .int .i64 k2, .int .i64 src2, .int .i64 he2], .agg #[.int .i64 o2, .int .i64 d2], .int .i64 u, .int .i64 asn] w fun e w' => e = .returned (.bool true) ∧ Below w.heap.size w w' := by
  cases i : itB sy l h a k src he o d t with
  | false =>
    cases j : itB sy2 l2 h2 a2 k2 src2 he2 o2 d2 u with
    | false => exact guardNoOverlaps_no_false_false sy l h a k src he o d t sy2 l2 h2 a2 k2 src2 he2 o2 d2 u asn w i j
    | true => exact guardNoOverlaps_no_false_true sy l h a k src he o d t sy2 l2 h2 a2 k2 src2 he2 o2 d2 u asn w i j
  | true =>
    cases j : itB sy2 l2 h2 a2 k2 src2 he2 o2 d2 u with
    | false => exact guardNoOverlaps_no_true_false sy l h a k src he o d t sy2 l2 h2 a2 k2 src2 he2 o2 d2 u asn w i j
    | true =>
      by_cases q1 : 0 ≤ asn
      · by_cases q2 : asn < 999999999
        · by_cases e : gsE sy l h a k src he o d asn = 0
          · by_cases f : gsE sy2 l2 h2 a2 k2 src2 he2 o2 d2 (asn + 1) = 0
            · obtain ⟨t1, t2, t3, t4⟩ := on_time i e
              obtain ⟨u1, u2, u3, u4⟩ := on_time j f
              exact guardNoOverlaps_ok sy l h a k src he o d t sy2 l2 h2 a2 k2 src2 he2 o2 d2 u asn _ _ w i j q1 q2 ⟨rfl, e⟩ ⟨rfl, f⟩ (by omega) (by omega) (by omega) (by omega)
            · exact guardNoOverlaps_err2 sy l h a k src he o d t sy2 l2 h2 a2 k2 src2 he2 o2 d2 u asn _ _ _ w i j q1 q2 ⟨rfl, e⟩ ⟨rfl, rfl⟩ (by simpa using f) (by simpa using f)
          · exact guardNoOverlaps_err1 sy l h a k src he o d t sy2 l2 h2 a2 k2 src2 he2 o2 d2 u asn _ _ _ _ w i j q1 q2 ⟨rfl, rfl⟩ ⟨rfl, rfl⟩ (by simpa using e) (by simpa using e)
        · exact guardNoOverlaps_big sy l h a k src he o d t sy2 l2 h2 a2 k2 src2 he2 o2 d2 u asn w i j q1 (by omega)
      · exact guardNoOverlaps_neg sy l h a k src he o d t sy2 l2 h2 a2 k2 src2 he2 o2 d2 u asn w i j (by omega)

end Go.Proofs.Ytcbadbcdjejjcaa

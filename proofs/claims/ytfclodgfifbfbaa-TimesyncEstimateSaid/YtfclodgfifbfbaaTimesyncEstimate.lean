/- TimesyncEstimate: the walk of the law. It returns true for every input, and leaves old memory alone. -/
import Derived.Test.YtfclodgfifbfbaaHead09
import Derived.Test.YtfclodgfifbfbaaIs09
import Derived.Test.YtfclodgfifbfbaaHolds09
import Derived.Test.YtfclodgfifbfbaaPlain09b
namespace Go.Proofs.Ytfclodgfifbfbaa
open Go.RowKit

set_option linter.unusedVariables false in
set_option maxRecDepth 100000 in
set_option maxHeartbeats 4000000 in
theorem timesyncEstimate_r1 (sy : Bool) (l h a k src he o d t later : Int) (w : World) (q : later < 0) :
    Calls Try.prog 10 #[.agg #[.bool sy, .int .i64 l, .int .i64 h, .int .i64 a, .int .i64 k, .int .i64 src, .int .i64 he], .agg #[.int .i64 o, .int .i64 d], .int .i64 t, .int .i64 later] w fun e w' => e = .returned (.bool true) ∧ Below w.heap.size w w' := by
  go_enter Try.func10, Try.ntmps10
  go_wp2_with fail
  refine (head_any _).mono ?_
  rintro e w1 ⟨rfl, hb⟩
  have oS : Own w1 w.heap.size [.bool sy, .int .i64 l, .int .i64 h, .int .i64 a, .int .i64 k, .int .i64 src, .int .i64 he] 25 := ((own_at _ _ rfl).alloc _).below hb
  have oC : Own w1 (w.heap.size + 1) [.int .i64 o, .int .i64 d] 47 := (own_at _ _ (by simp)).below hb
  have bel := belowTo (((Below.refl w.heap.size w).alloc (by simp) _).alloc (by simp) _) hb (by simp; omega)
  clear hb 
  obtain ⟨cS0, cS1, cS2, cS3, cS4, cS5, cS6, fS, zS⟩ := own7 oS
  obtain ⟨cC0, cC1, fC, zC⟩ := own2 oC
  go_wp2
  all_goals (go_ret; exact ⟨by first | rfl | simp_all, (by repeat (first | exact bel | refine Below.alloc ?_ (by have := bel.size; simp; omega) _))⟩)

set_option linter.unusedVariables false in
set_option maxRecDepth 100000 in
set_option maxHeartbeats 4000000 in
theorem timesyncEstimate_r2 (sy : Bool) (l h a k src he o d t later : Int) (w : World) (q : t < 0) :
    Calls Try.prog 10 #[.agg #[.bool sy, .int .i64 l, .int .i64 h, .int .i64 a, .int .i64 k, .int .i64 src, .int .i64 he], .agg #[.int .i64 o, .int .i64 d], .int .i64 t, .int .i64 later] w fun e w' => e = .returned (.bool true) ∧ Below w.heap.size w w' := by
  go_enter Try.func10, Try.ntmps10
  go_wp2_with fail
  refine (head_any _).mono ?_
  rintro e w1 ⟨rfl, hb⟩
  have oS : Own w1 w.heap.size [.bool sy, .int .i64 l, .int .i64 h, .int .i64 a, .int .i64 k, .int .i64 src, .int .i64 he] 25 := ((own_at _ _ rfl).alloc _).below hb
  have oC : Own w1 (w.heap.size + 1) [.int .i64 o, .int .i64 d] 47 := (own_at _ _ (by simp)).below hb
  have bel := belowTo (((Below.refl w.heap.size w).alloc (by simp) _).alloc (by simp) _) hb (by simp; omega)
  clear hb 
  obtain ⟨cS0, cS1, cS2, cS3, cS4, cS5, cS6, fS, zS⟩ := own7 oS
  obtain ⟨cC0, cC1, fC, zC⟩ := own2 oC
  go_wp2
  all_goals (go_ret; exact ⟨by first | rfl | simp_all, (by repeat (first | exact bel | refine Below.alloc ?_ (by have := bel.size; simp; omega) _))⟩)

set_option linter.unusedVariables false in
set_option maxRecDepth 100000 in
set_option maxHeartbeats 4000000 in
theorem timesyncEstimate_r3 (sy : Bool) (l h a k src he o d t later : Int) (w : World) (q : 10000000000000 < t) :
    Calls Try.prog 10 #[.agg #[.bool sy, .int .i64 l, .int .i64 h, .int .i64 a, .int .i64 k, .int .i64 src, .int .i64 he], .agg #[.int .i64 o, .int .i64 d], .int .i64 t, .int .i64 later] w fun e w' => e = .returned (.bool true) ∧ Below w.heap.size w w' := by
  go_enter Try.func10, Try.ntmps10
  go_wp2_with fail
  refine (head_any _).mono ?_
  rintro e w1 ⟨rfl, hb⟩
  have oS : Own w1 w.heap.size [.bool sy, .int .i64 l, .int .i64 h, .int .i64 a, .int .i64 k, .int .i64 src, .int .i64 he] 25 := ((own_at _ _ rfl).alloc _).below hb
  have oC : Own w1 (w.heap.size + 1) [.int .i64 o, .int .i64 d] 47 := (own_at _ _ (by simp)).below hb
  have bel := belowTo (((Below.refl w.heap.size w).alloc (by simp) _).alloc (by simp) _) hb (by simp; omega)
  clear hb 
  obtain ⟨cS0, cS1, cS2, cS3, cS4, cS5, cS6, fS, zS⟩ := own7 oS
  obtain ⟨cC0, cC1, fC, zC⟩ := own2 oC
  go_wp2
  all_goals (go_ret; exact ⟨by first | rfl | simp_all, (by repeat (first | exact bel | refine Below.alloc ?_ (by have := bel.size; simp; omega) _))⟩)

set_option linter.unusedVariables false in
set_option maxRecDepth 100000 in
set_option maxHeartbeats 4000000 in
theorem timesyncEstimate_r4 (sy : Bool) (l h a k src he o d t later : Int) (w : World) (p1 : 0 ≤ t) (p2 : t ≤ 10000000000000) (q : 10000000000000 - t < later) :
    Calls Try.prog 10 #[.agg #[.bool sy, .int .i64 l, .int .i64 h, .int .i64 a, .int .i64 k, .int .i64 src, .int .i64 he], .agg #[.int .i64 o, .int .i64 d], .int .i64 t, .int .i64 later] w fun e w' => e = .returned (.bool true) ∧ Below w.heap.size w w' := by
  go_enter Try.func10, Try.ntmps10
  go_wp2_with fail
  refine (head_any _).mono ?_
  rintro e w1 ⟨rfl, hb⟩
  have oS : Own w1 w.heap.size [.bool sy, .int .i64 l, .int .i64 h, .int .i64 a, .int .i64 k, .int .i64 src, .int .i64 he] 25 := ((own_at _ _ rfl).alloc _).below hb
  have oC : Own w1 (w.heap.size + 1) [.int .i64 o, .int .i64 d] 47 := (own_at _ _ (by simp)).below hb
  have bel := belowTo (((Below.refl w.heap.size w).alloc (by simp) _).alloc (by simp) _) hb (by simp; omega)
  clear hb 
  obtain ⟨cS0, cS1, cS2, cS3, cS4, cS5, cS6, fS, zS⟩ := own7 oS
  obtain ⟨cC0, cC1, fC, zC⟩ := own2 oC
  go_wp2
  all_goals (go_ret; exact ⟨by first | rfl | simp_all, (by repeat (first | exact bel | refine Below.alloc ?_ (by have := bel.size; simp; omega) _))⟩)

set_option linter.unusedVariables false in
set_option maxRecDepth 100000 in
set_option maxHeartbeats 4000000 in
theorem timesyncEstimate_bad_true (l h a k src he o d t later : Int) (w : World) (p1 : 0 ≤ t) (p2 : t ≤ 10000000000000) (p3 : 0 ≤ later) (p4 : later ≤ 10000000000000 - t) (v : vldT true l h a k src he = false)  :
    Calls Try.prog 10 #[.agg #[.bool true, .int .i64 l, .int .i64 h, .int .i64 a, .int .i64 k, .int .i64 src, .int .i64 he], .agg #[.int .i64 o, .int .i64 d], .int .i64 t, .int .i64 later] w fun e w' => e = .returned (.bool true) ∧ Below w.heap.size w w' := by
  have Hv := Lib.hid v
  clear v
  go_enter Try.func10, Try.ntmps10
  go_wp2_with fail
  refine (head_any _).mono ?_
  rintro e w1 ⟨rfl, hb⟩
  have oS : Own w1 w.heap.size [.bool true, .int .i64 l, .int .i64 h, .int .i64 a, .int .i64 k, .int .i64 src, .int .i64 he] 25 := ((own_at _ _ rfl).alloc _).below hb
  have oC : Own w1 (w.heap.size + 1) [.int .i64 o, .int .i64 d] 47 := (own_at _ _ (by simp)).below hb
  have bel := belowTo (((Below.refl w.heap.size w).alloc (by simp) _).alloc (by simp) _) hb (by simp; omega)
  clear hb 
  obtain ⟨cS0, cS1, cS2, cS3, cS4, cS5, cS6, fS, zS⟩ := own7 oS
  obtain ⟨cC0, cC1, fC, zC⟩ := own2 oC
  go_wp2_with fail
  refine (rtvalid_lit true l h a k src he false _ Hv.out).mono ?_
  rintro e w2 ⟨rfl, hb⟩
  replace oS := oS.below hb
  replace oC := oC.below hb
  replace bel := belowTo bel hb (by exact bel.size)
  clear hb cS0 cS1 cS2 cS3 cS4 cS5 cS6 fS zS cC0 cC1 fC zC
  obtain ⟨cS0, cS1, cS2, cS3, cS4, cS5, cS6, fS, zS⟩ := own7 oS
  obtain ⟨cC0, cC1, fC, zC⟩ := own2 oC
  go_wp2
  all_goals (go_ret; exact ⟨by first | rfl | simp_all, (by repeat (first | exact bel | refine Below.alloc ?_ (by have := bel.size; simp; omega) _))⟩)

set_option linter.unusedVariables false in
set_option maxRecDepth 100000 in
set_option maxHeartbeats 4000000 in
theorem timesyncEstimate_bad_false (l h a k src he o d t later : Int) (w : World) (p1 : 0 ≤ t) (p2 : t ≤ 10000000000000) (p3 : 0 ≤ later) (p4 : later ≤ 10000000000000 - t) (v : vldT false l h a k src he = false)  :
    Calls Try.prog 10 #[.agg #[.bool false, .int .i64 l, .int .i64 h, .int .i64 a, .int .i64 k, .int .i64 src, .int .i64 he], .agg #[.int .i64 o, .int .i64 d], .int .i64 t, .int .i64 later] w fun e w' => e = .returned (.bool true) ∧ Below w.heap.size w w' := by
  have Hv := Lib.hid v
  clear v
  go_enter Try.func10, Try.ntmps10
  go_wp2_with fail
  refine (head_any _).mono ?_
  rintro e w1 ⟨rfl, hb⟩
  have oS : Own w1 w.heap.size [.bool false, .int .i64 l, .int .i64 h, .int .i64 a, .int .i64 k, .int .i64 src, .int .i64 he] 25 := ((own_at _ _ rfl).alloc _).below hb
  have oC : Own w1 (w.heap.size + 1) [.int .i64 o, .int .i64 d] 47 := (own_at _ _ (by simp)).below hb
  have bel := belowTo (((Below.refl w.heap.size w).alloc (by simp) _).alloc (by simp) _) hb (by simp; omega)
  clear hb 
  obtain ⟨cS0, cS1, cS2, cS3, cS4, cS5, cS6, fS, zS⟩ := own7 oS
  obtain ⟨cC0, cC1, fC, zC⟩ := own2 oC
  go_wp2_with fail
  refine (rtvalid_lit false l h a k src he false _ Hv.out).mono ?_
  rintro e w2 ⟨rfl, hb⟩
  replace oS := oS.below hb
  replace oC := oC.below hb
  replace bel := belowTo bel hb (by exact bel.size)
  clear hb cS0 cS1 cS2 cS3 cS4 cS5 cS6 fS zS cC0 cC1 fC zC
  obtain ⟨cS0, cS1, cS2, cS3, cS4, cS5, cS6, fS, zS⟩ := own7 oS
  obtain ⟨cC0, cC1, fC, zC⟩ := own2 oC
  go_wp2
  all_goals (go_ret; exact ⟨by first | rfl | simp_all, (by repeat (first | exact bel | refine Below.alloc ?_ (by have := bel.size; simp; omega) _))⟩)

set_option linter.unusedVariables false in
set_option maxRecDepth 100000 in
set_option maxHeartbeats 4000000 in
theorem timesyncEstimate_off (l h a k src he o d t later : Int) (w : World) (p1 : 0 ≤ t) (p2 : t ≤ 10000000000000) (p3 : 0 ≤ later) (p4 : later ≤ 10000000000000 - t) (v : vldT false l h a k src he = true)  :
    Calls Try.prog 10 #[.agg #[.bool false, .int .i64 l, .int .i64 h, .int .i64 a, .int .i64 k, .int .i64 src, .int .i64 he], .agg #[.int .i64 o, .int .i64 d], .int .i64 t, .int .i64 later] w fun e w' => e = .returned (.bool true) ∧ Below w.heap.size w w' := by
  have Hv := Lib.hid v
  clear v
  go_enter Try.func10, Try.ntmps10
  go_wp2_with fail
  refine (head_any _).mono ?_
  rintro e w1 ⟨rfl, hb⟩
  have oS : Own w1 w.heap.size [.bool false, .int .i64 l, .int .i64 h, .int .i64 a, .int .i64 k, .int .i64 src, .int .i64 he] 25 := ((own_at _ _ rfl).alloc _).below hb
  have oC : Own w1 (w.heap.size + 1) [.int .i64 o, .int .i64 d] 47 := (own_at _ _ (by simp)).below hb
  have bel := belowTo (((Below.refl w.heap.size w).alloc (by simp) _).alloc (by simp) _) hb (by simp; omega)
  clear hb 
  obtain ⟨cS0, cS1, cS2, cS3, cS4, cS5, cS6, fS, zS⟩ := own7 oS
  obtain ⟨cC0, cC1, fC, zC⟩ := own2 oC
  go_wp2_with fail
  refine (rtvalid_lit false l h a k src he true _ Hv.out).mono ?_
  rintro e w2 ⟨rfl, hb⟩
  replace oS := oS.below hb
  replace oC := oC.below hb
  replace bel := belowTo bel hb (by exact bel.size)
  clear hb cS0 cS1 cS2 cS3 cS4 cS5 cS6 fS zS cC0 cC1 fC zC
  obtain ⟨cS0, cS1, cS2, cS3, cS4, cS5, cS6, fS, zS⟩ := own7 oS
  obtain ⟨cC0, cC1, fC, zC⟩ := own2 oC
  go_wp2
  all_goals (go_ret; exact ⟨by first | rfl | simp_all, (by repeat (first | exact bel | refine Below.alloc ?_ (by have := bel.size; simp; omega) _))⟩)

set_option linter.unusedVariables false in
set_option maxRecDepth 100000 in
set_option maxHeartbeats 4000000 in
theorem timesyncEstimate_root (l h a k src he o d t later : Int) (w : World) (p1 : 0 ≤ t) (p2 : t ≤ 10000000000000) (p3 : 0 ≤ later) (p4 : later ≤ 10000000000000 - t) (v : vldT true l h a k src he = true) (r : (true && (k == 0)) = true)  :
    Calls Try.prog 10 #[.agg #[.bool true, .int .i64 l, .int .i64 h, .int .i64 a, .int .i64 k, .int .i64 src, .int .i64 he], .agg #[.int .i64 o, .int .i64 d], .int .i64 t, .int .i64 later] w fun e w' => e = .returned (.bool true) ∧ Below w.heap.size w w' := by
  have Hv := Lib.hid v
  clear v
  have Hr := Lib.hid r
  clear r
  go_enter Try.func10, Try.ntmps10
  go_wp2_with fail
  refine (head_any _).mono ?_
  rintro e w1 ⟨rfl, hb⟩
  have oS : Own w1 w.heap.size [.bool true, .int .i64 l, .int .i64 h, .int .i64 a, .int .i64 k, .int .i64 src, .int .i64 he] 25 := ((own_at _ _ rfl).alloc _).below hb
  have oC : Own w1 (w.heap.size + 1) [.int .i64 o, .int .i64 d] 47 := (own_at _ _ (by simp)).below hb
  have bel := belowTo (((Below.refl w.heap.size w).alloc (by simp) _).alloc (by simp) _) hb (by simp; omega)
  clear hb 
  obtain ⟨cS0, cS1, cS2, cS3, cS4, cS5, cS6, fS, zS⟩ := own7 oS
  obtain ⟨cC0, cC1, fC, zC⟩ := own2 oC
  go_wp2_with fail
  refine (rtvalid_lit true l h a k src he true _ Hv.out).mono ?_
  rintro e w2 ⟨rfl, hb⟩
  replace oS := oS.below hb
  replace oC := oC.below hb
  replace bel := belowTo bel hb (by exact bel.size)
  clear hb cS0 cS1 cS2 cS3 cS4 cS5 cS6 fS zS cC0 cC1 fC zC
  obtain ⟨cS0, cS1, cS2, cS3, cS4, cS5, cS6, fS, zS⟩ := own7 oS
  obtain ⟨cC0, cC1, fC, zC⟩ := own2 oC
  go_wp2_with fail
  refine (rroot_lit true l h a k src he true _ Hr.out).mono ?_
  rintro e w3 ⟨rfl, hb⟩
  replace oS := oS.below hb
  replace oC := oC.below hb
  replace bel := belowTo bel hb (by exact bel.size)
  clear hb cS0 cS1 cS2 cS3 cS4 cS5 cS6 fS zS cC0 cC1 fC zC
  obtain ⟨cS0, cS1, cS2, cS3, cS4, cS5, cS6, fS, zS⟩ := own7 oS
  obtain ⟨cC0, cC1, fC, zC⟩ := own2 oC
  go_wp2
  all_goals (go_ret; exact ⟨by first | rfl | simp_all, (by repeat (first | exact bel | refine Below.alloc ?_ (by have := bel.size; simp; omega) _))⟩)

set_option linter.unusedVariables false in
set_option maxRecDepth 100000 in
set_option maxHeartbeats 4000000 in
theorem timesyncEstimate_not (l h a k src he o d t later : Int) (w : World) (p1 : 0 ≤ t) (p2 : t ≤ 10000000000000) (p3 : 0 ≤ later) (p4 : later ≤ 10000000000000 - t) (v : vldT true l h a k src he = true) (r : (true && (k == 0)) = false) (ho : hoB l h a o d t = false)  :
    Calls Try.prog 10 #[.agg #[.bool true, .int .i64 l, .int .i64 h, .int .i64 a, .int .i64 k, .int .i64 src, .int .i64 he], .agg #[.int .i64 o, .int .i64 d], .int .i64 t, .int .i64 later] w fun e w' => e = .returned (.bool true) ∧ Below w.heap.size w w' := by
  have Hv := Lib.hid v
  clear v
  have Hr := Lib.hid r
  clear r
  have Hho := Lib.hid ho
  clear ho
  go_enter Try.func10, Try.ntmps10
  go_wp2_with fail
  refine (head_any _).mono ?_
  rintro e w1 ⟨rfl, hb⟩
  have oS : Own w1 w.heap.size [.bool true, .int .i64 l, .int .i64 h, .int .i64 a, .int .i64 k, .int .i64 src, .int .i64 he] 25 := ((own_at _ _ rfl).alloc _).below hb
  have oC : Own w1 (w.heap.size + 1) [.int .i64 o, .int .i64 d] 47 := (own_at _ _ (by simp)).below hb
  have bel := belowTo (((Below.refl w.heap.size w).alloc (by simp) _).alloc (by simp) _) hb (by simp; omega)
  clear hb 
  obtain ⟨cS0, cS1, cS2, cS3, cS4, cS5, cS6, fS, zS⟩ := own7 oS
  obtain ⟨cC0, cC1, fC, zC⟩ := own2 oC
  go_wp2_with fail
  refine (rtvalid_lit true l h a k src he true _ Hv.out).mono ?_
  rintro e w2 ⟨rfl, hb⟩
  replace oS := oS.below hb
  replace oC := oC.below hb
  replace bel := belowTo bel hb (by exact bel.size)
  clear hb cS0 cS1 cS2 cS3 cS4 cS5 cS6 fS zS cC0 cC1 fC zC
  obtain ⟨cS0, cS1, cS2, cS3, cS4, cS5, cS6, fS, zS⟩ := own7 oS
  obtain ⟨cC0, cC1, fC, zC⟩ := own2 oC
  go_wp2_with fail
  refine (rroot_lit true l h a k src he false _ Hr.out).mono ?_
  rintro e w3 ⟨rfl, hb⟩
  replace oS := oS.below hb
  replace oC := oC.below hb
  replace bel := belowTo bel hb (by exact bel.size)
  clear hb cS0 cS1 cS2 cS3 cS4 cS5 cS6 fS zS cC0 cC1 fC zC
  obtain ⟨cS0, cS1, cS2, cS3, cS4, cS5, cS6, fS, zS⟩ := own7 oS
  obtain ⟨cC0, cC1, fC, zC⟩ := own2 oC
  go_wp2_with fail
  refine (holds_lit true l h a k src he o d t false _ Hho.out).mono ?_
  rintro e w4 ⟨rfl, hb⟩
  replace oS := oS.below hb
  replace oC := oC.below hb
  replace bel := belowTo bel hb (by exact bel.size)
  clear hb cS0 cS1 cS2 cS3 cS4 cS5 cS6 fS zS cC0 cC1 fC zC
  obtain ⟨cS0, cS1, cS2, cS3, cS4, cS5, cS6, fS, zS⟩ := own7 oS
  obtain ⟨cC0, cC1, fC, zC⟩ := own2 oC
  go_wp2
  all_goals (go_ret; exact ⟨by first | rfl | simp_all, (by repeat (first | exact bel | refine Below.alloc ?_ (by have := bel.size; simp; omega) _))⟩)

set_option linter.unusedVariables false in
set_option maxRecDepth 100000 in
set_option maxHeartbeats 4000000 in
theorem timesyncEstimate_err1 (l h a k src he o d t later A N F X Y Z K : Int) (w : World) (p1 : 0 ≤ t) (p2 : t ≤ 10000000000000) (p3 : 0 ≤ later) (p4 : later ≤ 10000000000000 - t) (v : vldT true l h a k src he = true) (r : (true && (k == 0)) = false) (ho : hoB l h a o d t = true) (hs : shN o d (t + later) = A ∧ shE o d (t + later) = 0) (b1 : -30000000000000 ≤ A) (b2 : A ≤ 30000000000000) (hb : bdN true l h a k src he A = N ∧ bdE true l h a k src he A = F) (hg : grL l h a A = X ∧ grH l h a A = Y ∧ grA l h a A = Z ∧ grE l h a A = K) (hF : (F == 0) = false) (hFn : (F != 0) = true) (hFK : (F == K) = true) :
    Calls Try.prog 10 #[.agg #[.bool true, .int .i64 l, .int .i64 h, .int .i64 a, .int .i64 k, .int .i64 src, .int .i64 he], .agg #[.int .i64 o, .int .i64 d], .int .i64 t, .int .i64 later] w fun e w' => e = .returned (.bool true) ∧ Below w.heap.size w w' := by
  have Hv := Lib.hid v
  clear v
  have Hr := Lib.hid r
  clear r
  have Hho := Lib.hid ho
  clear ho
  have Hhs := Lib.hid hs
  clear hs
  have Hhb := Lib.hid hb
  clear hb
  have Hhg := Lib.hid hg
  clear hg
  go_enter Try.func10, Try.ntmps10
  go_wp2_with fail
  refine (head_any _).mono ?_
  rintro e w1 ⟨rfl, hb⟩
  have oS : Own w1 w.heap.size [.bool true, .int .i64 l, .int .i64 h, .int .i64 a, .int .i64 k, .int .i64 src, .int .i64 he] 25 := ((own_at _ _ rfl).alloc _).below hb
  have oC : Own w1 (w.heap.size + 1) [.int .i64 o, .int .i64 d] 47 := (own_at _ _ (by simp)).below hb
  have bel := belowTo (((Below.refl w.heap.size w).alloc (by simp) _).alloc (by simp) _) hb (by simp; omega)
  clear hb 
  obtain ⟨cS0, cS1, cS2, cS3, cS4, cS5, cS6, fS, zS⟩ := own7 oS
  obtain ⟨cC0, cC1, fC, zC⟩ := own2 oC
  go_wp2_with fail
  refine (rtvalid_lit true l h a k src he true _ Hv.out).mono ?_
  rintro e w2 ⟨rfl, hb⟩
  replace oS := oS.below hb
  replace oC := oC.below hb
  replace bel := belowTo bel hb (by exact bel.size)
  clear hb cS0 cS1 cS2 cS3 cS4 cS5 cS6 fS zS cC0 cC1 fC zC
  obtain ⟨cS0, cS1, cS2, cS3, cS4, cS5, cS6, fS, zS⟩ := own7 oS
  obtain ⟨cC0, cC1, fC, zC⟩ := own2 oC
  go_wp2_with fail
  refine (rroot_lit true l h a k src he false _ Hr.out).mono ?_
  rintro e w3 ⟨rfl, hb⟩
  replace oS := oS.below hb
  replace oC := oC.below hb
  replace bel := belowTo bel hb (by exact bel.size)
  clear hb cS0 cS1 cS2 cS3 cS4 cS5 cS6 fS zS cC0 cC1 fC zC
  obtain ⟨cS0, cS1, cS2, cS3, cS4, cS5, cS6, fS, zS⟩ := own7 oS
  obtain ⟨cC0, cC1, fC, zC⟩ := own2 oC
  go_wp2_with fail
  refine (holds_lit true l h a k src he o d t true _ Hho.out).mono ?_
  rintro e w4 ⟨rfl, hb⟩
  replace oS := oS.below hb
  replace oC := oC.below hb
  replace bel := belowTo bel hb (by exact bel.size)
  clear hb cS0 cS1 cS2 cS3 cS4 cS5 cS6 fS zS cC0 cC1 fC zC
  obtain ⟨cS0, cS1, cS2, cS3, cS4, cS5, cS6, fS, zS⟩ := own7 oS
  obtain ⟨cC0, cC1, fC, zC⟩ := own2 oC
  go_wp2_with fail
  refine (show_lit o d (t + later) A 0 _ Hhs.out).mono ?_
  rintro e w5 ⟨rfl, hb⟩
  replace oS := oS.below hb
  replace oC := oC.below hb
  replace bel := belowTo bel hb (by exact bel.size)
  clear hb cS0 cS1 cS2 cS3 cS4 cS5 cS6 fS zS cC0 cC1 fC zC
  obtain ⟨cS0, cS1, cS2, cS3, cS4, cS5, cS6, fS, zS⟩ := own7 oS
  obtain ⟨cC0, cC1, fC, zC⟩ := own2 oC
  go_wp2_with fail
  refine (tbound_lit true l h a k src he A N F _ Hhb.out).mono ?_
  rintro e w6 ⟨rfl, hb⟩
  replace oS := oS.below hb
  replace oC := oC.below hb
  replace bel := belowTo bel hb (by exact bel.size)
  clear hb cS0 cS1 cS2 cS3 cS4 cS5 cS6 fS zS cC0 cC1 fC zC
  obtain ⟨cS0, cS1, cS2, cS3, cS4, cS5, cS6, fS, zS⟩ := own7 oS
  obtain ⟨cC0, cC1, fC, zC⟩ := own2 oC
  go_wp2_with fail
  refine (bgrow_lit l h a A X Y Z K _ Hhg.out).mono ?_
  rintro e w7 ⟨rfl, hb⟩
  replace oS := oS.below hb
  replace oC := oC.below hb
  replace bel := belowTo bel hb (by exact bel.size)
  clear hb cS0 cS1 cS2 cS3 cS4 cS5 cS6 fS zS cC0 cC1 fC zC
  obtain ⟨cS0, cS1, cS2, cS3, cS4, cS5, cS6, fS, zS⟩ := own7 oS
  obtain ⟨cC0, cC1, fC, zC⟩ := own2 oC
  go_wp2_with fail
  have oG : Own (w7.alloc (Obj.cells #[.int .i64 X, .int .i64 Y, .int .i64 Z] 23)) w7.heap.size [.int .i64 X, .int .i64 Y, .int .i64 Z] 23 := own_at _ _ rfl
  replace oS := oS.alloc (Obj.cells #[.int .i64 X, .int .i64 Y, .int .i64 Z] 23)
  replace oC := oC.alloc (Obj.cells #[.int .i64 X, .int .i64 Y, .int .i64 Z] 23)
  replace bel := bel.alloc bel.size (Obj.cells #[.int .i64 X, .int .i64 Y, .int .i64 Z] 23)
  clear cS0 cS1 cS2 cS3 cS4 cS5 cS6 fS zS cC0 cC1 fC zC
  generalize w7.alloc (Obj.cells #[.int .i64 X, .int .i64 Y, .int .i64 Z] 23) = w8 at oS oC oG bel ⊢
  obtain ⟨cS0, cS1, cS2, cS3, cS4, cS5, cS6, fS, zS⟩ := own7 oS
  obtain ⟨cC0, cC1, fC, zC⟩ := own2 oC
  obtain ⟨cG0, cG1, cG2, fG, zG⟩ := own3 oG
  go_wp2
  all_goals (go_ret; exact ⟨by first | rfl | simp_all, (by repeat (first | exact bel | refine Below.alloc ?_ (by have := bel.size; simp; omega) _))⟩)

set_option linter.unusedVariables false in
set_option maxRecDepth 100000 in
set_option maxHeartbeats 4000000 in
theorem timesyncEstimate_err2 (l h a k src he o d t later A N F X Y Z K : Int) (w : World) (p1 : 0 ≤ t) (p2 : t ≤ 10000000000000) (p3 : 0 ≤ later) (p4 : later ≤ 10000000000000 - t) (v : vldT true l h a k src he = true) (r : (true && (k == 0)) = false) (ho : hoB l h a o d t = true) (hs : shN o d (t + later) = A ∧ shE o d (t + later) = 0) (b1 : -30000000000000 ≤ A) (b2 : A ≤ 30000000000000) (hb : bdN true l h a k src he A = N ∧ bdE true l h a k src he A = F) (hg : grL l h a A = X ∧ grH l h a A = Y ∧ grA l h a A = Z ∧ grE l h a A = K) (hF : (F == 0) = false) (hFn : (F != 0) = true) (hFK : (F == K) = false) (hF6 : (F == 16) = true) :
    Calls Try.prog 10 #[.agg #[.bool true, .int .i64 l, .int .i64 h, .int .i64 a, .int .i64 k, .int .i64 src, .int .i64 he], .agg #[.int .i64 o, .int .i64 d], .int .i64 t, .int .i64 later] w fun e w' => e = .returned (.bool true) ∧ Below w.heap.size w w' := by
  have Hv := Lib.hid v
  clear v
  have Hr := Lib.hid r
  clear r
  have Hho := Lib.hid ho
  clear ho
  have Hhs := Lib.hid hs
  clear hs
  have Hhb := Lib.hid hb
  clear hb
  have Hhg := Lib.hid hg
  clear hg
  go_enter Try.func10, Try.ntmps10
  go_wp2_with fail
  refine (head_any _).mono ?_
  rintro e w1 ⟨rfl, hb⟩
  have oS : Own w1 w.heap.size [.bool true, .int .i64 l, .int .i64 h, .int .i64 a, .int .i64 k, .int .i64 src, .int .i64 he] 25 := ((own_at _ _ rfl).alloc _).below hb
  have oC : Own w1 (w.heap.size + 1) [.int .i64 o, .int .i64 d] 47 := (own_at _ _ (by simp)).below hb
  have bel := belowTo (((Below.refl w.heap.size w).alloc (by simp) _).alloc (by simp) _) hb (by simp; omega)
  clear hb 
  obtain ⟨cS0, cS1, cS2, cS3, cS4, cS5, cS6, fS, zS⟩ := own7 oS
  obtain ⟨cC0, cC1, fC, zC⟩ := own2 oC
  go_wp2_with fail
  refine (rtvalid_lit true l h a k src he true _ Hv.out).mono ?_
  rintro e w2 ⟨rfl, hb⟩
  replace oS := oS.below hb
  replace oC := oC.below hb
  replace bel := belowTo bel hb (by exact bel.size)
  clear hb cS0 cS1 cS2 cS3 cS4 cS5 cS6 fS zS cC0 cC1 fC zC
  obtain ⟨cS0, cS1, cS2, cS3, cS4, cS5, cS6, fS, zS⟩ := own7 oS
  obtain ⟨cC0, cC1, fC, zC⟩ := own2 oC
  go_wp2_with fail
  refine (rroot_lit true l h a k src he false _ Hr.out).mono ?_
  rintro e w3 ⟨rfl, hb⟩
  replace oS := oS.below hb
  replace oC := oC.below hb
  replace bel := belowTo bel hb (by exact bel.size)
  clear hb cS0 cS1 cS2 cS3 cS4 cS5 cS6 fS zS cC0 cC1 fC zC
  obtain ⟨cS0, cS1, cS2, cS3, cS4, cS5, cS6, fS, zS⟩ := own7 oS
  obtain ⟨cC0, cC1, fC, zC⟩ := own2 oC
  go_wp2_with fail
  refine (holds_lit true l h a k src he o d t true _ Hho.out).mono ?_
  rintro e w4 ⟨rfl, hb⟩
  replace oS := oS.below hb
  replace oC := oC.below hb
  replace bel := belowTo bel hb (by exact bel.size)
  clear hb cS0 cS1 cS2 cS3 cS4 cS5 cS6 fS zS cC0 cC1 fC zC
  obtain ⟨cS0, cS1, cS2, cS3, cS4, cS5, cS6, fS, zS⟩ := own7 oS
  obtain ⟨cC0, cC1, fC, zC⟩ := own2 oC
  go_wp2_with fail
  refine (show_lit o d (t + later) A 0 _ Hhs.out).mono ?_
  rintro e w5 ⟨rfl, hb⟩
  replace oS := oS.below hb
  replace oC := oC.below hb
  replace bel := belowTo bel hb (by exact bel.size)
  clear hb cS0 cS1 cS2 cS3 cS4 cS5 cS6 fS zS cC0 cC1 fC zC
  obtain ⟨cS0, cS1, cS2, cS3, cS4, cS5, cS6, fS, zS⟩ := own7 oS
  obtain ⟨cC0, cC1, fC, zC⟩ := own2 oC
  go_wp2_with fail
  refine (tbound_lit true l h a k src he A N F _ Hhb.out).mono ?_
  rintro e w6 ⟨rfl, hb⟩
  replace oS := oS.below hb
  replace oC := oC.below hb
  replace bel := belowTo bel hb (by exact bel.size)
  clear hb cS0 cS1 cS2 cS3 cS4 cS5 cS6 fS zS cC0 cC1 fC zC
  obtain ⟨cS0, cS1, cS2, cS3, cS4, cS5, cS6, fS, zS⟩ := own7 oS
  obtain ⟨cC0, cC1, fC, zC⟩ := own2 oC
  go_wp2_with fail
  refine (bgrow_lit l h a A X Y Z K _ Hhg.out).mono ?_
  rintro e w7 ⟨rfl, hb⟩
  replace oS := oS.below hb
  replace oC := oC.below hb
  replace bel := belowTo bel hb (by exact bel.size)
  clear hb cS0 cS1 cS2 cS3 cS4 cS5 cS6 fS zS cC0 cC1 fC zC
  obtain ⟨cS0, cS1, cS2, cS3, cS4, cS5, cS6, fS, zS⟩ := own7 oS
  obtain ⟨cC0, cC1, fC, zC⟩ := own2 oC
  go_wp2_with fail
  have oG : Own (w7.alloc (Obj.cells #[.int .i64 X, .int .i64 Y, .int .i64 Z] 23)) w7.heap.size [.int .i64 X, .int .i64 Y, .int .i64 Z] 23 := own_at _ _ rfl
  replace oS := oS.alloc (Obj.cells #[.int .i64 X, .int .i64 Y, .int .i64 Z] 23)
  replace oC := oC.alloc (Obj.cells #[.int .i64 X, .int .i64 Y, .int .i64 Z] 23)
  replace bel := bel.alloc bel.size (Obj.cells #[.int .i64 X, .int .i64 Y, .int .i64 Z] 23)
  clear cS0 cS1 cS2 cS3 cS4 cS5 cS6 fS zS cC0 cC1 fC zC
  generalize w7.alloc (Obj.cells #[.int .i64 X, .int .i64 Y, .int .i64 Z] 23) = w8 at oS oC oG bel ⊢
  obtain ⟨cS0, cS1, cS2, cS3, cS4, cS5, cS6, fS, zS⟩ := own7 oS
  obtain ⟨cC0, cC1, fC, zC⟩ := own2 oC
  obtain ⟨cG0, cG1, cG2, fG, zG⟩ := own3 oG
  go_wp2
  all_goals (go_ret; exact ⟨by first | rfl | simp_all, (by repeat (first | exact bel | refine Below.alloc ?_ (by have := bel.size; simp; omega) _))⟩)

set_option linter.unusedVariables false in
set_option maxRecDepth 100000 in
set_option maxHeartbeats 4000000 in
theorem timesyncEstimate_pos (l h a k src he o d t later A N X Y Z : Int) (w : World) (p1 : 0 ≤ t) (p2 : t ≤ 10000000000000) (p3 : 0 ≤ later) (p4 : later ≤ 10000000000000 - t) (v : vldT true l h a k src he = true) (r : (true && (k == 0)) = false) (ho : hoB l h a o d t = true) (hs : shN o d (t + later) = A ∧ shE o d (t + later) = 0) (b1 : -30000000000000 ≤ A) (b2 : A ≤ 30000000000000) (hb : bdN true l h a k src he A = N ∧ bdE true l h a k src he A = 0) (hg : grL l h a A = X ∧ grH l h a A = Y ∧ grA l h a A = Z ∧ grE l h a A = 0) (b3 : -20000000000000 ≤ X) (b4 : X ≤ 20000000000000) (b5 : -20000000000000 ≤ Y) (b6 : Y ≤ 20000000000000) (b7 : 0 ≤ N) (b8 : N ≤ 2000) (m0 : 0 ≤ X + Y) (m1 : t + later - (A + (X + Y) / 2) ≤ N) (m2 : A + (X + Y) / 2 - t - later ≤ N) :
    Calls Try.prog 10 #[.agg #[.bool true, .int .i64 l, .int .i64 h, .int .i64 a, .int .i64 k, .int .i64 src, .int .i64 he], .agg #[.int .i64 o, .int .i64 d], .int .i64 t, .int .i64 later] w fun e w' => e = .returned (.bool true) ∧ Below w.heap.size w w' := by
  have Hv := Lib.hid v
  clear v
  have Hr := Lib.hid r
  clear r
  have Hho := Lib.hid ho
  clear ho
  have Hhs := Lib.hid hs
  clear hs
  have Hhb := Lib.hid hb
  clear hb
  have Hhg := Lib.hid hg
  clear hg
  go_enter Try.func10, Try.ntmps10
  go_wp2_with fail
  refine (head_any _).mono ?_
  rintro e w1 ⟨rfl, hb⟩
  have oS : Own w1 w.heap.size [.bool true, .int .i64 l, .int .i64 h, .int .i64 a, .int .i64 k, .int .i64 src, .int .i64 he] 25 := ((own_at _ _ rfl).alloc _).below hb
  have oC : Own w1 (w.heap.size + 1) [.int .i64 o, .int .i64 d] 47 := (own_at _ _ (by simp)).below hb
  have bel := belowTo (((Below.refl w.heap.size w).alloc (by simp) _).alloc (by simp) _) hb (by simp; omega)
  clear hb 
  obtain ⟨cS0, cS1, cS2, cS3, cS4, cS5, cS6, fS, zS⟩ := own7 oS
  obtain ⟨cC0, cC1, fC, zC⟩ := own2 oC
  go_wp2_with fail
  refine (rtvalid_lit true l h a k src he true _ Hv.out).mono ?_
  rintro e w2 ⟨rfl, hb⟩
  replace oS := oS.below hb
  replace oC := oC.below hb
  replace bel := belowTo bel hb (by exact bel.size)
  clear hb cS0 cS1 cS2 cS3 cS4 cS5 cS6 fS zS cC0 cC1 fC zC
  obtain ⟨cS0, cS1, cS2, cS3, cS4, cS5, cS6, fS, zS⟩ := own7 oS
  obtain ⟨cC0, cC1, fC, zC⟩ := own2 oC
  go_wp2_with fail
  refine (rroot_lit true l h a k src he false _ Hr.out).mono ?_
  rintro e w3 ⟨rfl, hb⟩
  replace oS := oS.below hb
  replace oC := oC.below hb
  replace bel := belowTo bel hb (by exact bel.size)
  clear hb cS0 cS1 cS2 cS3 cS4 cS5 cS6 fS zS cC0 cC1 fC zC
  obtain ⟨cS0, cS1, cS2, cS3, cS4, cS5, cS6, fS, zS⟩ := own7 oS
  obtain ⟨cC0, cC1, fC, zC⟩ := own2 oC
  go_wp2_with fail
  refine (holds_lit true l h a k src he o d t true _ Hho.out).mono ?_
  rintro e w4 ⟨rfl, hb⟩
  replace oS := oS.below hb
  replace oC := oC.below hb
  replace bel := belowTo bel hb (by exact bel.size)
  clear hb cS0 cS1 cS2 cS3 cS4 cS5 cS6 fS zS cC0 cC1 fC zC
  obtain ⟨cS0, cS1, cS2, cS3, cS4, cS5, cS6, fS, zS⟩ := own7 oS
  obtain ⟨cC0, cC1, fC, zC⟩ := own2 oC
  go_wp2_with fail
  refine (show_lit o d (t + later) A 0 _ Hhs.out).mono ?_
  rintro e w5 ⟨rfl, hb⟩
  replace oS := oS.below hb
  replace oC := oC.below hb
  replace bel := belowTo bel hb (by exact bel.size)
  clear hb cS0 cS1 cS2 cS3 cS4 cS5 cS6 fS zS cC0 cC1 fC zC
  obtain ⟨cS0, cS1, cS2, cS3, cS4, cS5, cS6, fS, zS⟩ := own7 oS
  obtain ⟨cC0, cC1, fC, zC⟩ := own2 oC
  go_wp2_with fail
  refine (tbound_lit true l h a k src he A N 0 _ Hhb.out).mono ?_
  rintro e w6 ⟨rfl, hb⟩
  replace oS := oS.below hb
  replace oC := oC.below hb
  replace bel := belowTo bel hb (by exact bel.size)
  clear hb cS0 cS1 cS2 cS3 cS4 cS5 cS6 fS zS cC0 cC1 fC zC
  obtain ⟨cS0, cS1, cS2, cS3, cS4, cS5, cS6, fS, zS⟩ := own7 oS
  obtain ⟨cC0, cC1, fC, zC⟩ := own2 oC
  go_wp2_with fail
  refine (bgrow_lit l h a A X Y Z 0 _ Hhg.out).mono ?_
  rintro e w7 ⟨rfl, hb⟩
  replace oS := oS.below hb
  replace oC := oC.below hb
  replace bel := belowTo bel hb (by exact bel.size)
  clear hb cS0 cS1 cS2 cS3 cS4 cS5 cS6 fS zS cC0 cC1 fC zC
  obtain ⟨cS0, cS1, cS2, cS3, cS4, cS5, cS6, fS, zS⟩ := own7 oS
  obtain ⟨cC0, cC1, fC, zC⟩ := own2 oC
  go_wp2_with fail
  have oG : Own (w7.alloc (Obj.cells #[.int .i64 X, .int .i64 Y, .int .i64 Z] 23)) w7.heap.size [.int .i64 X, .int .i64 Y, .int .i64 Z] 23 := own_at _ _ rfl
  replace oS := oS.alloc (Obj.cells #[.int .i64 X, .int .i64 Y, .int .i64 Z] 23)
  replace oC := oC.alloc (Obj.cells #[.int .i64 X, .int .i64 Y, .int .i64 Z] 23)
  replace bel := bel.alloc bel.size (Obj.cells #[.int .i64 X, .int .i64 Y, .int .i64 Z] 23)
  clear cS0 cS1 cS2 cS3 cS4 cS5 cS6 fS zS cC0 cC1 fC zC
  generalize w7.alloc (Obj.cells #[.int .i64 X, .int .i64 Y, .int .i64 Z] 23) = w8 at oS oC oG bel ⊢
  obtain ⟨cS0, cS1, cS2, cS3, cS4, cS5, cS6, fS, zS⟩ := own7 oS
  obtain ⟨cC0, cC1, fC, zC⟩ := own2 oC
  obtain ⟨cG0, cG1, cG2, fG, zG⟩ := own3 oG
  go_wp2
  all_goals (go_ret; exact ⟨ret_bool (by first | rfl | (simp_all; done) | (simp; omega)), (by repeat (first | exact bel | refine Below.alloc ?_ (by have := bel.size; simp; omega) _))⟩)

set_option linter.unusedVariables false in
set_option maxRecDepth 100000 in
set_option maxHeartbeats 4000000 in
theorem timesyncEstimate_neg (l h a k src he o d t later A N X Y Z M Q : Int) (w : World) (p1 : 0 ≤ t) (p2 : t ≤ 10000000000000) (p3 : 0 ≤ later) (p4 : later ≤ 10000000000000 - t) (v : vldT true l h a k src he = true) (r : (true && (k == 0)) = false) (ho : hoB l h a o d t = true) (hs : shN o d (t + later) = A ∧ shE o d (t + later) = 0) (b1 : -30000000000000 ≤ A) (b2 : A ≤ 30000000000000) (hb : bdN true l h a k src he A = N ∧ bdE true l h a k src he A = 0) (hg : grL l h a A = X ∧ grH l h a A = Y ∧ grA l h a A = Z ∧ grE l h a A = 0) (b3 : -20000000000000 ≤ X) (b4 : X ≤ 20000000000000) (b5 : -20000000000000 ≤ Y) (b6 : Y ≤ 20000000000000) (b7 : 0 ≤ N) (b8 : N ≤ 2000) (m0 : X + Y < 0) (m3 : (X + Y - 1).tdiv 2 = M) (m4 : (X + Y).tdiv 2 = Q) (b9 : -20000000000000 ≤ M) (c1 : M ≤ 20000000000000) (c2 : -20000000000000 ≤ Q) (c3 : Q ≤ 20000000000000) (m1 : t + later - (A + M) ≤ N) (m2 : A + M - t - later ≤ N) :
    Calls Try.prog 10 #[.agg #[.bool true, .int .i64 l, .int .i64 h, .int .i64 a, .int .i64 k, .int .i64 src, .int .i64 he], .agg #[.int .i64 o, .int .i64 d], .int .i64 t, .int .i64 later] w fun e w' => e = .returned (.bool true) ∧ Below w.heap.size w w' := by
  have Hv := Lib.hid v
  clear v
  have Hr := Lib.hid r
  clear r
  have Hho := Lib.hid ho
  clear ho
  have Hhs := Lib.hid hs
  clear hs
  have Hhb := Lib.hid hb
  clear hb
  have Hhg := Lib.hid hg
  clear hg
  go_enter Try.func10, Try.ntmps10
  go_wp2_with fail
  refine (head_any _).mono ?_
  rintro e w1 ⟨rfl, hb⟩
  have oS : Own w1 w.heap.size [.bool true, .int .i64 l, .int .i64 h, .int .i64 a, .int .i64 k, .int .i64 src, .int .i64 he] 25 := ((own_at _ _ rfl).alloc _).below hb
  have oC : Own w1 (w.heap.size + 1) [.int .i64 o, .int .i64 d] 47 := (own_at _ _ (by simp)).below hb
  have bel := belowTo (((Below.refl w.heap.size w).alloc (by simp) _).alloc (by simp) _) hb (by simp; omega)
  clear hb 
  obtain ⟨cS0, cS1, cS2, cS3, cS4, cS5, cS6, fS, zS⟩ := own7 oS
  obtain ⟨cC0, cC1, fC, zC⟩ := own2 oC
  go_wp2_with fail
  refine (rtvalid_lit true l h a k src he true _ Hv.out).mono ?_
  rintro e w2 ⟨rfl, hb⟩
  replace oS := oS.below hb
  replace oC := oC.below hb
  replace bel := belowTo bel hb (by exact bel.size)
  clear hb cS0 cS1 cS2 cS3 cS4 cS5 cS6 fS zS cC0 cC1 fC zC
  obtain ⟨cS0, cS1, cS2, cS3, cS4, cS5, cS6, fS, zS⟩ := own7 oS
  obtain ⟨cC0, cC1, fC, zC⟩ := own2 oC
  go_wp2_with fail
  refine (rroot_lit true l h a k src he false _ Hr.out).mono ?_
  rintro e w3 ⟨rfl, hb⟩
  replace oS := oS.below hb
  replace oC := oC.below hb
  replace bel := belowTo bel hb (by exact bel.size)
  clear hb cS0 cS1 cS2 cS3 cS4 cS5 cS6 fS zS cC0 cC1 fC zC
  obtain ⟨cS0, cS1, cS2, cS3, cS4, cS5, cS6, fS, zS⟩ := own7 oS
  obtain ⟨cC0, cC1, fC, zC⟩ := own2 oC
  go_wp2_with fail
  refine (holds_lit true l h a k src he o d t true _ Hho.out).mono ?_
  rintro e w4 ⟨rfl, hb⟩
  replace oS := oS.below hb
  replace oC := oC.below hb
  replace bel := belowTo bel hb (by exact bel.size)
  clear hb cS0 cS1 cS2 cS3 cS4 cS5 cS6 fS zS cC0 cC1 fC zC
  obtain ⟨cS0, cS1, cS2, cS3, cS4, cS5, cS6, fS, zS⟩ := own7 oS
  obtain ⟨cC0, cC1, fC, zC⟩ := own2 oC
  go_wp2_with fail
  refine (show_lit o d (t + later) A 0 _ Hhs.out).mono ?_
  rintro e w5 ⟨rfl, hb⟩
  replace oS := oS.below hb
  replace oC := oC.below hb
  replace bel := belowTo bel hb (by exact bel.size)
  clear hb cS0 cS1 cS2 cS3 cS4 cS5 cS6 fS zS cC0 cC1 fC zC
  obtain ⟨cS0, cS1, cS2, cS3, cS4, cS5, cS6, fS, zS⟩ := own7 oS
  obtain ⟨cC0, cC1, fC, zC⟩ := own2 oC
  go_wp2_with fail
  refine (tbound_lit true l h a k src he A N 0 _ Hhb.out).mono ?_
  rintro e w6 ⟨rfl, hb⟩
  replace oS := oS.below hb
  replace oC := oC.below hb
  replace bel := belowTo bel hb (by exact bel.size)
  clear hb cS0 cS1 cS2 cS3 cS4 cS5 cS6 fS zS cC0 cC1 fC zC
  obtain ⟨cS0, cS1, cS2, cS3, cS4, cS5, cS6, fS, zS⟩ := own7 oS
  obtain ⟨cC0, cC1, fC, zC⟩ := own2 oC
  go_wp2_with fail
  refine (bgrow_lit l h a A X Y Z 0 _ Hhg.out).mono ?_
  rintro e w7 ⟨rfl, hb⟩
  replace oS := oS.below hb
  replace oC := oC.below hb
  replace bel := belowTo bel hb (by exact bel.size)
  clear hb cS0 cS1 cS2 cS3 cS4 cS5 cS6 fS zS cC0 cC1 fC zC
  obtain ⟨cS0, cS1, cS2, cS3, cS4, cS5, cS6, fS, zS⟩ := own7 oS
  obtain ⟨cC0, cC1, fC, zC⟩ := own2 oC
  go_wp2_with fail
  have oG : Own (w7.alloc (Obj.cells #[.int .i64 X, .int .i64 Y, .int .i64 Z] 23)) w7.heap.size [.int .i64 X, .int .i64 Y, .int .i64 Z] 23 := own_at _ _ rfl
  replace oS := oS.alloc (Obj.cells #[.int .i64 X, .int .i64 Y, .int .i64 Z] 23)
  replace oC := oC.alloc (Obj.cells #[.int .i64 X, .int .i64 Y, .int .i64 Z] 23)
  replace bel := bel.alloc bel.size (Obj.cells #[.int .i64 X, .int .i64 Y, .int .i64 Z] 23)
  clear cS0 cS1 cS2 cS3 cS4 cS5 cS6 fS zS cC0 cC1 fC zC
  generalize w7.alloc (Obj.cells #[.int .i64 X, .int .i64 Y, .int .i64 Z] 23) = w8 at oS oC oG bel ⊢
  obtain ⟨cS0, cS1, cS2, cS3, cS4, cS5, cS6, fS, zS⟩ := own7 oS
  obtain ⟨cC0, cC1, fC, zC⟩ := own2 oC
  obtain ⟨cG0, cG1, cG2, fG, zG⟩ := own3 oG
  go_wp2
  all_goals (go_ret; exact ⟨ret_bool (by first | rfl | (simp_all; done) | (simp; omega)), (by repeat (first | exact bel | refine Below.alloc ?_ (by have := bel.size; simp; omega) _))⟩)

theorem timesyncEstimate_walk (sy : Bool) (l h a k src he o d t later : Int) (w : World) (_0 : IntKind.i64.has l) (_1 : IntKind.i64.has h) (_2 : IntKind.i64.has a) (_3 : IntKind.i64.has k) (_4 : IntKind.i64.has src) (_5 : IntKind.i64.has he) (_6 : IntKind.i64.has o) (_7 : IntKind.i64.has d) (_8 : IntKind.i64.has t) (_9 : IntKind.i64.has later) :
    Calls Try.prog 10 #[.agg #[.bool sy, .int .i64 l, .int .i64 h, .int .i64 a, .int .i64 k, .int .i64 src, .int .i64 he], .agg #[.int .i64 o, .int .i64 d], .int .i64 t, .int .i64 later] w fun e w' => e = .returned (.bool true) ∧ Below w.heap.size w w' := by
  by_cases p1 : 0 ≤ t
  · by_cases p2 : t ≤ 10000000000000
    · by_cases p3 : 0 ≤ later
      · by_cases p4 : later ≤ 10000000000000 - t
        · cases v : vldT sy l h a k src he with
          | false =>
            cases sy with
            | false => exact timesyncEstimate_bad_false l h a k src he o d t later w p1 p2 p3 p4 v
            | true => exact timesyncEstimate_bad_true l h a k src he o d t later w p1 p2 p3 p4 v
          | true =>
            cases sy with
            | false => exact timesyncEstimate_off l h a k src he o d t later w p1 p2 p3 p4 v
            | true =>
              by_cases hk : k = 0
              · exact timesyncEstimate_root l h a k src he o d t later w p1 p2 p3 p4 v (by simp [hk])
              · have r : (true && (k == 0)) = false := by simpa using hk
                cases ho : hoB l h a o d t with
                | false => exact timesyncEstimate_not l h a k src he o d t later w p1 p2 p3 p4 v r ho
                | true =>
                  have ho' : hoP l h a o d t := by
                    simp only [hoB, Bool.and_eq_true, truB_iff] at ho
                    exact ⟨ho.1, ho.2.1, ho.2.2.1, ho.2.2.2⟩
                  obtain ⟨⟨v1, v2, v3, v4⟩, v5, v6⟩ := okS_iff.1 ho'.1
                  have oks : okS o d (t + later) = true := okS_iff.2 ⟨⟨v1, v2, v3, v4⟩, by omega, by omega⟩
                  obtain ⟨s1, s2⟩ := sh_yes oks
                  have hb := at_bd (o := o) (d := d) v1 v2 v3 v4 (show -1 ≤ t + later by omega) (by omega)
                  by_cases e : bdE true l h a k src he (atI o d (t + later)) = 0
                  · obtain ⟨g, m1, m2⟩ := estimate_ok hk ho' p3 e
                    obtain ⟨n1, n2⟩ := bdN_rng l h a k src he _ e
                    obtain ⟨_, kr, e1, e2, e3⟩ := gr_zero g
                    unfold okR at kr
                    rw [vldS_iff] at kr
                    rw [e1, e2] at m1 m2
                    by_cases m0 : 0 ≤ l - gm (atI o d (t + later) - a) + (h + gm (atI o d (t + later) - a))
                    · exact timesyncEstimate_pos l h a k src he o d t later _ _ _ _ _ w p1 p2 p3 p4 v r ho ⟨s2, s1⟩ (by omega) (by omega) ⟨rfl, e⟩ ⟨e1, e2, e3, g⟩ (by omega) (by omega) (by omega) (by omega) n1 n2 m0 m1 m2
                    · have td : ∀ x : Int, x < 0 → x.tdiv 2 = -((-x) / 2) := fun x hx => by
                        obtain ⟨y, rfl⟩ : ∃ y, x = -y := ⟨-x, by omega⟩
                        rw [Int.neg_tdiv, Int.tdiv_eq_ediv_of_nonneg (by omega)]; simp
                      exact timesyncEstimate_neg l h a k src he o d t later _ _ _ _ _ _ _ w p1 p2 p3 p4 v r ho ⟨s2, s1⟩ (by omega) (by omega) ⟨rfl, e⟩ ⟨e1, e2, e3, g⟩ (by omega) (by omega) (by omega) (by omega) n1 n2 (by omega) (td _ (by omega)) (td _ (by omega)) (by omega) (by omega) (by omega) (by omega) (by omega) (by omega)
                  · by_cases g : grE l h a (atI o d (t + later)) = 0
                    · have f6 : bdE true l h a k src he (atI o d (t + later)) = 16 := by
                        by_cases q : 2000 < hafT l h a (atI o d (t + later))
                        · exact bd_late v hk g q
                        · exact absurd (bd_mk v hk g (by omega)) e
                      exact timesyncEstimate_err2 l h a k src he o d t later _ _ _ _ _ _ _ w p1 p2 p3 p4 v r ho ⟨s2, s1⟩ (by omega) (by omega) ⟨rfl, f6⟩ ⟨rfl, rfl, rfl, g⟩ (by decide) (by decide) (by decide) (by decide)
                    · have f6 := bd_gr v hk g
                      exact timesyncEstimate_err1 l h a k src he o d t later _ _ _ _ _ _ _ w p1 p2 p3 p4 v r ho ⟨s2, s1⟩ (by omega) (by omega) ⟨rfl, f6⟩ ⟨rfl, rfl, rfl, rfl⟩ (by simpa using g) (by simpa using g) (by simp)
        · exact timesyncEstimate_r4 sy l h a k src he o d t later w p1 p2 (by omega)
      · exact timesyncEstimate_r1 sy l h a k src he o d t later w (by omega)
    · exact timesyncEstimate_r3 sy l h a k src he o d t later w (by omega)
  · exact timesyncEstimate_r2 sy l h a k src he o d t later w (by omega)

end Go.Proofs.Ytfclodgfifbfbaa

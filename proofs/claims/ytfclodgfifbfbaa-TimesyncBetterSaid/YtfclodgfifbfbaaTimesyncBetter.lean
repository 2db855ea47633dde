/- TimesyncBetter: the walk of the law. It returns true for every input, and leaves old memory alone. -/
import Derived.Test.YtfclodgfifbfbaaHead09
import Derived.Test.YtfclodgfifbfbaaIs09
import Derived.Test.YtfclodgfifbfbaaPlain10b
import Derived.Test.YtfclodgfifbfbaaHeard
import Derived.Test.YtfclodgfifbfbaaBetter09
namespace Go.Proofs.Ytfclodgfifbfbaa
open Go.RowKit

set_option linter.unusedVariables false in
set_option maxRecDepth 100000 in
set_option maxHeartbeats 4000000 in
theorem timesyncBetter_bad_true (l h a k src he f p b s c : Int) (w : World) (v : vldT true l h a k src he = false)  :
    Calls Try.prog 6 #[.agg #[.bool true, .int .i64 l, .int .i64 h, .int .i64 a, .int .i64 k, .int .i64 src, .int .i64 he], .agg #[.int .i64 f, .int .i64 p, .int .i64 b, .int .i64 s, .int .i64 c]] w fun e w' => e = .returned (.bool true) ∧ Below w.heap.size w w' := by
  have Hv := Lib.hid v
  clear v
  go_enter Try.func6, Try.ntmps6
  go_wp2_with fail
  refine (head_any _).mono ?_
  rintro e w1 ⟨rfl, hb⟩
  have oS : Own w1 w.heap.size [.bool true, .int .i64 l, .int .i64 h, .int .i64 a, .int .i64 k, .int .i64 src, .int .i64 he] 25 := ((own_at _ _ rfl).alloc _).below hb
  have oH : Own w1 (w.heap.size + 1) [.int .i64 f, .int .i64 p, .int .i64 b, .int .i64 s, .int .i64 c] 27 := (own_at _ _ (by simp)).below hb
  have bel := belowTo (((Below.refl w.heap.size w).alloc (by simp) _).alloc (by simp) _) hb (by simp; omega)
  clear hb 
  obtain ⟨cS0, cS1, cS2, cS3, cS4, cS5, cS6, fS, zS⟩ := own7 oS
  obtain ⟨cH0, cH1, cH2, cH3, cH4, fH, zH⟩ := own5t oH
  go_wp2_with fail
  refine (rtvalid_lit true l h a k src he false _ Hv.out).mono ?_
  rintro e w2 ⟨rfl, hb⟩
  replace oS := oS.below hb
  replace oH := oH.below hb
  replace bel := belowTo bel hb (by exact bel.size)
  clear hb cS0 cS1 cS2 cS3 cS4 cS5 cS6 fS zS cH0 cH1 cH2 cH3 cH4 fH zH
  obtain ⟨cS0, cS1, cS2, cS3, cS4, cS5, cS6, fS, zS⟩ := own7 oS
  obtain ⟨cH0, cH1, cH2, cH3, cH4, fH, zH⟩ := own5t oH
  go_wp2
  all_goals (go_ret; exact ⟨by first | rfl | simp_all, (by repeat (first | exact bel | refine Below.alloc ?_ (by have := bel.size; simp; omega) _))⟩)

set_option linter.unusedVariables false in
set_option maxRecDepth 100000 in
set_option maxHeartbeats 4000000 in
theorem timesyncBetter_bad_false (l h a k src he f p b s c : Int) (w : World) (v : vldT false l h a k src he = false)  :
    Calls Try.prog 6 #[.agg #[.bool false, .int .i64 l, .int .i64 h, .int .i64 a, .int .i64 k, .int .i64 src, .int .i64 he], .agg #[.int .i64 f, .int .i64 p, .int .i64 b, .int .i64 s, .int .i64 c]] w fun e w' => e = .returned (.bool true) ∧ Below w.heap.size w w' := by
  have Hv := Lib.hid v
  clear v
  go_enter Try.func6, Try.ntmps6
  go_wp2_with fail
  refine (head_any _).mono ?_
  rintro e w1 ⟨rfl, hb⟩
  have oS : Own w1 w.heap.size [.bool false, .int .i64 l, .int .i64 h, .int .i64 a, .int .i64 k, .int .i64 src, .int .i64 he] 25 := ((own_at _ _ rfl).alloc _).below hb
  have oH : Own w1 (w.heap.size + 1) [.int .i64 f, .int .i64 p, .int .i64 b, .int .i64 s, .int .i64 c] 27 := (own_at _ _ (by simp)).below hb
  have bel := belowTo (((Below.refl w.heap.size w).alloc (by simp) _).alloc (by simp) _) hb (by simp; omega)
  clear hb 
  obtain ⟨cS0, cS1, cS2, cS3, cS4, cS5, cS6, fS, zS⟩ := own7 oS
  obtain ⟨cH0, cH1, cH2, cH3, cH4, fH, zH⟩ := own5t oH
  go_wp2_with fail
  refine (rtvalid_lit false l h a k src he false _ Hv.out).mono ?_
  rintro e w2 ⟨rfl, hb⟩
  replace oS := oS.below hb
  replace oH := oH.below hb
  replace bel := belowTo bel hb (by exact bel.size)
  clear hb cS0 cS1 cS2 cS3 cS4 cS5 cS6 fS zS cH0 cH1 cH2 cH3 cH4 fH zH
  obtain ⟨cS0, cS1, cS2, cS3, cS4, cS5, cS6, fS, zS⟩ := own7 oS
  obtain ⟨cH0, cH1, cH2, cH3, cH4, fH, zH⟩ := own5t oH
  go_wp2
  all_goals (go_ret; exact ⟨by first | rfl | simp_all, (by repeat (first | exact bel | refine Below.alloc ?_ (by have := bel.size; simp; omega) _))⟩)

set_option linter.unusedVariables false in
set_option maxRecDepth 100000 in
set_option maxHeartbeats 4000000 in
theorem timesyncBetter_off (l h a k src he f p b s c : Int) (w : World) (v : vldT false l h a k src he = true)  :
    Calls Try.prog 6 #[.agg #[.bool false, .int .i64 l, .int .i64 h, .int .i64 a, .int .i64 k, .int .i64 src, .int .i64 he], .agg #[.int .i64 f, .int .i64 p, .int .i64 b, .int .i64 s, .int .i64 c]] w fun e w' => e = .returned (.bool true) ∧ Below w.heap.size w w' := by
  have Hv := Lib.hid v
  clear v
  go_enter Try.func6, Try.ntmps6
  go_wp2_with fail
  refine (head_any _).mono ?_
  rintro e w1 ⟨rfl, hb⟩
  have oS : Own w1 w.heap.size [.bool false, .int .i64 l, .int .i64 h, .int .i64 a, .int .i64 k, .int .i64 src, .int .i64 he] 25 := ((own_at _ _ rfl).alloc _).below hb
  have oH : Own w1 (w.heap.size + 1) [.int .i64 f, .int .i64 p, .int .i64 b, .int .i64 s, .int .i64 c] 27 := (own_at _ _ (by simp)).below hb
  have bel := belowTo (((Below.refl w.heap.size w).alloc (by simp) _).alloc (by simp) _) hb (by simp; omega)
  clear hb 
  obtain ⟨cS0, cS1, cS2, cS3, cS4, cS5, cS6, fS, zS⟩ := own7 oS
  obtain ⟨cH0, cH1, cH2, cH3, cH4, fH, zH⟩ := own5t oH
  go_wp2_with fail
  refine (rtvalid_lit false l h a k src he true _ Hv.out).mono ?_
  rintro e w2 ⟨rfl, hb⟩
  replace oS := oS.below hb
  replace oH := oH.below hb
  replace bel := belowTo bel hb (by exact bel.size)
  clear hb cS0 cS1 cS2 cS3 cS4 cS5 cS6 fS zS cH0 cH1 cH2 cH3 cH4 fH zH
  obtain ⟨cS0, cS1, cS2, cS3, cS4, cS5, cS6, fS, zS⟩ := own7 oS
  obtain ⟨cH0, cH1, cH2, cH3, cH4, fH, zH⟩ := own5t oH
  go_wp2
  all_goals (go_ret; exact ⟨by first | rfl | simp_all, (by repeat (first | exact bel | refine Below.alloc ?_ (by have := bel.size; simp; omega) _))⟩)

set_option linter.unusedVariables false in
set_option maxRecDepth 100000 in
set_option maxHeartbeats 4000000 in
theorem timesyncBetter_root (l h a k src he f p b s c : Int) (w : World) (v : vldT true l h a k src he = true) (r : (true && (k == 0)) = true)  :
    Calls Try.prog 6 #[.agg #[.bool true, .int .i64 l, .int .i64 h, .int .i64 a, .int .i64 k, .int .i64 src, .int .i64 he], .agg #[.int .i64 f, .int .i64 p, .int .i64 b, .int .i64 s, .int .i64 c]] w fun e w' => e = .returned (.bool true) ∧ Below w.heap.size w w' := by
  have Hv := Lib.hid v
  clear v
  have Hr := Lib.hid r
  clear r
  go_enter Try.func6, Try.ntmps6
  go_wp2_with fail
  refine (head_any _).mono ?_
  rintro e w1 ⟨rfl, hb⟩
  have oS : Own w1 w.heap.size [.bool true, .int .i64 l, .int .i64 h, .int .i64 a, .int .i64 k, .int .i64 src, .int .i64 he] 25 := ((own_at _ _ rfl).alloc _).below hb
  have oH : Own w1 (w.heap.size + 1) [.int .i64 f, .int .i64 p, .int .i64 b, .int .i64 s, .int .i64 c] 27 := (own_at _ _ (by simp)).below hb
  have bel := belowTo (((Below.refl w.heap.size w).alloc (by simp) _).alloc (by simp) _) hb (by simp; omega)
  clear hb 
  obtain ⟨cS0, cS1, cS2, cS3, cS4, cS5, cS6, fS, zS⟩ := own7 oS
  obtain ⟨cH0, cH1, cH2, cH3, cH4, fH, zH⟩ := own5t oH
  go_wp2_with fail
  refine (rtvalid_lit true l h a k src he true _ Hv.out).mono ?_
  rintro e w2 ⟨rfl, hb⟩
  replace oS := oS.below hb
  replace oH := oH.below hb
  replace bel := belowTo bel hb (by exact bel.size)
  clear hb cS0 cS1 cS2 cS3 cS4 cS5 cS6 fS zS cH0 cH1 cH2 cH3 cH4 fH zH
  obtain ⟨cS0, cS1, cS2, cS3, cS4, cS5, cS6, fS, zS⟩ := own7 oS
  obtain ⟨cH0, cH1, cH2, cH3, cH4, fH, zH⟩ := own5t oH
  go_wp2_with fail
  refine (rroot_lit true l h a k src he true _ Hr.out).mono ?_
  rintro e w3 ⟨rfl, hb⟩
  replace oS := oS.below hb
  replace oH := oH.below hb
  replace bel := belowTo bel hb (by exact bel.size)
  clear hb cS0 cS1 cS2 cS3 cS4 cS5 cS6 fS zS cH0 cH1 cH2 cH3 cH4 fH zH
  obtain ⟨cS0, cS1, cS2, cS3, cS4, cS5, cS6, fS, zS⟩ := own7 oS
  obtain ⟨cH0, cH1, cH2, cH3, cH4, fH, zH⟩ := own5t oH
  go_wp2
  all_goals (go_ret; exact ⟨by first | rfl | simp_all, (by repeat (first | exact bel | refine Below.alloc ?_ (by have := bel.size; simp; omega) _))⟩)

set_option linter.unusedVariables false in
set_option maxRecDepth 100000 in
set_option maxHeartbeats 4000000 in
theorem timesyncBetter_err (l h a k src he f p b s c X1 X2 X3 X4 X5 X6 E : Int) (Y : Bool) (w : World) (v : vldT true l h a k src he = true) (r : (true && (k == 0)) = false) (q : HearIs true l h a k src he f p b s c Y X1 X2 X3 X4 X5 X6 E) (e0 : (E == 0) = false) (e1 : (E != 0) = true) :
    Calls Try.prog 6 #[.agg #[.bool true, .int .i64 l, .int .i64 h, .int .i64 a, .int .i64 k, .int .i64 src, .int .i64 he], .agg #[.int .i64 f, .int .i64 p, .int .i64 b, .int .i64 s, .int .i64 c]] w fun e w' => e = .returned (.bool true) ∧ Below w.heap.size w w' := by
  have Hv := Lib.hid v
  clear v
  have Hr := Lib.hid r
  clear r
  have Hq := Lib.hid q
  clear q
  go_enter Try.func6, Try.ntmps6
  go_wp2_with fail
  refine (head_any _).mono ?_
  rintro e w1 ⟨rfl, hb⟩
  have oS : Own w1 w.heap.size [.bool true, .int .i64 l, .int .i64 h, .int .i64 a, .int .i64 k, .int .i64 src, .int .i64 he] 25 := ((own_at _ _ rfl).alloc _).below hb
  have oH : Own w1 (w.heap.size + 1) [.int .i64 f, .int .i64 p, .int .i64 b, .int .i64 s, .int .i64 c] 27 := (own_at _ _ (by simp)).below hb
  have bel := belowTo (((Below.refl w.heap.size w).alloc (by simp) _).alloc (by simp) _) hb (by simp; omega)
  clear hb 
  obtain ⟨cS0, cS1, cS2, cS3, cS4, cS5, cS6, fS, zS⟩ := own7 oS
  obtain ⟨cH0, cH1, cH2, cH3, cH4, fH, zH⟩ := own5t oH
  go_wp2_with fail
  refine (rtvalid_lit true l h a k src he true _ Hv.out).mono ?_
  rintro e w2 ⟨rfl, hb⟩
  replace oS := oS.below hb
  replace oH := oH.below hb
  replace bel := belowTo bel hb (by exact bel.size)
  clear hb cS0 cS1 cS2 cS3 cS4 cS5 cS6 fS zS cH0 cH1 cH2 cH3 cH4 fH zH
  obtain ⟨cS0, cS1, cS2, cS3, cS4, cS5, cS6, fS, zS⟩ := own7 oS
  obtain ⟨cH0, cH1, cH2, cH3, cH4, fH, zH⟩ := own5t oH
  go_wp2_with fail
  refine (rroot_lit true l h a k src he false _ Hr.out).mono ?_
  rintro e w3 ⟨rfl, hb⟩
  replace oS := oS.below hb
  replace oH := oH.below hb
  replace bel := belowTo bel hb (by exact bel.size)
  clear hb cS0 cS1 cS2 cS3 cS4 cS5 cS6 fS zS cH0 cH1 cH2 cH3 cH4 fH zH
  obtain ⟨cS0, cS1, cS2, cS3, cS4, cS5, cS6, fS, zS⟩ := own7 oS
  obtain ⟨cH0, cH1, cH2, cH3, cH4, fH, zH⟩ := own5t oH
  go_wp2_with fail
  refine (hear_lit true l h a k src he f p b s c Y X1 X2 X3 X4 X5 X6 E _ Hq.out).mono ?_
  rintro e w4 ⟨rfl, hb⟩
  replace oS := oS.below hb
  replace oH := oH.below hb
  replace bel := belowTo bel hb (by exact bel.size)
  clear hb cS0 cS1 cS2 cS3 cS4 cS5 cS6 fS zS cH0 cH1 cH2 cH3 cH4 fH zH
  obtain ⟨cS0, cS1, cS2, cS3, cS4, cS5, cS6, fS, zS⟩ := own7 oS
  obtain ⟨cH0, cH1, cH2, cH3, cH4, fH, zH⟩ := own5t oH
  go_wp2_with fail
  have oX : Own (w4.alloc (Obj.cells #[.bool Y, .int .i64 X1, .int .i64 X2, .int .i64 X3, .int .i64 X4, .int .i64 X5, .int .i64 X6] 25)) w4.heap.size [.bool Y, .int .i64 X1, .int .i64 X2, .int .i64 X3, .int .i64 X4, .int .i64 X5, .int .i64 X6] 25 := own_at _ _ rfl
  replace oS := oS.alloc (Obj.cells #[.bool Y, .int .i64 X1, .int .i64 X2, .int .i64 X3, .int .i64 X4, .int .i64 X5, .int .i64 X6] 25)
  replace oH := oH.alloc (Obj.cells #[.bool Y, .int .i64 X1, .int .i64 X2, .int .i64 X3, .int .i64 X4, .int .i64 X5, .int .i64 X6] 25)
  replace bel := bel.alloc bel.size (Obj.cells #[.bool Y, .int .i64 X1, .int .i64 X2, .int .i64 X3, .int .i64 X4, .int .i64 X5, .int .i64 X6] 25)
  clear cS0 cS1 cS2 cS3 cS4 cS5 cS6 fS zS cH0 cH1 cH2 cH3 cH4 fH zH
  generalize w4.alloc (Obj.cells #[.bool Y, .int .i64 X1, .int .i64 X2, .int .i64 X3, .int .i64 X4, .int .i64 X5, .int .i64 X6] 25) = w5 at oS oH oX bel ⊢
  obtain ⟨cS0, cS1, cS2, cS3, cS4, cS5, cS6, fS, zS⟩ := own7 oS
  obtain ⟨cH0, cH1, cH2, cH3, cH4, fH, zH⟩ := own5t oH
  obtain ⟨cX0, cX1, cX2, cX3, cX4, cX5, cX6, fX, zX⟩ := own7 oX
  go_wp2
  all_goals (go_ret; exact ⟨by first | rfl | simp_all, (by repeat (first | exact bel | refine Below.alloc ?_ (by have := bel.size; simp; omega) _))⟩)

set_option linter.unusedVariables false in
set_option maxRecDepth 100000 in
set_option maxHeartbeats 4000000 in
theorem timesyncBetter_same (l h a k src he f p b s c X1 X2 X3 X4 X5 X6 : Int) (Y : Bool) (w : World) (v : vldT true l h a k src he = true) (r : (true && (k == 0)) = false) (q : HearIs true l h a k src he f p b s c Y X1 X2 X3 X4 X5 X6 0) (x : tsB Y X1 X2 X3 X4 X5 X6 true l h a k src he = true) :
    Calls Try.prog 6 #[.agg #[.bool true, .int .i64 l, .int .i64 h, .int .i64 a, .int .i64 k, .int .i64 src, .int .i64 he], .agg #[.int .i64 f, .int .i64 p, .int .i64 b, .int .i64 s, .int .i64 c]] w fun e w' => e = .returned (.bool true) ∧ Below w.heap.size w w' := by
  have e1 := eq_ts_lit Y X1 X2 X3 X4 X5 X6 true l h a k src he x
  have Hv := Lib.hid v
  clear v
  have Hr := Lib.hid r
  clear r
  have Hq := Lib.hid q
  clear q
  have Hx := Lib.hid x
  clear x
  go_enter Try.func6, Try.ntmps6
  go_wp2_with fail
  refine (head_any _).mono ?_
  rintro e w1 ⟨rfl, hb⟩
  have oS : Own w1 w.heap.size [.bool true, .int .i64 l, .int .i64 h, .int .i64 a, .int .i64 k, .int .i64 src, .int .i64 he] 25 := ((own_at _ _ rfl).alloc _).below hb
  have oH : Own w1 (w.heap.size + 1) [.int .i64 f, .int .i64 p, .int .i64 b, .int .i64 s, .int .i64 c] 27 := (own_at _ _ (by simp)).below hb
  have bel := belowTo (((Below.refl w.heap.size w).alloc (by simp) _).alloc (by simp) _) hb (by simp; omega)
  clear hb 
  obtain ⟨cS0, cS1, cS2, cS3, cS4, cS5, cS6, fS, zS⟩ := own7 oS
  obtain ⟨cH0, cH1, cH2, cH3, cH4, fH, zH⟩ := own5t oH
  go_wp2_with fail
  refine (rtvalid_lit true l h a k src he true _ Hv.out).mono ?_
  rintro e w2 ⟨rfl, hb⟩
  replace oS := oS.below hb
  replace oH := oH.below hb
  replace bel := belowTo bel hb (by exact bel.size)
  clear hb cS0 cS1 cS2 cS3 cS4 cS5 cS6 fS zS cH0 cH1 cH2 cH3 cH4 fH zH
  obtain ⟨cS0, cS1, cS2, cS3, cS4, cS5, cS6, fS, zS⟩ := own7 oS
  obtain ⟨cH0, cH1, cH2, cH3, cH4, fH, zH⟩ := own5t oH
  go_wp2_with fail
  refine (rroot_lit true l h a k src he false _ Hr.out).mono ?_
  rintro e w3 ⟨rfl, hb⟩
  replace oS := oS.below hb
  replace oH := oH.below hb
  replace bel := belowTo bel hb (by exact bel.size)
  clear hb cS0 cS1 cS2 cS3 cS4 cS5 cS6 fS zS cH0 cH1 cH2 cH3 cH4 fH zH
  obtain ⟨cS0, cS1, cS2, cS3, cS4, cS5, cS6, fS, zS⟩ := own7 oS
  obtain ⟨cH0, cH1, cH2, cH3, cH4, fH, zH⟩ := own5t oH
  go_wp2_with fail
  refine (hear_lit true l h a k src he f p b s c Y X1 X2 X3 X4 X5 X6 0 _ Hq.out).mono ?_
  rintro e w4 ⟨rfl, hb⟩
  replace oS := oS.below hb
  replace oH := oH.below hb
  replace bel := belowTo bel hb (by exact bel.size)
  clear hb cS0 cS1 cS2 cS3 cS4 cS5 cS6 fS zS cH0 cH1 cH2 cH3 cH4 fH zH
  obtain ⟨cS0, cS1, cS2, cS3, cS4, cS5, cS6, fS, zS⟩ := own7 oS
  obtain ⟨cH0, cH1, cH2, cH3, cH4, fH, zH⟩ := own5t oH
  go_wp2_with fail
  have oX : Own (w4.alloc (Obj.cells #[.bool Y, .int .i64 X1, .int .i64 X2, .int .i64 X3, .int .i64 X4, .int .i64 X5, .int .i64 X6] 25)) w4.heap.size [.bool Y, .int .i64 X1, .int .i64 X2, .int .i64 X3, .int .i64 X4, .int .i64 X5, .int .i64 X6] 25 := own_at _ _ rfl
  replace oS := oS.alloc (Obj.cells #[.bool Y, .int .i64 X1, .int .i64 X2, .int .i64 X3, .int .i64 X4, .int .i64 X5, .int .i64 X6] 25)
  replace oH := oH.alloc (Obj.cells #[.bool Y, .int .i64 X1, .int .i64 X2, .int .i64 X3, .int .i64 X4, .int .i64 X5, .int .i64 X6] 25)
  replace bel := bel.alloc bel.size (Obj.cells #[.bool Y, .int .i64 X1, .int .i64 X2, .int .i64 X3, .int .i64 X4, .int .i64 X5, .int .i64 X6] 25)
  clear cS0 cS1 cS2 cS3 cS4 cS5 cS6 fS zS cH0 cH1 cH2 cH3 cH4 fH zH
  generalize w4.alloc (Obj.cells #[.bool Y, .int .i64 X1, .int .i64 X2, .int .i64 X3, .int .i64 X4, .int .i64 X5, .int .i64 X6] 25) = w5 at oS oH oX bel ⊢
  obtain ⟨cS0, cS1, cS2, cS3, cS4, cS5, cS6, fS, zS⟩ := own7 oS
  obtain ⟨cH0, cH1, cH2, cH3, cH4, fH, zH⟩ := own5t oH
  obtain ⟨cX0, cX1, cX2, cX3, cX4, cX5, cX6, fX, zX⟩ := own7 oX
  go_wp2
  all_goals (go_ret; exact ⟨by first | rfl | simp_all, (by repeat (first | exact bel | refine Below.alloc ?_ (by have := bel.size; simp; omega) _))⟩)

set_option linter.unusedVariables false in
set_option maxRecDepth 100000 in
set_option maxHeartbeats 4000000 in
theorem timesyncBetter_early (l h a k src he f p b s c M P U V A GL GH : Int) (w : World) (v : vldT true l h a k src he = true) (r : (true && (k == 0)) = false) (q : HearIs true l h a k src he f p b s c true M P A (p + 1) f s 0) (x : tsB true M P A (p + 1) f s true l h a k src he = false) (b1 : 0 ≤ p) (b2 : p < 60) (d : heL s b c = U ∧ heH s b c = V ∧ heA s b c = A ∧ heE s b c = 0) (lt : a < A) (g : grL l h a A = GL ∧ grH l h a A = GH ∧ grA l h a A = A ∧ grE l h a A = 0) (c1 : GL ≤ M) (c2 : P ≤ GH) (c3 : U ≤ M) (c4 : P ≤ V)  :
    Calls Try.prog 6 #[.agg #[.bool true, .int .i64 l, .int .i64 h, .int .i64 a, .int .i64 k, .int .i64 src, .int .i64 he], .agg #[.int .i64 f, .int .i64 p, .int .i64 b, .int .i64 s, .int .i64 c]] w fun e w' => e = .returned (.bool true) ∧ Below w.heap.size w w' := by
  have e1 := eq_ts_lit true M P A (p + 1) f s true l h a k src he x
  have Hv := Lib.hid v
  clear v
  have Hr := Lib.hid r
  clear r
  have Hq := Lib.hid q
  clear q
  have Hx := Lib.hid x
  clear x
  have Hd := Lib.hid d
  clear d
  have Hg := Lib.hid g
  clear g
  go_enter Try.func6, Try.ntmps6
  go_wp2_with fail
  refine (head_any _).mono ?_
  rintro e w1 ⟨rfl, hb⟩
  have oS : Own w1 w.heap.size [.bool true, .int .i64 l, .int .i64 h, .int .i64 a, .int .i64 k, .int .i64 src, .int .i64 he] 25 := ((own_at _ _ rfl).alloc _).below hb
  have oH : Own w1 (w.heap.size + 1) [.int .i64 f, .int .i64 p, .int .i64 b, .int .i64 s, .int .i64 c] 27 := (own_at _ _ (by simp)).below hb
  have bel := belowTo (((Below.refl w.heap.size w).alloc (by simp) _).alloc (by simp) _) hb (by simp; omega)
  clear hb 
  obtain ⟨cS0, cS1, cS2, cS3, cS4, cS5, cS6, fS, zS⟩ := own7 oS
  obtain ⟨cH0, cH1, cH2, cH3, cH4, fH, zH⟩ := own5t oH
  go_wp2_with fail
  refine (rtvalid_lit true l h a k src he true _ Hv.out).mono ?_
  rintro e w2 ⟨rfl, hb⟩
  replace oS := oS.below hb
  replace oH := oH.below hb
  replace bel := belowTo bel hb (by exact bel.size)
  clear hb cS0 cS1 cS2 cS3 cS4 cS5 cS6 fS zS cH0 cH1 cH2 cH3 cH4 fH zH
  obtain ⟨cS0, cS1, cS2, cS3, cS4, cS5, cS6, fS, zS⟩ := own7 oS
  obtain ⟨cH0, cH1, cH2, cH3, cH4, fH, zH⟩ := own5t oH
  go_wp2_with fail
  refine (rroot_lit true l h a k src he false _ Hr.out).mono ?_
  rintro e w3 ⟨rfl, hb⟩
  replace oS := oS.below hb
  replace oH := oH.below hb
  replace bel := belowTo bel hb (by exact bel.size)
  clear hb cS0 cS1 cS2 cS3 cS4 cS5 cS6 fS zS cH0 cH1 cH2 cH3 cH4 fH zH
  obtain ⟨cS0, cS1, cS2, cS3, cS4, cS5, cS6, fS, zS⟩ := own7 oS
  obtain ⟨cH0, cH1, cH2, cH3, cH4, fH, zH⟩ := own5t oH
  go_wp2_with fail
  refine (hear_lit true l h a k src he f p b s c true M P A (p + 1) f s 0 _ Hq.out).mono ?_
  rintro e w4 ⟨rfl, hb⟩
  replace oS := oS.below hb
  replace oH := oH.below hb
  replace bel := belowTo bel hb (by exact bel.size)
  clear hb cS0 cS1 cS2 cS3 cS4 cS5 cS6 fS zS cH0 cH1 cH2 cH3 cH4 fH zH
  obtain ⟨cS0, cS1, cS2, cS3, cS4, cS5, cS6, fS, zS⟩ := own7 oS
  obtain ⟨cH0, cH1, cH2, cH3, cH4, fH, zH⟩ := own5t oH
  go_wp2_with fail
  have oX : Own (w4.alloc (Obj.cells #[.bool true, .int .i64 M, .int .i64 P, .int .i64 A, .int .i64 (p + 1), .int .i64 f, .int .i64 s] 25)) w4.heap.size [.bool true, .int .i64 M, .int .i64 P, .int .i64 A, .int .i64 (p + 1), .int .i64 f, .int .i64 s] 25 := own_at _ _ rfl
  replace oS := oS.alloc (Obj.cells #[.bool true, .int .i64 M, .int .i64 P, .int .i64 A, .int .i64 (p + 1), .int .i64 f, .int .i64 s] 25)
  replace oH := oH.alloc (Obj.cells #[.bool true, .int .i64 M, .int .i64 P, .int .i64 A, .int .i64 (p + 1), .int .i64 f, .int .i64 s] 25)
  replace bel := bel.alloc bel.size (Obj.cells #[.bool true, .int .i64 M, .int .i64 P, .int .i64 A, .int .i64 (p + 1), .int .i64 f, .int .i64 s] 25)
  clear cS0 cS1 cS2 cS3 cS4 cS5 cS6 fS zS cH0 cH1 cH2 cH3 cH4 fH zH
  generalize w4.alloc (Obj.cells #[.bool true, .int .i64 M, .int .i64 P, .int .i64 A, .int .i64 (p + 1), .int .i64 f, .int .i64 s] 25) = w5 at oS oH oX bel ⊢
  obtain ⟨cS0, cS1, cS2, cS3, cS4, cS5, cS6, fS, zS⟩ := own7 oS
  obtain ⟨cH0, cH1, cH2, cH3, cH4, fH, zH⟩ := own5t oH
  obtain ⟨cX0, cX1, cX2, cX3, cX4, cX5, cX6, fX, zX⟩ := own7 oX
  go_wp2_with fail
  refine (heard_lit f p b s c U V A 0 _ Hd.out).mono ?_
  rintro e w6 ⟨rfl, hb⟩
  replace oS := oS.below hb
  replace oH := oH.below hb
  replace oX := oX.below hb
  replace bel := belowTo bel hb (by exact bel.size)
  clear hb cS0 cS1 cS2 cS3 cS4 cS5 cS6 fS zS cH0 cH1 cH2 cH3 cH4 fH zH cX0 cX1 cX2 cX3 cX4 cX5 cX6 fX zX
  obtain ⟨cS0, cS1, cS2, cS3, cS4, cS5, cS6, fS, zS⟩ := own7 oS
  obtain ⟨cH0, cH1, cH2, cH3, cH4, fH, zH⟩ := own5t oH
  obtain ⟨cX0, cX1, cX2, cX3, cX4, cX5, cX6, fX, zX⟩ := own7 oX
  go_wp2_with fail
  have oD : Own ((w6.alloc (Obj.cells #[.int .i64 U, .int .i64 V, .int .i64 A] 23)).alloc (Obj.cells #[.int .i64 l, .int .i64 h, .int .i64 a, .int .i64 U, .int .i64 V, .int .i64 A] 23)) (w6.heap.size) [.int .i64 U, .int .i64 V, .int .i64 A] 23 := (Own.alloc (own_at _ _ rfl) (Obj.cells #[.int .i64 l, .int .i64 h, .int .i64 a, .int .i64 U, .int .i64 V, .int .i64 A] 23))
  have oZ : Own ((w6.alloc (Obj.cells #[.int .i64 U, .int .i64 V, .int .i64 A] 23)).alloc (Obj.cells #[.int .i64 l, .int .i64 h, .int .i64 a, .int .i64 U, .int .i64 V, .int .i64 A] 23)) (w6.heap.size + 1) [.int .i64 l, .int .i64 h, .int .i64 a, .int .i64 U, .int .i64 V, .int .i64 A] 23 := (own_at _ _ (by simp))
  replace oS := ((oS.alloc (Obj.cells #[.int .i64 U, .int .i64 V, .int .i64 A] 23)).alloc (Obj.cells #[.int .i64 l, .int .i64 h, .int .i64 a, .int .i64 U, .int .i64 V, .int .i64 A] 23))
  replace oH := ((oH.alloc (Obj.cells #[.int .i64 U, .int .i64 V, .int .i64 A] 23)).alloc (Obj.cells #[.int .i64 l, .int .i64 h, .int .i64 a, .int .i64 U, .int .i64 V, .int .i64 A] 23))
  replace oX := ((oX.alloc (Obj.cells #[.int .i64 U, .int .i64 V, .int .i64 A] 23)).alloc (Obj.cells #[.int .i64 l, .int .i64 h, .int .i64 a, .int .i64 U, .int .i64 V, .int .i64 A] 23))
  replace bel := ((bel.alloc (by have := bel.size; simp; omega) (Obj.cells #[.int .i64 U, .int .i64 V, .int .i64 A] 23)).alloc (by have := bel.size; simp; omega) (Obj.cells #[.int .i64 l, .int .i64 h, .int .i64 a, .int .i64 U, .int .i64 V, .int .i64 A] 23))
  clear cS0 cS1 cS2 cS3 cS4 cS5 cS6 fS zS cH0 cH1 cH2 cH3 cH4 fH zH cX0 cX1 cX2 cX3 cX4 cX5 cX6 fX zX
  generalize ((w6.alloc (Obj.cells #[.int .i64 U, .int .i64 V, .int .i64 A] 23)).alloc (Obj.cells #[.int .i64 l, .int .i64 h, .int .i64 a, .int .i64 U, .int .i64 V, .int .i64 A] 23)) = w8 at oS oH oX oD oZ bel ⊢
  obtain ⟨cS0, cS1, cS2, cS3, cS4, cS5, cS6, fS, zS⟩ := own7 oS
  obtain ⟨cH0, cH1, cH2, cH3, cH4, fH, zH⟩ := own5t oH
  obtain ⟨cX0, cX1, cX2, cX3, cX4, cX5, cX6, fX, zX⟩ := own7 oX
  obtain ⟨cD0, cD1, cD2, fD, zD⟩ := own3 oD
  obtain ⟨cZ0, cZ1, cZ2, cZ3, cZ4, cZ5, fZ, zZ⟩ := own6 oZ
  refine wp_loop_rounds 3 ?_
  rw [rounds_succ]
  go_wp2_with fail
  have kbY8 : w.heap.size ≤ w8.heap.size := bel.size
  have oY8 : Own (w8.alloc (Obj.cells #[.int .i64 l, .int .i64 h, .int .i64 a] 23)) w8.heap.size [.int .i64 l, .int .i64 h, .int .i64 a] 23 := own_at _ _ rfl
  have qY8S : w.heap.size < w8.heap.size := zS
  have qY8H : w.heap.size + 1 < w8.heap.size := zH
  have qY8X : w4.heap.size < w8.heap.size := zX
  have qY8D : w6.heap.size < w8.heap.size := zD
  have qY8Z : w6.heap.size + 1 < w8.heap.size := zZ
  replace oS := oS.alloc (Obj.cells #[.int .i64 l, .int .i64 h, .int .i64 a] 23)
  replace oH := oH.alloc (Obj.cells #[.int .i64 l, .int .i64 h, .int .i64 a] 23)
  replace oX := oX.alloc (Obj.cells #[.int .i64 l, .int .i64 h, .int .i64 a] 23)
  replace oD := oD.alloc (Obj.cells #[.int .i64 l, .int .i64 h, .int .i64 a] 23)
  replace oZ := oZ.alloc (Obj.cells #[.int .i64 l, .int .i64 h, .int .i64 a] 23)
  replace bel := bel.alloc bel.size (Obj.cells #[.int .i64 l, .int .i64 h, .int .i64 a] 23)
  clear cS0 cS1 cS2 cS3 cS4 cS5 cS6 fS zS cH0 cH1 cH2 cH3 cH4 fH zH cX0 cX1 cX2 cX3 cX4 cX5 cX6 fX zX cD0 cD1 cD2 fD zD cZ0 cZ1 cZ2 cZ3 cZ4 cZ5 fZ zZ
  generalize w8.alloc (Obj.cells #[.int .i64 l, .int .i64 h, .int .i64 a] 23) = w9 at oS oH oX oD oZ oY8 bel ⊢
  obtain ⟨cS0, cS1, cS2, cS3, cS4, cS5, cS6, fS, zS⟩ := own7 oS
  obtain ⟨cH0, cH1, cH2, cH3, cH4, fH, zH⟩ := own5t oH
  obtain ⟨cX0, cX1, cX2, cX3, cX4, cX5, cX6, fX, zX⟩ := own7 oX
  obtain ⟨cD0, cD1, cD2, fD, zD⟩ := own3 oD
  obtain ⟨cZ0, cZ1, cZ2, cZ3, cZ4, cZ5, fZ, zZ⟩ := own6 oZ
  obtain ⟨cY80, cY81, cY82, fY8, zY8⟩ := own3 oY8
  go_wp2_with fail
  refine (bgrow_lit l h a A GL GH A 0 _ Hg.out).mono ?_
  rintro e w10 ⟨rfl, hb⟩
  replace oS := oS.below hb
  replace oH := oH.below hb
  replace oX := oX.below hb
  replace oD := oD.below hb
  replace oZ := oZ.below hb
  replace oY8 := oY8.below hb
  replace bel := belowTo bel hb (by exact bel.size)
  clear hb cS0 cS1 cS2 cS3 cS4 cS5 cS6 fS zS cH0 cH1 cH2 cH3 cH4 fH zH cX0 cX1 cX2 cX3 cX4 cX5 cX6 fX zX cD0 cD1 cD2 fD zD cZ0 cZ1 cZ2 cZ3 cZ4 cZ5 fZ zZ cY80 cY81 cY82 fY8 zY8
  obtain ⟨cS0, cS1, cS2, cS3, cS4, cS5, cS6, fS, zS⟩ := own7 oS
  obtain ⟨cH0, cH1, cH2, cH3, cH4, fH, zH⟩ := own5t oH
  obtain ⟨cX0, cX1, cX2, cX3, cX4, cX5, cX6, fX, zX⟩ := own7 oX
  obtain ⟨cD0, cD1, cD2, fD, zD⟩ := own3 oD
  obtain ⟨cZ0, cZ1, cZ2, cZ3, cZ4, cZ5, fZ, zZ⟩ := own6 oZ
  obtain ⟨cY80, cY81, cY82, fY8, zY8⟩ := own3 oY8
  go_wp2_with fail
  replace oS := (((oS.other (by first | (simp; done) | (simp; omega) | omega | (dsimp only; omega)) (a := ⟨w8.heap.size, 0, none⟩) (.int .i64 GL)).other (by first | (simp; done) | (simp; omega) | omega | (dsimp only; omega)) (a := ⟨w8.heap.size, 1, none⟩) (.int .i64 GH)).other (by first | (simp; done) | (simp; omega) | omega | (dsimp only; omega)) (a := ⟨w8.heap.size, 2, none⟩) (.int .i64 A))
  replace oH := (((oH.other (by first | (simp; done) | (simp; omega) | omega | (dsimp only; omega)) (a := ⟨w8.heap.size, 0, none⟩) (.int .i64 GL)).other (by first | (simp; done) | (simp; omega) | omega | (dsimp only; omega)) (a := ⟨w8.heap.size, 1, none⟩) (.int .i64 GH)).other (by first | (simp; done) | (simp; omega) | omega | (dsimp only; omega)) (a := ⟨w8.heap.size, 2, none⟩) (.int .i64 A))
  replace oX := (((oX.other (by first | (simp; done) | (simp; omega) | omega | (dsimp only; omega)) (a := ⟨w8.heap.size, 0, none⟩) (.int .i64 GL)).other (by first | (simp; done) | (simp; omega) | omega | (dsimp only; omega)) (a := ⟨w8.heap.size, 1, none⟩) (.int .i64 GH)).other (by first | (simp; done) | (simp; omega) | omega | (dsimp only; omega)) (a := ⟨w8.heap.size, 2, none⟩) (.int .i64 A))
  replace oD := (((oD.other (by first | (simp; done) | (simp; omega) | omega | (dsimp only; omega)) (a := ⟨w8.heap.size, 0, none⟩) (.int .i64 GL)).other (by first | (simp; done) | (simp; omega) | omega | (dsimp only; omega)) (a := ⟨w8.heap.size, 1, none⟩) (.int .i64 GH)).other (by first | (simp; done) | (simp; omega) | omega | (dsimp only; omega)) (a := ⟨w8.heap.size, 2, none⟩) (.int .i64 A))
  replace oZ := (((oZ.other (by first | (simp; done) | (simp; omega) | omega | (dsimp only; omega)) (a := ⟨w8.heap.size, 0, none⟩) (.int .i64 GL)).other (by first | (simp; done) | (simp; omega) | omega | (dsimp only; omega)) (a := ⟨w8.heap.size, 1, none⟩) (.int .i64 GH)).other (by first | (simp; done) | (simp; omega) | omega | (dsimp only; omega)) (a := ⟨w8.heap.size, 2, none⟩) (.int .i64 A))
  replace bel := (((bel.setCell (p := ⟨w8.heap.size, 0, none⟩) (by first | (simp; done) | (simp; omega) | omega | (dsimp only; omega)) (.int .i64 GL)).setCell (p := ⟨w8.heap.size, 1, none⟩) (by first | (simp; done) | (simp; omega) | omega | (dsimp only; omega)) (.int .i64 GH)).setCell (p := ⟨w8.heap.size, 2, none⟩) (by first | (simp; done) | (simp; omega) | omega | (dsimp only; omega)) (.int .i64 A))
  replace oY8 : Own _ (w8.heap.size) [.int .i64 GL, .int .i64 GH, .int .i64 A] 23 := (((oY8.set 0 (.int .i64 GL)).set 1 (.int .i64 GH)).set 2 (.int .i64 A))
  clear cS0 cS1 cS2 cS3 cS4 cS5 cS6 fS zS cH0 cH1 cH2 cH3 cH4 fH zH cX0 cX1 cX2 cX3 cX4 cX5 cX6 fX zX cD0 cD1 cD2 fD zD cZ0 cZ1 cZ2 cZ3 cZ4 cZ5 fZ zZ cY80 cY81 cY82 fY8 zY8
  generalize (((w10.setCell ⟨w8.heap.size, 0, none⟩ (.int .i64 GL)).setCell ⟨w8.heap.size, 1, none⟩ (.int .i64 GH)).setCell ⟨w8.heap.size, 2, none⟩ (.int .i64 A)) = w11 at oS oH oX oD oZ oY8 bel ⊢
  obtain ⟨cS0, cS1, cS2, cS3, cS4, cS5, cS6, fS, zS⟩ := own7 oS
  obtain ⟨cH0, cH1, cH2, cH3, cH4, fH, zH⟩ := own5t oH
  obtain ⟨cX0, cX1, cX2, cX3, cX4, cX5, cX6, fX, zX⟩ := own7 oX
  obtain ⟨cD0, cD1, cD2, fD, zD⟩ := own3 oD
  obtain ⟨cZ0, cZ1, cZ2, cZ3, cZ4, cZ5, fZ, zZ⟩ := own6 oZ
  obtain ⟨cY80, cY81, cY82, fY8, zY8⟩ := own3 oY8
  have oG11 : Own (w11.alloc (Obj.cells #[.int .i64 GL, .int .i64 GH, .int .i64 A] 23)) w11.heap.size [.int .i64 GL, .int .i64 GH, .int .i64 A] 23 := own_at _ _ rfl
  replace oS := oS.alloc (Obj.cells #[.int .i64 GL, .int .i64 GH, .int .i64 A] 23)
  replace oH := oH.alloc (Obj.cells #[.int .i64 GL, .int .i64 GH, .int .i64 A] 23)
  replace oX := oX.alloc (Obj.cells #[.int .i64 GL, .int .i64 GH, .int .i64 A] 23)
  replace oD := oD.alloc (Obj.cells #[.int .i64 GL, .int .i64 GH, .int .i64 A] 23)
  replace oZ := oZ.alloc (Obj.cells #[.int .i64 GL, .int .i64 GH, .int .i64 A] 23)
  replace oY8 := oY8.alloc (Obj.cells #[.int .i64 GL, .int .i64 GH, .int .i64 A] 23)
  replace bel := bel.alloc bel.size (Obj.cells #[.int .i64 GL, .int .i64 GH, .int .i64 A] 23)
  clear cS0 cS1 cS2 cS3 cS4 cS5 cS6 fS zS cH0 cH1 cH2 cH3 cH4 fH zH cX0 cX1 cX2 cX3 cX4 cX5 cX6 fX zX cD0 cD1 cD2 fD zD cZ0 cZ1 cZ2 cZ3 cZ4 cZ5 fZ zZ cY80 cY81 cY82 fY8 zY8
  generalize w11.alloc (Obj.cells #[.int .i64 GL, .int .i64 GH, .int .i64 A] 23) = w12 at oS oH oX oD oZ oY8 oG11 bel ⊢
  obtain ⟨cS0, cS1, cS2, cS3, cS4, cS5, cS6, fS, zS⟩ := own7 oS
  obtain ⟨cH0, cH1, cH2, cH3, cH4, fH, zH⟩ := own5t oH
  obtain ⟨cX0, cX1, cX2, cX3, cX4, cX5, cX6, fX, zX⟩ := own7 oX
  obtain ⟨cD0, cD1, cD2, fD, zD⟩ := own3 oD
  obtain ⟨cZ0, cZ1, cZ2, cZ3, cZ4, cZ5, fZ, zZ⟩ := own6 oZ
  obtain ⟨cY80, cY81, cY82, fY8, zY8⟩ := own3 oY8
  obtain ⟨cG110, cG111, cG112, fG11, zG11⟩ := own3 oG11
  rw [rounds_succ]
  go_wp2_with fail
  have kbY12 : w.heap.size ≤ w12.heap.size := bel.size
  have oY12 : Own (w12.alloc (Obj.cells #[.int .i64 U, .int .i64 V, .int .i64 A] 23)) w12.heap.size [.int .i64 U, .int .i64 V, .int .i64 A] 23 := own_at _ _ rfl
  have qY12S : w.heap.size < w12.heap.size := zS
  have qY12H : w.heap.size + 1 < w12.heap.size := zH
  have qY12X : w4.heap.size < w12.heap.size := zX
  have qY12D : w6.heap.size < w12.heap.size := zD
  have qY12Z : w6.heap.size + 1 < w12.heap.size := zZ
  have qY12Y8 : w8.heap.size < w12.heap.size := zY8
  have qY12G11 : w11.heap.size < w12.heap.size := zG11
  replace oS := oS.alloc (Obj.cells #[.int .i64 U, .int .i64 V, .int .i64 A] 23)
  replace oH := oH.alloc (Obj.cells #[.int .i64 U, .int .i64 V, .int .i64 A] 23)
  replace oX := oX.alloc (Obj.cells #[.int .i64 U, .int .i64 V, .int .i64 A] 23)
  replace oD := oD.alloc (Obj.cells #[.int .i64 U, .int .i64 V, .int .i64 A] 23)
  replace oZ := oZ.alloc (Obj.cells #[.int .i64 U, .int .i64 V, .int .i64 A] 23)
  replace oY8 := oY8.alloc (Obj.cells #[.int .i64 U, .int .i64 V, .int .i64 A] 23)
  replace oG11 := oG11.alloc (Obj.cells #[.int .i64 U, .int .i64 V, .int .i64 A] 23)
  replace bel := bel.alloc bel.size (Obj.cells #[.int .i64 U, .int .i64 V, .int .i64 A] 23)
  clear cS0 cS1 cS2 cS3 cS4 cS5 cS6 fS zS cH0 cH1 cH2 cH3 cH4 fH zH cX0 cX1 cX2 cX3 cX4 cX5 cX6 fX zX cD0 cD1 cD2 fD zD cZ0 cZ1 cZ2 cZ3 cZ4 cZ5 fZ zZ cY80 cY81 cY82 fY8 zY8 cG110 cG111 cG112 fG11 zG11
  generalize w12.alloc (Obj.cells #[.int .i64 U, .int .i64 V, .int .i64 A] 23) = w13 at oS oH oX oD oZ oY8 oG11 oY12 bel ⊢
  obtain ⟨cS0, cS1, cS2, cS3, cS4, cS5, cS6, fS, zS⟩ := own7 oS
  obtain ⟨cH0, cH1, cH2, cH3, cH4, fH, zH⟩ := own5t oH
  obtain ⟨cX0, cX1, cX2, cX3, cX4, cX5, cX6, fX, zX⟩ := own7 oX
  obtain ⟨cD0, cD1, cD2, fD, zD⟩ := own3 oD
  obtain ⟨cZ0, cZ1, cZ2, cZ3, cZ4, cZ5, fZ, zZ⟩ := own6 oZ
  obtain ⟨cY80, cY81, cY82, fY8, zY8⟩ := own3 oY8
  obtain ⟨cG110, cG111, cG112, fG11, zG11⟩ := own3 oG11
  obtain ⟨cY120, cY121, cY122, fY12, zY12⟩ := own3 oY12
  rw [rounds_succ]
  go_wp2
  all_goals (go_ret; exact ⟨by first | rfl | simp_all, (by repeat (first | exact bel | refine Below.alloc ?_ (by have := bel.size; simp; omega) _))⟩)

set_option linter.unusedVariables false in
set_option maxRecDepth 100000 in
set_option maxHeartbeats 4000000 in
theorem timesyncBetter_late (l h a k src he f p b s c M P U V A GL GH : Int) (w : World) (v : vldT true l h a k src he = true) (r : (true && (k == 0)) = false) (q : HearIs true l h a k src he f p b s c true M P a (p + 1) f s 0) (x : tsB true M P a (p + 1) f s true l h a k src he = false) (b1 : 0 ≤ p) (b2 : p < 60) (d : heL s b c = U ∧ heH s b c = V ∧ heA s b c = A ∧ heE s b c = 0) (lt : A < a) (g : grL U V A a = GL ∧ grH U V A a = GH ∧ grA U V A a = a ∧ grE U V A a = 0) (c1 : l ≤ M) (c2 : P ≤ h) (c3 : GL ≤ M) (c4 : P ≤ GH)  :
    Calls Try.prog 6 #[.agg #[.bool true, .int .i64 l, .int .i64 h, .int .i64 a, .int .i64 k, .int .i64 src, .int .i64 he], .agg #[.int .i64 f, .int .i64 p, .int .i64 b, .int .i64 s, .int .i64 c]] w fun e w' => e = .returned (.bool true) ∧ Below w.heap.size w w' := by
  have e1 := eq_ts_lit true M P a (p + 1) f s true l h a k src he x
  have Hv := Lib.hid v
  clear v
  have Hr := Lib.hid r
  clear r
  have Hq := Lib.hid q
  clear q
  have Hx := Lib.hid x
  clear x
  have Hd := Lib.hid d
  clear d
  have Hg := Lib.hid g
  clear g
  go_enter Try.func6, Try.ntmps6
  go_wp2_with fail
  refine (head_any _).mono ?_
  rintro e w1 ⟨rfl, hb⟩
  have oS : Own w1 w.heap.size [.bool true, .int .i64 l, .int .i64 h, .int .i64 a, .int .i64 k, .int .i64 src, .int .i64 he] 25 := ((own_at _ _ rfl).alloc _).below hb
  have oH : Own w1 (w.heap.size + 1) [.int .i64 f, .int .i64 p, .int .i64 b, .int .i64 s, .int .i64 c] 27 := (own_at _ _ (by simp)).below hb
  have bel := belowTo (((Below.refl w.heap.size w).alloc (by simp) _).alloc (by simp) _) hb (by simp; omega)
  clear hb 
  obtain ⟨cS0, cS1, cS2, cS3, cS4, cS5, cS6, fS, zS⟩ := own7 oS
  obtain ⟨cH0, cH1, cH2, cH3, cH4, fH, zH⟩ := own5t oH
  go_wp2_with fail
  refine (rtvalid_lit true l h a k src he true _ Hv.out).mono ?_
  rintro e w2 ⟨rfl, hb⟩
  replace oS := oS.below hb
  replace oH := oH.below hb
  replace bel := belowTo bel hb (by exact bel.size)
  clear hb cS0 cS1 cS2 cS3 cS4 cS5 cS6 fS zS cH0 cH1 cH2 cH3 cH4 fH zH
  obtain ⟨cS0, cS1, cS2, cS3, cS4, cS5, cS6, fS, zS⟩ := own7 oS
  obtain ⟨cH0, cH1, cH2, cH3, cH4, fH, zH⟩ := own5t oH
  go_wp2_with fail
  refine (rroot_lit true l h a k src he false _ Hr.out).mono ?_
  rintro e w3 ⟨rfl, hb⟩
  replace oS := oS.below hb
  replace oH := oH.below hb
  replace bel := belowTo bel hb (by exact bel.size)
  clear hb cS0 cS1 cS2 cS3 cS4 cS5 cS6 fS zS cH0 cH1 cH2 cH3 cH4 fH zH
  obtain ⟨cS0, cS1, cS2, cS3, cS4, cS5, cS6, fS, zS⟩ := own7 oS
  obtain ⟨cH0, cH1, cH2, cH3, cH4, fH, zH⟩ := own5t oH
  go_wp2_with fail
  refine (hear_lit true l h a k src he f p b s c true M P a (p + 1) f s 0 _ Hq.out).mono ?_
  rintro e w4 ⟨rfl, hb⟩
  replace oS := oS.below hb
  replace oH := oH.below hb
  replace bel := belowTo bel hb (by exact bel.size)
  clear hb cS0 cS1 cS2 cS3 cS4 cS5 cS6 fS zS cH0 cH1 cH2 cH3 cH4 fH zH
  obtain ⟨cS0, cS1, cS2, cS3, cS4, cS5, cS6, fS, zS⟩ := own7 oS
  obtain ⟨cH0, cH1, cH2, cH3, cH4, fH, zH⟩ := own5t oH
  go_wp2_with fail
  have oX : Own (w4.alloc (Obj.cells #[.bool true, .int .i64 M, .int .i64 P, .int .i64 a, .int .i64 (p + 1), .int .i64 f, .int .i64 s] 25)) w4.heap.size [.bool true, .int .i64 M, .int .i64 P, .int .i64 a, .int .i64 (p + 1), .int .i64 f, .int .i64 s] 25 := own_at _ _ rfl
  replace oS := oS.alloc (Obj.cells #[.bool true, .int .i64 M, .int .i64 P, .int .i64 a, .int .i64 (p + 1), .int .i64 f, .int .i64 s] 25)
  replace oH := oH.alloc (Obj.cells #[.bool true, .int .i64 M, .int .i64 P, .int .i64 a, .int .i64 (p + 1), .int .i64 f, .int .i64 s] 25)
  replace bel := bel.alloc bel.size (Obj.cells #[.bool true, .int .i64 M, .int .i64 P, .int .i64 a, .int .i64 (p + 1), .int .i64 f, .int .i64 s] 25)
  clear cS0 cS1 cS2 cS3 cS4 cS5 cS6 fS zS cH0 cH1 cH2 cH3 cH4 fH zH
  generalize w4.alloc (Obj.cells #[.bool true, .int .i64 M, .int .i64 P, .int .i64 a, .int .i64 (p + 1), .int .i64 f, .int .i64 s] 25) = w5 at oS oH oX bel ⊢
  obtain ⟨cS0, cS1, cS2, cS3, cS4, cS5, cS6, fS, zS⟩ := own7 oS
  obtain ⟨cH0, cH1, cH2, cH3, cH4, fH, zH⟩ := own5t oH
  obtain ⟨cX0, cX1, cX2, cX3, cX4, cX5, cX6, fX, zX⟩ := own7 oX
  go_wp2_with fail
  refine (heard_lit f p b s c U V A 0 _ Hd.out).mono ?_
  rintro e w6 ⟨rfl, hb⟩
  replace oS := oS.below hb
  replace oH := oH.below hb
  replace oX := oX.below hb
  replace bel := belowTo bel hb (by exact bel.size)
  clear hb cS0 cS1 cS2 cS3 cS4 cS5 cS6 fS zS cH0 cH1 cH2 cH3 cH4 fH zH cX0 cX1 cX2 cX3 cX4 cX5 cX6 fX zX
  obtain ⟨cS0, cS1, cS2, cS3, cS4, cS5, cS6, fS, zS⟩ := own7 oS
  obtain ⟨cH0, cH1, cH2, cH3, cH4, fH, zH⟩ := own5t oH
  obtain ⟨cX0, cX1, cX2, cX3, cX4, cX5, cX6, fX, zX⟩ := own7 oX
  go_wp2_with fail
  have oD : Own ((w6.alloc (Obj.cells #[.int .i64 U, .int .i64 V, .int .i64 A] 23)).alloc (Obj.cells #[.int .i64 l, .int .i64 h, .int .i64 a, .int .i64 U, .int .i64 V, .int .i64 A] 23)) (w6.heap.size) [.int .i64 U, .int .i64 V, .int .i64 A] 23 := (Own.alloc (own_at _ _ rfl) (Obj.cells #[.int .i64 l, .int .i64 h, .int .i64 a, .int .i64 U, .int .i64 V, .int .i64 A] 23))
  have oZ : Own ((w6.alloc (Obj.cells #[.int .i64 U, .int .i64 V, .int .i64 A] 23)).alloc (Obj.cells #[.int .i64 l, .int .i64 h, .int .i64 a, .int .i64 U, .int .i64 V, .int .i64 A] 23)) (w6.heap.size + 1) [.int .i64 l, .int .i64 h, .int .i64 a, .int .i64 U, .int .i64 V, .int .i64 A] 23 := (own_at _ _ (by simp))
  replace oS := ((oS.alloc (Obj.cells #[.int .i64 U, .int .i64 V, .int .i64 A] 23)).alloc (Obj.cells #[.int .i64 l, .int .i64 h, .int .i64 a, .int .i64 U, .int .i64 V, .int .i64 A] 23))
  replace oH := ((oH.alloc (Obj.cells #[.int .i64 U, .int .i64 V, .int .i64 A] 23)).alloc (Obj.cells #[.int .i64 l, .int .i64 h, .int .i64 a, .int .i64 U, .int .i64 V, .int .i64 A] 23))
  replace oX := ((oX.alloc (Obj.cells #[.int .i64 U, .int .i64 V, .int .i64 A] 23)).alloc (Obj.cells #[.int .i64 l, .int .i64 h, .int .i64 a, .int .i64 U, .int .i64 V, .int .i64 A] 23))
  replace bel := ((bel.alloc (by have := bel.size; simp; omega) (Obj.cells #[.int .i64 U, .int .i64 V, .int .i64 A] 23)).alloc (by have := bel.size; simp; omega) (Obj.cells #[.int .i64 l, .int .i64 h, .int .i64 a, .int .i64 U, .int .i64 V, .int .i64 A] 23))
  clear cS0 cS1 cS2 cS3 cS4 cS5 cS6 fS zS cH0 cH1 cH2 cH3 cH4 fH zH cX0 cX1 cX2 cX3 cX4 cX5 cX6 fX zX
  generalize ((w6.alloc (Obj.cells #[.int .i64 U, .int .i64 V, .int .i64 A] 23)).alloc (Obj.cells #[.int .i64 l, .int .i64 h, .int .i64 a, .int .i64 U, .int .i64 V, .int .i64 A] 23)) = w8 at oS oH oX oD oZ bel ⊢
  obtain ⟨cS0, cS1, cS2, cS3, cS4, cS5, cS6, fS, zS⟩ := own7 oS
  obtain ⟨cH0, cH1, cH2, cH3, cH4, fH, zH⟩ := own5t oH
  obtain ⟨cX0, cX1, cX2, cX3, cX4, cX5, cX6, fX, zX⟩ := own7 oX
  obtain ⟨cD0, cD1, cD2, fD, zD⟩ := own3 oD
  obtain ⟨cZ0, cZ1, cZ2, cZ3, cZ4, cZ5, fZ, zZ⟩ := own6 oZ
  refine wp_loop_rounds 3 ?_
  rw [rounds_succ]
  go_wp2_with fail
  have kbY8 : w.heap.size ≤ w8.heap.size := bel.size
  have oY8 : Own (w8.alloc (Obj.cells #[.int .i64 l, .int .i64 h, .int .i64 a] 23)) w8.heap.size [.int .i64 l, .int .i64 h, .int .i64 a] 23 := own_at _ _ rfl
  have qY8S : w.heap.size < w8.heap.size := zS
  have qY8H : w.heap.size + 1 < w8.heap.size := zH
  have qY8X : w4.heap.size < w8.heap.size := zX
  have qY8D : w6.heap.size < w8.heap.size := zD
  have qY8Z : w6.heap.size + 1 < w8.heap.size := zZ
  replace oS := oS.alloc (Obj.cells #[.int .i64 l, .int .i64 h, .int .i64 a] 23)
  replace oH := oH.alloc (Obj.cells #[.int .i64 l, .int .i64 h, .int .i64 a] 23)
  replace oX := oX.alloc (Obj.cells #[.int .i64 l, .int .i64 h, .int .i64 a] 23)
  replace oD := oD.alloc (Obj.cells #[.int .i64 l, .int .i64 h, .int .i64 a] 23)
  replace oZ := oZ.alloc (Obj.cells #[.int .i64 l, .int .i64 h, .int .i64 a] 23)
  replace bel := bel.alloc bel.size (Obj.cells #[.int .i64 l, .int .i64 h, .int .i64 a] 23)
  clear cS0 cS1 cS2 cS3 cS4 cS5 cS6 fS zS cH0 cH1 cH2 cH3 cH4 fH zH cX0 cX1 cX2 cX3 cX4 cX5 cX6 fX zX cD0 cD1 cD2 fD zD cZ0 cZ1 cZ2 cZ3 cZ4 cZ5 fZ zZ
  generalize w8.alloc (Obj.cells #[.int .i64 l, .int .i64 h, .int .i64 a] 23) = w9 at oS oH oX oD oZ oY8 bel ⊢
  obtain ⟨cS0, cS1, cS2, cS3, cS4, cS5, cS6, fS, zS⟩ := own7 oS
  obtain ⟨cH0, cH1, cH2, cH3, cH4, fH, zH⟩ := own5t oH
  obtain ⟨cX0, cX1, cX2, cX3, cX4, cX5, cX6, fX, zX⟩ := own7 oX
  obtain ⟨cD0, cD1, cD2, fD, zD⟩ := own3 oD
  obtain ⟨cZ0, cZ1, cZ2, cZ3, cZ4, cZ5, fZ, zZ⟩ := own6 oZ
  obtain ⟨cY80, cY81, cY82, fY8, zY8⟩ := own3 oY8
  rw [rounds_succ]
  go_wp2_with fail
  have kbY9 : w.heap.size ≤ w9.heap.size := bel.size
  have oY9 : Own (w9.alloc (Obj.cells #[.int .i64 U, .int .i64 V, .int .i64 A] 23)) w9.heap.size [.int .i64 U, .int .i64 V, .int .i64 A] 23 := own_at _ _ rfl
  have qY9S : w.heap.size < w9.heap.size := zS
  have qY9H : w.heap.size + 1 < w9.heap.size := zH
  have qY9X : w4.heap.size < w9.heap.size := zX
  have qY9D : w6.heap.size < w9.heap.size := zD
  have qY9Z : w6.heap.size + 1 < w9.heap.size := zZ
  have qY9Y8 : w8.heap.size < w9.heap.size := zY8
  replace oS := oS.alloc (Obj.cells #[.int .i64 U, .int .i64 V, .int .i64 A] 23)
  replace oH := oH.alloc (Obj.cells #[.int .i64 U, .int .i64 V, .int .i64 A] 23)
  replace oX := oX.alloc (Obj.cells #[.int .i64 U, .int .i64 V, .int .i64 A] 23)
  replace oD := oD.alloc (Obj.cells #[.int .i64 U, .int .i64 V, .int .i64 A] 23)
  replace oZ := oZ.alloc (Obj.cells #[.int .i64 U, .int .i64 V, .int .i64 A] 23)
  replace oY8 := oY8.alloc (Obj.cells #[.int .i64 U, .int .i64 V, .int .i64 A] 23)
  replace bel := bel.alloc bel.size (Obj.cells #[.int .i64 U, .int .i64 V, .int .i64 A] 23)
  clear cS0 cS1 cS2 cS3 cS4 cS5 cS6 fS zS cH0 cH1 cH2 cH3 cH4 fH zH cX0 cX1 cX2 cX3 cX4 cX5 cX6 fX zX cD0 cD1 cD2 fD zD cZ0 cZ1 cZ2 cZ3 cZ4 cZ5 fZ zZ cY80 cY81 cY82 fY8 zY8
  generalize w9.alloc (Obj.cells #[.int .i64 U, .int .i64 V, .int .i64 A] 23) = w10 at oS oH oX oD oZ oY8 oY9 bel ⊢
  obtain ⟨cS0, cS1, cS2, cS3, cS4, cS5, cS6, fS, zS⟩ := own7 oS
  obtain ⟨cH0, cH1, cH2, cH3, cH4, fH, zH⟩ := own5t oH
  obtain ⟨cX0, cX1, cX2, cX3, cX4, cX5, cX6, fX, zX⟩ := own7 oX
  obtain ⟨cD0, cD1, cD2, fD, zD⟩ := own3 oD
  obtain ⟨cZ0, cZ1, cZ2, cZ3, cZ4, cZ5, fZ, zZ⟩ := own6 oZ
  obtain ⟨cY80, cY81, cY82, fY8, zY8⟩ := own3 oY8
  obtain ⟨cY90, cY91, cY92, fY9, zY9⟩ := own3 oY9
  go_wp2_with fail
  refine (bgrow_lit U V A a GL GH a 0 _ Hg.out).mono ?_
  rintro e w11 ⟨rfl, hb⟩
  replace oS := oS.below hb
  replace oH := oH.below hb
  replace oX := oX.below hb
  replace oD := oD.below hb
  replace oZ := oZ.below hb
  replace oY8 := oY8.below hb
  replace oY9 := oY9.below hb
  replace bel := belowTo bel hb (by exact bel.size)
  clear hb cS0 cS1 cS2 cS3 cS4 cS5 cS6 fS zS cH0 cH1 cH2 cH3 cH4 fH zH cX0 cX1 cX2 cX3 cX4 cX5 cX6 fX zX cD0 cD1 cD2 fD zD cZ0 cZ1 cZ2 cZ3 cZ4 cZ5 fZ zZ cY80 cY81 cY82 fY8 zY8 cY90 cY91 cY92 fY9 zY9
  obtain ⟨cS0, cS1, cS2, cS3, cS4, cS5, cS6, fS, zS⟩ := own7 oS
  obtain ⟨cH0, cH1, cH2, cH3, cH4, fH, zH⟩ := own5t oH
  obtain ⟨cX0, cX1, cX2, cX3, cX4, cX5, cX6, fX, zX⟩ := own7 oX
  obtain ⟨cD0, cD1, cD2, fD, zD⟩ := own3 oD
  obtain ⟨cZ0, cZ1, cZ2, cZ3, cZ4, cZ5, fZ, zZ⟩ := own6 oZ
  obtain ⟨cY80, cY81, cY82, fY8, zY8⟩ := own3 oY8
  obtain ⟨cY90, cY91, cY92, fY9, zY9⟩ := own3 oY9
  go_wp2_with fail
  replace oS := (((oS.other (by first | (simp; done) | (simp; omega) | omega | (dsimp only; omega)) (a := ⟨w9.heap.size, 0, none⟩) (.int .i64 GL)).other (by first | (simp; done) | (simp; omega) | omega | (dsimp only; omega)) (a := ⟨w9.heap.size, 1, none⟩) (.int .i64 GH)).other (by first | (simp; done) | (simp; omega) | omega | (dsimp only; omega)) (a := ⟨w9.heap.size, 2, none⟩) (.int .i64 a))
  replace oH := (((oH.other (by first | (simp; done) | (simp; omega) | omega | (dsimp only; omega)) (a := ⟨w9.heap.size, 0, none⟩) (.int .i64 GL)).other (by first | (simp; done) | (simp; omega) | omega | (dsimp only; omega)) (a := ⟨w9.heap.size, 1, none⟩) (.int .i64 GH)).other (by first | (simp; done) | (simp; omega) | omega | (dsimp only; omega)) (a := ⟨w9.heap.size, 2, none⟩) (.int .i64 a))
  replace oX := (((oX.other (by first | (simp; done) | (simp; omega) | omega | (dsimp only; omega)) (a := ⟨w9.heap.size, 0, none⟩) (.int .i64 GL)).other (by first | (simp; done) | (simp; omega) | omega | (dsimp only; omega)) (a := ⟨w9.heap.size, 1, none⟩) (.int .i64 GH)).other (by first | (simp; done) | (simp; omega) | omega | (dsimp only; omega)) (a := ⟨w9.heap.size, 2, none⟩) (.int .i64 a))
  replace oD := (((oD.other (by first | (simp; done) | (simp; omega) | omega | (dsimp only; omega)) (a := ⟨w9.heap.size, 0, none⟩) (.int .i64 GL)).other (by first | (simp; done) | (simp; omega) | omega | (dsimp only; omega)) (a := ⟨w9.heap.size, 1, none⟩) (.int .i64 GH)).other (by first | (simp; done) | (simp; omega) | omega | (dsimp only; omega)) (a := ⟨w9.heap.size, 2, none⟩) (.int .i64 a))
  replace oZ := (((oZ.other (by first | (simp; done) | (simp; omega) | omega | (dsimp only; omega)) (a := ⟨w9.heap.size, 0, none⟩) (.int .i64 GL)).other (by first | (simp; done) | (simp; omega) | omega | (dsimp only; omega)) (a := ⟨w9.heap.size, 1, none⟩) (.int .i64 GH)).other (by first | (simp; done) | (simp; omega) | omega | (dsimp only; omega)) (a := ⟨w9.heap.size, 2, none⟩) (.int .i64 a))
  replace oY8 := (((oY8.other (by first | (simp; done) | (simp; omega) | omega | (dsimp only; omega)) (a := ⟨w9.heap.size, 0, none⟩) (.int .i64 GL)).other (by first | (simp; done) | (simp; omega) | omega | (dsimp only; omega)) (a := ⟨w9.heap.size, 1, none⟩) (.int .i64 GH)).other (by first | (simp; done) | (simp; omega) | omega | (dsimp only; omega)) (a := ⟨w9.heap.size, 2, none⟩) (.int .i64 a))
  replace bel := (((bel.setCell (p := ⟨w9.heap.size, 0, none⟩) (by first | (simp; done) | (simp; omega) | omega | (dsimp only; omega)) (.int .i64 GL)).setCell (p := ⟨w9.heap.size, 1, none⟩) (by first | (simp; done) | (simp; omega) | omega | (dsimp only; omega)) (.int .i64 GH)).setCell (p := ⟨w9.heap.size, 2, none⟩) (by first | (simp; done) | (simp; omega) | omega | (dsimp only; omega)) (.int .i64 a))
  replace oY9 : Own _ (w9.heap.size) [.int .i64 GL, .int .i64 GH, .int .i64 a] 23 := (((oY9.set 0 (.int .i64 GL)).set 1 (.int .i64 GH)).set 2 (.int .i64 a))
  clear cS0 cS1 cS2 cS3 cS4 cS5 cS6 fS zS cH0 cH1 cH2 cH3 cH4 fH zH cX0 cX1 cX2 cX3 cX4 cX5 cX6 fX zX cD0 cD1 cD2 fD zD cZ0 cZ1 cZ2 cZ3 cZ4 cZ5 fZ zZ cY80 cY81 cY82 fY8 zY8 cY90 cY91 cY92 fY9 zY9
  generalize (((w11.setCell ⟨w9.heap.size, 0, none⟩ (.int .i64 GL)).setCell ⟨w9.heap.size, 1, none⟩ (.int .i64 GH)).setCell ⟨w9.heap.size, 2, none⟩ (.int .i64 a)) = w12 at oS oH oX oD oZ oY8 oY9 bel ⊢
  obtain ⟨cS0, cS1, cS2, cS3, cS4, cS5, cS6, fS, zS⟩ := own7 oS
  obtain ⟨cH0, cH1, cH2, cH3, cH4, fH, zH⟩ := own5t oH
  obtain ⟨cX0, cX1, cX2, cX3, cX4, cX5, cX6, fX, zX⟩ := own7 oX
  obtain ⟨cD0, cD1, cD2, fD, zD⟩ := own3 oD
  obtain ⟨cZ0, cZ1, cZ2, cZ3, cZ4, cZ5, fZ, zZ⟩ := own6 oZ
  obtain ⟨cY80, cY81, cY82, fY8, zY8⟩ := own3 oY8
  obtain ⟨cY90, cY91, cY92, fY9, zY9⟩ := own3 oY9
  have oG12 : Own (w12.alloc (Obj.cells #[.int .i64 GL, .int .i64 GH, .int .i64 a] 23)) w12.heap.size [.int .i64 GL, .int .i64 GH, .int .i64 a] 23 := own_at _ _ rfl
  replace oS := oS.alloc (Obj.cells #[.int .i64 GL, .int .i64 GH, .int .i64 a] 23)
  replace oH := oH.alloc (Obj.cells #[.int .i64 GL, .int .i64 GH, .int .i64 a] 23)
  replace oX := oX.alloc (Obj.cells #[.int .i64 GL, .int .i64 GH, .int .i64 a] 23)
  replace oD := oD.alloc (Obj.cells #[.int .i64 GL, .int .i64 GH, .int .i64 a] 23)
  replace oZ := oZ.alloc (Obj.cells #[.int .i64 GL, .int .i64 GH, .int .i64 a] 23)
  replace oY8 := oY8.alloc (Obj.cells #[.int .i64 GL, .int .i64 GH, .int .i64 a] 23)
  replace oY9 := oY9.alloc (Obj.cells #[.int .i64 GL, .int .i64 GH, .int .i64 a] 23)
  replace bel := bel.alloc bel.size (Obj.cells #[.int .i64 GL, .int .i64 GH, .int .i64 a] 23)
  clear cS0 cS1 cS2 cS3 cS4 cS5 cS6 fS zS cH0 cH1 cH2 cH3 cH4 fH zH cX0 cX1 cX2 cX3 cX4 cX5 cX6 fX zX cD0 cD1 cD2 fD zD cZ0 cZ1 cZ2 cZ3 cZ4 cZ5 fZ zZ cY80 cY81 cY82 fY8 zY8 cY90 cY91 cY92 fY9 zY9
  generalize w12.alloc (Obj.cells #[.int .i64 GL, .int .i64 GH, .int .i64 a] 23) = w13 at oS oH oX oD oZ oY8 oY9 oG12 bel ⊢
  obtain ⟨cS0, cS1, cS2, cS3, cS4, cS5, cS6, fS, zS⟩ := own7 oS
  obtain ⟨cH0, cH1, cH2, cH3, cH4, fH, zH⟩ := own5t oH
  obtain ⟨cX0, cX1, cX2, cX3, cX4, cX5, cX6, fX, zX⟩ := own7 oX
  obtain ⟨cD0, cD1, cD2, fD, zD⟩ := own3 oD
  obtain ⟨cZ0, cZ1, cZ2, cZ3, cZ4, cZ5, fZ, zZ⟩ := own6 oZ
  obtain ⟨cY80, cY81, cY82, fY8, zY8⟩ := own3 oY8
  obtain ⟨cY90, cY91, cY92, fY9, zY9⟩ := own3 oY9
  obtain ⟨cG120, cG121, cG122, fG12, zG12⟩ := own3 oG12
  rw [rounds_succ]
  go_wp2
  all_goals (go_ret; exact ⟨by first | rfl | simp_all, (by repeat (first | exact bel | refine Below.alloc ?_ (by have := bel.size; simp; omega) _))⟩)

set_option linter.unusedVariables false in
set_option maxRecDepth 100000 in
set_option maxHeartbeats 4000000 in
theorem timesyncBetter_even (l h a k src he f p b s c M P U V GL GH KL KH : Int) (w : World) (v : vldT true l h a k src he = true) (r : (true && (k == 0)) = false) (q : HearIs true l h a k src he f p b s c true M P a (p + 1) f s 0) (x : tsB true M P a (p + 1) f s true l h a k src he = false) (b1 : 0 ≤ p) (b2 : p < 60) (d : heL s b c = U ∧ heH s b c = V ∧ heA s b c = a ∧ heE s b c = 0) (g : grL l h a a = GL ∧ grH l h a a = GH ∧ grA l h a a = a ∧ grE l h a a = 0) (hk : grL U V a a = KL ∧ grH U V a a = KH ∧ grA U V a a = a ∧ grE U V a a = 0) (c1 : GL ≤ M) (c2 : P ≤ GH) (c3 : KL ≤ M) (c4 : P ≤ KH)  :
    Calls Try.prog 6 #[.agg #[.bool true, .int .i64 l, .int .i64 h, .int .i64 a, .int .i64 k, .int .i64 src, .int .i64 he], .agg #[.int .i64 f, .int .i64 p, .int .i64 b, .int .i64 s, .int .i64 c]] w fun e w' => e = .returned (.bool true) ∧ Below w.heap.size w w' := by
  have e1 := eq_ts_lit true M P a (p + 1) f s true l h a k src he x
  have Hv := Lib.hid v
  clear v
  have Hr := Lib.hid r
  clear r
  have Hq := Lib.hid q
  clear q
  have Hx := Lib.hid x
  clear x
  have Hd := Lib.hid d
  clear d
  have Hg := Lib.hid g
  clear g
  have Hhk := Lib.hid hk
  clear hk
  go_enter Try.func6, Try.ntmps6
  go_wp2_with fail
  refine (head_any _).mono ?_
  rintro e w1 ⟨rfl, hb⟩
  have oS : Own w1 w.heap.size [.bool true, .int .i64 l, .int .i64 h, .int .i64 a, .int .i64 k, .int .i64 src, .int .i64 he] 25 := ((own_at _ _ rfl).alloc _).below hb
  have oH : Own w1 (w.heap.size + 1) [.int .i64 f, .int .i64 p, .int .i64 b, .int .i64 s, .int .i64 c] 27 := (own_at _ _ (by simp)).below hb
  have bel := belowTo (((Below.refl w.heap.size w).alloc (by simp) _).alloc (by simp) _) hb (by simp; omega)
  clear hb 
  obtain ⟨cS0, cS1, cS2, cS3, cS4, cS5, cS6, fS, zS⟩ := own7 oS
  obtain ⟨cH0, cH1, cH2, cH3, cH4, fH, zH⟩ := own5t oH
  go_wp2_with fail
  refine (rtvalid_lit true l h a k src he true _ Hv.out).mono ?_
  rintro e w2 ⟨rfl, hb⟩
  replace oS := oS.below hb
  replace oH := oH.below hb
  replace bel := belowTo bel hb (by exact bel.size)
  clear hb cS0 cS1 cS2 cS3 cS4 cS5 cS6 fS zS cH0 cH1 cH2 cH3 cH4 fH zH
  obtain ⟨cS0, cS1, cS2, cS3, cS4, cS5, cS6, fS, zS⟩ := own7 oS
  obtain ⟨cH0, cH1, cH2, cH3, cH4, fH, zH⟩ := own5t oH
  go_wp2_with fail
  refine (rroot_lit true l h a k src he false _ Hr.out).mono ?_
  rintro e w3 ⟨rfl, hb⟩
  replace oS := oS.below hb
  replace oH := oH.below hb
  replace bel := belowTo bel hb (by exact bel.size)
  clear hb cS0 cS1 cS2 cS3 cS4 cS5 cS6 fS zS cH0 cH1 cH2 cH3 cH4 fH zH
  obtain ⟨cS0, cS1, cS2, cS3, cS4, cS5, cS6, fS, zS⟩ := own7 oS
  obtain ⟨cH0, cH1, cH2, cH3, cH4, fH, zH⟩ := own5t oH
  go_wp2_with fail
  refine (hear_lit true l h a k src he f p b s c true M P a (p + 1) f s 0 _ Hq.out).mono ?_
  rintro e w4 ⟨rfl, hb⟩
  replace oS := oS.below hb
  replace oH := oH.below hb
  replace bel := belowTo bel hb (by exact bel.size)
  clear hb cS0 cS1 cS2 cS3 cS4 cS5 cS6 fS zS cH0 cH1 cH2 cH3 cH4 fH zH
  obtain ⟨cS0, cS1, cS2, cS3, cS4, cS5, cS6, fS, zS⟩ := own7 oS
  obtain ⟨cH0, cH1, cH2, cH3, cH4, fH, zH⟩ := own5t oH
  go_wp2_with fail
  have oX : Own (w4.alloc (Obj.cells #[.bool true, .int .i64 M, .int .i64 P, .int .i64 a, .int .i64 (p + 1), .int .i64 f, .int .i64 s] 25)) w4.heap.size [.bool true, .int .i64 M, .int .i64 P, .int .i64 a, .int .i64 (p + 1), .int .i64 f, .int .i64 s] 25 := own_at _ _ rfl
  replace oS := oS.alloc (Obj.cells #[.bool true, .int .i64 M, .int .i64 P, .int .i64 a, .int .i64 (p + 1), .int .i64 f, .int .i64 s] 25)
  replace oH := oH.alloc (Obj.cells #[.bool true, .int .i64 M, .int .i64 P, .int .i64 a, .int .i64 (p + 1), .int .i64 f, .int .i64 s] 25)
  replace bel := bel.alloc bel.size (Obj.cells #[.bool true, .int .i64 M, .int .i64 P, .int .i64 a, .int .i64 (p + 1), .int .i64 f, .int .i64 s] 25)
  clear cS0 cS1 cS2 cS3 cS4 cS5 cS6 fS zS cH0 cH1 cH2 cH3 cH4 fH zH
  generalize w4.alloc (Obj.cells #[.bool true, .int .i64 M, .int .i64 P, .int .i64 a, .int .i64 (p + 1), .int .i64 f, .int .i64 s] 25) = w5 at oS oH oX bel ⊢
  obtain ⟨cS0, cS1, cS2, cS3, cS4, cS5, cS6, fS, zS⟩ := own7 oS
  obtain ⟨cH0, cH1, cH2, cH3, cH4, fH, zH⟩ := own5t oH
  obtain ⟨cX0, cX1, cX2, cX3, cX4, cX5, cX6, fX, zX⟩ := own7 oX
  go_wp2_with fail
  refine (heard_lit f p b s c U V a 0 _ Hd.out).mono ?_
  rintro e w6 ⟨rfl, hb⟩
  replace oS := oS.below hb
  replace oH := oH.below hb
  replace oX := oX.below hb
  replace bel := belowTo bel hb (by exact bel.size)
  clear hb cS0 cS1 cS2 cS3 cS4 cS5 cS6 fS zS cH0 cH1 cH2 cH3 cH4 fH zH cX0 cX1 cX2 cX3 cX4 cX5 cX6 fX zX
  obtain ⟨cS0, cS1, cS2, cS3, cS4, cS5, cS6, fS, zS⟩ := own7 oS
  obtain ⟨cH0, cH1, cH2, cH3, cH4, fH, zH⟩ := own5t oH
  obtain ⟨cX0, cX1, cX2, cX3, cX4, cX5, cX6, fX, zX⟩ := own7 oX
  go_wp2_with fail
  have oD : Own ((w6.alloc (Obj.cells #[.int .i64 U, .int .i64 V, .int .i64 a] 23)).alloc (Obj.cells #[.int .i64 l, .int .i64 h, .int .i64 a, .int .i64 U, .int .i64 V, .int .i64 a] 23)) (w6.heap.size) [.int .i64 U, .int .i64 V, .int .i64 a] 23 := (Own.alloc (own_at _ _ rfl) (Obj.cells #[.int .i64 l, .int .i64 h, .int .i64 a, .int .i64 U, .int .i64 V, .int .i64 a] 23))
  have oZ : Own ((w6.alloc (Obj.cells #[.int .i64 U, .int .i64 V, .int .i64 a] 23)).alloc (Obj.cells #[.int .i64 l, .int .i64 h, .int .i64 a, .int .i64 U, .int .i64 V, .int .i64 a] 23)) (w6.heap.size + 1) [.int .i64 l, .int .i64 h, .int .i64 a, .int .i64 U, .int .i64 V, .int .i64 a] 23 := (own_at _ _ (by simp))
  replace oS := ((oS.alloc (Obj.cells #[.int .i64 U, .int .i64 V, .int .i64 a] 23)).alloc (Obj.cells #[.int .i64 l, .int .i64 h, .int .i64 a, .int .i64 U, .int .i64 V, .int .i64 a] 23))
  replace oH := ((oH.alloc (Obj.cells #[.int .i64 U, .int .i64 V, .int .i64 a] 23)).alloc (Obj.cells #[.int .i64 l, .int .i64 h, .int .i64 a, .int .i64 U, .int .i64 V, .int .i64 a] 23))
  replace oX := ((oX.alloc (Obj.cells #[.int .i64 U, .int .i64 V, .int .i64 a] 23)).alloc (Obj.cells #[.int .i64 l, .int .i64 h, .int .i64 a, .int .i64 U, .int .i64 V, .int .i64 a] 23))
  replace bel := ((bel.alloc (by have := bel.size; simp; omega) (Obj.cells #[.int .i64 U, .int .i64 V, .int .i64 a] 23)).alloc (by have := bel.size; simp; omega) (Obj.cells #[.int .i64 l, .int .i64 h, .int .i64 a, .int .i64 U, .int .i64 V, .int .i64 a] 23))
  clear cS0 cS1 cS2 cS3 cS4 cS5 cS6 fS zS cH0 cH1 cH2 cH3 cH4 fH zH cX0 cX1 cX2 cX3 cX4 cX5 cX6 fX zX
  generalize ((w6.alloc (Obj.cells #[.int .i64 U, .int .i64 V, .int .i64 a] 23)).alloc (Obj.cells #[.int .i64 l, .int .i64 h, .int .i64 a, .int .i64 U, .int .i64 V, .int .i64 a] 23)) = w8 at oS oH oX oD oZ bel ⊢
  obtain ⟨cS0, cS1, cS2, cS3, cS4, cS5, cS6, fS, zS⟩ := own7 oS
  obtain ⟨cH0, cH1, cH2, cH3, cH4, fH, zH⟩ := own5t oH
  obtain ⟨cX0, cX1, cX2, cX3, cX4, cX5, cX6, fX, zX⟩ := own7 oX
  obtain ⟨cD0, cD1, cD2, fD, zD⟩ := own3 oD
  obtain ⟨cZ0, cZ1, cZ2, cZ3, cZ4, cZ5, fZ, zZ⟩ := own6 oZ
  refine wp_loop_rounds 3 ?_
  rw [rounds_succ]
  go_wp2_with fail
  have kbY8 : w.heap.size ≤ w8.heap.size := bel.size
  have oY8 : Own (w8.alloc (Obj.cells #[.int .i64 l, .int .i64 h, .int .i64 a] 23)) w8.heap.size [.int .i64 l, .int .i64 h, .int .i64 a] 23 := own_at _ _ rfl
  have qY8S : w.heap.size < w8.heap.size := zS
  have qY8H : w.heap.size + 1 < w8.heap.size := zH
  have qY8X : w4.heap.size < w8.heap.size := zX
  have qY8D : w6.heap.size < w8.heap.size := zD
  have qY8Z : w6.heap.size + 1 < w8.heap.size := zZ
  replace oS := oS.alloc (Obj.cells #[.int .i64 l, .int .i64 h, .int .i64 a] 23)
  replace oH := oH.alloc (Obj.cells #[.int .i64 l, .int .i64 h, .int .i64 a] 23)
  replace oX := oX.alloc (Obj.cells #[.int .i64 l, .int .i64 h, .int .i64 a] 23)
  replace oD := oD.alloc (Obj.cells #[.int .i64 l, .int .i64 h, .int .i64 a] 23)
  replace oZ := oZ.alloc (Obj.cells #[.int .i64 l, .int .i64 h, .int .i64 a] 23)
  replace bel := bel.alloc bel.size (Obj.cells #[.int .i64 l, .int .i64 h, .int .i64 a] 23)
  clear cS0 cS1 cS2 cS3 cS4 cS5 cS6 fS zS cH0 cH1 cH2 cH3 cH4 fH zH cX0 cX1 cX2 cX3 cX4 cX5 cX6 fX zX cD0 cD1 cD2 fD zD cZ0 cZ1 cZ2 cZ3 cZ4 cZ5 fZ zZ
  generalize w8.alloc (Obj.cells #[.int .i64 l, .int .i64 h, .int .i64 a] 23) = w9 at oS oH oX oD oZ oY8 bel ⊢
  obtain ⟨cS0, cS1, cS2, cS3, cS4, cS5, cS6, fS, zS⟩ := own7 oS
  obtain ⟨cH0, cH1, cH2, cH3, cH4, fH, zH⟩ := own5t oH
  obtain ⟨cX0, cX1, cX2, cX3, cX4, cX5, cX6, fX, zX⟩ := own7 oX
  obtain ⟨cD0, cD1, cD2, fD, zD⟩ := own3 oD
  obtain ⟨cZ0, cZ1, cZ2, cZ3, cZ4, cZ5, fZ, zZ⟩ := own6 oZ
  obtain ⟨cY80, cY81, cY82, fY8, zY8⟩ := own3 oY8
  go_wp2_with fail
  refine (bgrow_lit l h a a GL GH a 0 _ Hg.out).mono ?_
  rintro e w10 ⟨rfl, hb⟩
  replace oS := oS.below hb
  replace oH := oH.below hb
  replace oX := oX.below hb
  replace oD := oD.below hb
  replace oZ := oZ.below hb
  replace oY8 := oY8.below hb
  replace bel := belowTo bel hb (by exact bel.size)
  clear hb cS0 cS1 cS2 cS3 cS4 cS5 cS6 fS zS cH0 cH1 cH2 cH3 cH4 fH zH cX0 cX1 cX2 cX3 cX4 cX5 cX6 fX zX cD0 cD1 cD2 fD zD cZ0 cZ1 cZ2 cZ3 cZ4 cZ5 fZ zZ cY80 cY81 cY82 fY8 zY8
  obtain ⟨cS0, cS1, cS2, cS3, cS4, cS5, cS6, fS, zS⟩ := own7 oS
  obtain ⟨cH0, cH1, cH2, cH3, cH4, fH, zH⟩ := own5t oH
  obtain ⟨cX0, cX1, cX2, cX3, cX4, cX5, cX6, fX, zX⟩ := own7 oX
  obtain ⟨cD0, cD1, cD2, fD, zD⟩ := own3 oD
  obtain ⟨cZ0, cZ1, cZ2, cZ3, cZ4, cZ5, fZ, zZ⟩ := own6 oZ
  obtain ⟨cY80, cY81, cY82, fY8, zY8⟩ := own3 oY8
  go_wp2_with fail
  replace oS := (((oS.other (by first | (simp; done) | (simp; omega) | omega | (dsimp only; omega)) (a := ⟨w8.heap.size, 0, none⟩) (.int .i64 GL)).other (by first | (simp; done) | (simp; omega) | omega | (dsimp only; omega)) (a := ⟨w8.heap.size, 1, none⟩) (.int .i64 GH)).other (by first | (simp; done) | (simp; omega) | omega | (dsimp only; omega)) (a := ⟨w8.heap.size, 2, none⟩) (.int .i64 a))
  replace oH := (((oH.other (by first | (simp; done) | (simp; omega) | omega | (dsimp only; omega)) (a := ⟨w8.heap.size, 0, none⟩) (.int .i64 GL)).other (by first | (simp; done) | (simp; omega) | omega | (dsimp only; omega)) (a := ⟨w8.heap.size, 1, none⟩) (.int .i64 GH)).other (by first | (simp; done) | (simp; omega) | omega | (dsimp only; omega)) (a := ⟨w8.heap.size, 2, none⟩) (.int .i64 a))
  replace oX := (((oX.other (by first | (simp; done) | (simp; omega) | omega | (dsimp only; omega)) (a := ⟨w8.heap.size, 0, none⟩) (.int .i64 GL)).other (by first | (simp; done) | (simp; omega) | omega | (dsimp only; omega)) (a := ⟨w8.heap.size, 1, none⟩) (.int .i64 GH)).other (by first | (simp; done) | (simp; omega) | omega | (dsimp only; omega)) (a := ⟨w8.heap.size, 2, none⟩) (.int .i64 a))
  replace oD := (((oD.other (by first | (simp; done) | (simp; omega) | omega | (dsimp only; omega)) (a := ⟨w8.heap.size, 0, none⟩) (.int .i64 GL)).other (by first | (simp; done) | (simp; omega) | omega | (dsimp only; omega)) (a := ⟨w8.heap.size, 1, none⟩) (.int .i64 GH)).other (by first | (simp; done) | (simp; omega) | omega | (dsimp only; omega)) (a := ⟨w8.heap.size, 2, none⟩) (.int .i64 a))
  replace oZ := (((oZ.other (by first | (simp; done) | (simp; omega) | omega | (dsimp only; omega)) (a := ⟨w8.heap.size, 0, none⟩) (.int .i64 GL)).other (by first | (simp; done) | (simp; omega) | omega | (dsimp only; omega)) (a := ⟨w8.heap.size, 1, none⟩) (.int .i64 GH)).other (by first | (simp; done) | (simp; omega) | omega | (dsimp only; omega)) (a := ⟨w8.heap.size, 2, none⟩) (.int .i64 a))
  replace bel := (((bel.setCell (p := ⟨w8.heap.size, 0, none⟩) (by first | (simp; done) | (simp; omega) | omega | (dsimp only; omega)) (.int .i64 GL)).setCell (p := ⟨w8.heap.size, 1, none⟩) (by first | (simp; done) | (simp; omega) | omega | (dsimp only; omega)) (.int .i64 GH)).setCell (p := ⟨w8.heap.size, 2, none⟩) (by first | (simp; done) | (simp; omega) | omega | (dsimp only; omega)) (.int .i64 a))
  replace oY8 : Own _ (w8.heap.size) [.int .i64 GL, .int .i64 GH, .int .i64 a] 23 := (((oY8.set 0 (.int .i64 GL)).set 1 (.int .i64 GH)).set 2 (.int .i64 a))
  clear cS0 cS1 cS2 cS3 cS4 cS5 cS6 fS zS cH0 cH1 cH2 cH3 cH4 fH zH cX0 cX1 cX2 cX3 cX4 cX5 cX6 fX zX cD0 cD1 cD2 fD zD cZ0 cZ1 cZ2 cZ3 cZ4 cZ5 fZ zZ cY80 cY81 cY82 fY8 zY8
  generalize (((w10.setCell ⟨w8.heap.size, 0, none⟩ (.int .i64 GL)).setCell ⟨w8.heap.size, 1, none⟩ (.int .i64 GH)).setCell ⟨w8.heap.size, 2, none⟩ (.int .i64 a)) = w11 at oS oH oX oD oZ oY8 bel ⊢
  obtain ⟨cS0, cS1, cS2, cS3, cS4, cS5, cS6, fS, zS⟩ := own7 oS
  obtain ⟨cH0, cH1, cH2, cH3, cH4, fH, zH⟩ := own5t oH
  obtain ⟨cX0, cX1, cX2, cX3, cX4, cX5, cX6, fX, zX⟩ := own7 oX
  obtain ⟨cD0, cD1, cD2, fD, zD⟩ := own3 oD
  obtain ⟨cZ0, cZ1, cZ2, cZ3, cZ4, cZ5, fZ, zZ⟩ := own6 oZ
  obtain ⟨cY80, cY81, cY82, fY8, zY8⟩ := own3 oY8
  have oG11 : Own (w11.alloc (Obj.cells #[.int .i64 GL, .int .i64 GH, .int .i64 a] 23)) w11.heap.size [.int .i64 GL, .int .i64 GH, .int .i64 a] 23 := own_at _ _ rfl
  replace oS := oS.alloc (Obj.cells #[.int .i64 GL, .int .i64 GH, .int .i64 a] 23)
  replace oH := oH.alloc (Obj.cells #[.int .i64 GL, .int .i64 GH, .int .i64 a] 23)
  replace oX := oX.alloc (Obj.cells #[.int .i64 GL, .int .i64 GH, .int .i64 a] 23)
  replace oD := oD.alloc (Obj.cells #[.int .i64 GL, .int .i64 GH, .int .i64 a] 23)
  replace oZ := oZ.alloc (Obj.cells #[.int .i64 GL, .int .i64 GH, .int .i64 a] 23)
  replace oY8 := oY8.alloc (Obj.cells #[.int .i64 GL, .int .i64 GH, .int .i64 a] 23)
  replace bel := bel.alloc bel.size (Obj.cells #[.int .i64 GL, .int .i64 GH, .int .i64 a] 23)
  clear cS0 cS1 cS2 cS3 cS4 cS5 cS6 fS zS cH0 cH1 cH2 cH3 cH4 fH zH cX0 cX1 cX2 cX3 cX4 cX5 cX6 fX zX cD0 cD1 cD2 fD zD cZ0 cZ1 cZ2 cZ3 cZ4 cZ5 fZ zZ cY80 cY81 cY82 fY8 zY8
  generalize w11.alloc (Obj.cells #[.int .i64 GL, .int .i64 GH, .int .i64 a] 23) = w12 at oS oH oX oD oZ oY8 oG11 bel ⊢
  obtain ⟨cS0, cS1, cS2, cS3, cS4, cS5, cS6, fS, zS⟩ := own7 oS
  obtain ⟨cH0, cH1, cH2, cH3, cH4, fH, zH⟩ := own5t oH
  obtain ⟨cX0, cX1, cX2, cX3, cX4, cX5, cX6, fX, zX⟩ := own7 oX
  obtain ⟨cD0, cD1, cD2, fD, zD⟩ := own3 oD
  obtain ⟨cZ0, cZ1, cZ2, cZ3, cZ4, cZ5, fZ, zZ⟩ := own6 oZ
  obtain ⟨cY80, cY81, cY82, fY8, zY8⟩ := own3 oY8
  obtain ⟨cG110, cG111, cG112, fG11, zG11⟩ := own3 oG11
  rw [rounds_succ]
  go_wp2_with fail
  have kbY12 : w.heap.size ≤ w12.heap.size := bel.size
  have oY12 : Own (w12.alloc (Obj.cells #[.int .i64 U, .int .i64 V, .int .i64 a] 23)) w12.heap.size [.int .i64 U, .int .i64 V, .int .i64 a] 23 := own_at _ _ rfl
  have qY12S : w.heap.size < w12.heap.size := zS
  have qY12H : w.heap.size + 1 < w12.heap.size := zH
  have qY12X : w4.heap.size < w12.heap.size := zX
  have qY12D : w6.heap.size < w12.heap.size := zD
  have qY12Z : w6.heap.size + 1 < w12.heap.size := zZ
  have qY12Y8 : w8.heap.size < w12.heap.size := zY8
  have qY12G11 : w11.heap.size < w12.heap.size := zG11
  replace oS := oS.alloc (Obj.cells #[.int .i64 U, .int .i64 V, .int .i64 a] 23)
  replace oH := oH.alloc (Obj.cells #[.int .i64 U, .int .i64 V, .int .i64 a] 23)
  replace oX := oX.alloc (Obj.cells #[.int .i64 U, .int .i64 V, .int .i64 a] 23)
  replace oD := oD.alloc (Obj.cells #[.int .i64 U, .int .i64 V, .int .i64 a] 23)
  replace oZ := oZ.alloc (Obj.cells #[.int .i64 U, .int .i64 V, .int .i64 a] 23)
  replace oY8 := oY8.alloc (Obj.cells #[.int .i64 U, .int .i64 V, .int .i64 a] 23)
  replace oG11 := oG11.alloc (Obj.cells #[.int .i64 U, .int .i64 V, .int .i64 a] 23)
  replace bel := bel.alloc bel.size (Obj.cells #[.int .i64 U, .int .i64 V, .int .i64 a] 23)
  clear cS0 cS1 cS2 cS3 cS4 cS5 cS6 fS zS cH0 cH1 cH2 cH3 cH4 fH zH cX0 cX1 cX2 cX3 cX4 cX5 cX6 fX zX cD0 cD1 cD2 fD zD cZ0 cZ1 cZ2 cZ3 cZ4 cZ5 fZ zZ cY80 cY81 cY82 fY8 zY8 cG110 cG111 cG112 fG11 zG11
  generalize w12.alloc (Obj.cells #[.int .i64 U, .int .i64 V, .int .i64 a] 23) = w13 at oS oH oX oD oZ oY8 oG11 oY12 bel ⊢
  obtain ⟨cS0, cS1, cS2, cS3, cS4, cS5, cS6, fS, zS⟩ := own7 oS
  obtain ⟨cH0, cH1, cH2, cH3, cH4, fH, zH⟩ := own5t oH
  obtain ⟨cX0, cX1, cX2, cX3, cX4, cX5, cX6, fX, zX⟩ := own7 oX
  obtain ⟨cD0, cD1, cD2, fD, zD⟩ := own3 oD
  obtain ⟨cZ0, cZ1, cZ2, cZ3, cZ4, cZ5, fZ, zZ⟩ := own6 oZ
  obtain ⟨cY80, cY81, cY82, fY8, zY8⟩ := own3 oY8
  obtain ⟨cG110, cG111, cG112, fG11, zG11⟩ := own3 oG11
  obtain ⟨cY120, cY121, cY122, fY12, zY12⟩ := own3 oY12
  go_wp2_with fail
  refine (bgrow_lit U V a a KL KH a 0 _ Hhk.out).mono ?_
  rintro e w14 ⟨rfl, hb⟩
  replace oS := oS.below hb
  replace oH := oH.below hb
  replace oX := oX.below hb
  replace oD := oD.below hb
  replace oZ := oZ.below hb
  replace oY8 := oY8.below hb
  replace oG11 := oG11.below hb
  replace oY12 := oY12.below hb
  replace bel := belowTo bel hb (by exact bel.size)
  clear hb cS0 cS1 cS2 cS3 cS4 cS5 cS6 fS zS cH0 cH1 cH2 cH3 cH4 fH zH cX0 cX1 cX2 cX3 cX4 cX5 cX6 fX zX cD0 cD1 cD2 fD zD cZ0 cZ1 cZ2 cZ3 cZ4 cZ5 fZ zZ cY80 cY81 cY82 fY8 zY8 cG110 cG111 cG112 fG11 zG11 cY120 cY121 cY122 fY12 zY12
  obtain ⟨cS0, cS1, cS2, cS3, cS4, cS5, cS6, fS, zS⟩ := own7 oS
  obtain ⟨cH0, cH1, cH2, cH3, cH4, fH, zH⟩ := own5t oH
  obtain ⟨cX0, cX1, cX2, cX3, cX4, cX5, cX6, fX, zX⟩ := own7 oX
  obtain ⟨cD0, cD1, cD2, fD, zD⟩ := own3 oD
  obtain ⟨cZ0, cZ1, cZ2, cZ3, cZ4, cZ5, fZ, zZ⟩ := own6 oZ
  obtain ⟨cY80, cY81, cY82, fY8, zY8⟩ := own3 oY8
  obtain ⟨cG110, cG111, cG112, fG11, zG11⟩ := own3 oG11
  obtain ⟨cY120, cY121, cY122, fY12, zY12⟩ := own3 oY12
  go_wp2_with fail
  replace oS := (((oS.other (by first | (simp; done) | (simp; omega) | omega | (dsimp only; omega)) (a := ⟨w12.heap.size, 0, none⟩) (.int .i64 KL)).other (by first | (simp; done) | (simp; omega) | omega | (dsimp only; omega)) (a := ⟨w12.heap.size, 1, none⟩) (.int .i64 KH)).other (by first | (simp; done) | (simp; omega) | omega | (dsimp only; omega)) (a := ⟨w12.heap.size, 2, none⟩) (.int .i64 a))
  replace oH := (((oH.other (by first | (simp; done) | (simp; omega) | omega | (dsimp only; omega)) (a := ⟨w12.heap.size, 0, none⟩) (.int .i64 KL)).other (by first | (simp; done) | (simp; omega) | omega | (dsimp only; omega)) (a := ⟨w12.heap.size, 1, none⟩) (.int .i64 KH)).other (by first | (simp; done) | (simp; omega) | omega | (dsimp only; omega)) (a := ⟨w12.heap.size, 2, none⟩) (.int .i64 a))
  replace oX := (((oX.other (by first | (simp; done) | (simp; omega) | omega | (dsimp only; omega)) (a := ⟨w12.heap.size, 0, none⟩) (.int .i64 KL)).other (by first | (simp; done) | (simp; omega) | omega | (dsimp only; omega)) (a := ⟨w12.heap.size, 1, none⟩) (.int .i64 KH)).other (by first | (simp; done) | (simp; omega) | omega | (dsimp only; omega)) (a := ⟨w12.heap.size, 2, none⟩) (.int .i64 a))
  replace oD := (((oD.other (by first | (simp; done) | (simp; omega) | omega | (dsimp only; omega)) (a := ⟨w12.heap.size, 0, none⟩) (.int .i64 KL)).other (by first | (simp; done) | (simp; omega) | omega | (dsimp only; omega)) (a := ⟨w12.heap.size, 1, none⟩) (.int .i64 KH)).other (by first | (simp; done) | (simp; omega) | omega | (dsimp only; omega)) (a := ⟨w12.heap.size, 2, none⟩) (.int .i64 a))
  replace oZ := (((oZ.other (by first | (simp; done) | (simp; omega) | omega | (dsimp only; omega)) (a := ⟨w12.heap.size, 0, none⟩) (.int .i64 KL)).other (by first | (simp; done) | (simp; omega) | omega | (dsimp only; omega)) (a := ⟨w12.heap.size, 1, none⟩) (.int .i64 KH)).other (by first | (simp; done) | (simp; omega) | omega | (dsimp only; omega)) (a := ⟨w12.heap.size, 2, none⟩) (.int .i64 a))
  replace oY8 := (((oY8.other (by first | (simp; done) | (simp; omega) | omega | (dsimp only; omega)) (a := ⟨w12.heap.size, 0, none⟩) (.int .i64 KL)).other (by first | (simp; done) | (simp; omega) | omega | (dsimp only; omega)) (a := ⟨w12.heap.size, 1, none⟩) (.int .i64 KH)).other (by first | (simp; done) | (simp; omega) | omega | (dsimp only; omega)) (a := ⟨w12.heap.size, 2, none⟩) (.int .i64 a))
  replace oG11 := (((oG11.other (by first | (simp; done) | (simp; omega) | omega | (dsimp only; omega)) (a := ⟨w12.heap.size, 0, none⟩) (.int .i64 KL)).other (by first | (simp; done) | (simp; omega) | omega | (dsimp only; omega)) (a := ⟨w12.heap.size, 1, none⟩) (.int .i64 KH)).other (by first | (simp; done) | (simp; omega) | omega | (dsimp only; omega)) (a := ⟨w12.heap.size, 2, none⟩) (.int .i64 a))
  replace bel := (((bel.setCell (p := ⟨w12.heap.size, 0, none⟩) (by first | (simp; done) | (simp; omega) | omega | (dsimp only; omega)) (.int .i64 KL)).setCell (p := ⟨w12.heap.size, 1, none⟩) (by first | (simp; done) | (simp; omega) | omega | (dsimp only; omega)) (.int .i64 KH)).setCell (p := ⟨w12.heap.size, 2, none⟩) (by first | (simp; done) | (simp; omega) | omega | (dsimp only; omega)) (.int .i64 a))
  replace oY12 : Own _ (w12.heap.size) [.int .i64 KL, .int .i64 KH, .int .i64 a] 23 := (((oY12.set 0 (.int .i64 KL)).set 1 (.int .i64 KH)).set 2 (.int .i64 a))
  clear cS0 cS1 cS2 cS3 cS4 cS5 cS6 fS zS cH0 cH1 cH2 cH3 cH4 fH zH cX0 cX1 cX2 cX3 cX4 cX5 cX6 fX zX cD0 cD1 cD2 fD zD cZ0 cZ1 cZ2 cZ3 cZ4 cZ5 fZ zZ cY80 cY81 cY82 fY8 zY8 cG110 cG111 cG112 fG11 zG11 cY120 cY121 cY122 fY12 zY12
  generalize (((w14.setCell ⟨w12.heap.size, 0, none⟩ (.int .i64 KL)).setCell ⟨w12.heap.size, 1, none⟩ (.int .i64 KH)).setCell ⟨w12.heap.size, 2, none⟩ (.int .i64 a)) = w15 at oS oH oX oD oZ oY8 oG11 oY12 bel ⊢
  obtain ⟨cS0, cS1, cS2, cS3, cS4, cS5, cS6, fS, zS⟩ := own7 oS
  obtain ⟨cH0, cH1, cH2, cH3, cH4, fH, zH⟩ := own5t oH
  obtain ⟨cX0, cX1, cX2, cX3, cX4, cX5, cX6, fX, zX⟩ := own7 oX
  obtain ⟨cD0, cD1, cD2, fD, zD⟩ := own3 oD
  obtain ⟨cZ0, cZ1, cZ2, cZ3, cZ4, cZ5, fZ, zZ⟩ := own6 oZ
  obtain ⟨cY80, cY81, cY82, fY8, zY8⟩ := own3 oY8
  obtain ⟨cG110, cG111, cG112, fG11, zG11⟩ := own3 oG11
  obtain ⟨cY120, cY121, cY122, fY12, zY12⟩ := own3 oY12
  have oG15 : Own (w15.alloc (Obj.cells #[.int .i64 KL, .int .i64 KH, .int .i64 a] 23)) w15.heap.size [.int .i64 KL, .int .i64 KH, .int .i64 a] 23 := own_at _ _ rfl
  replace oS := oS.alloc (Obj.cells #[.int .i64 KL, .int .i64 KH, .int .i64 a] 23)
  replace oH := oH.alloc (Obj.cells #[.int .i64 KL, .int .i64 KH, .int .i64 a] 23)
  replace oX := oX.alloc (Obj.cells #[.int .i64 KL, .int .i64 KH, .int .i64 a] 23)
  replace oD := oD.alloc (Obj.cells #[.int .i64 KL, .int .i64 KH, .int .i64 a] 23)
  replace oZ := oZ.alloc (Obj.cells #[.int .i64 KL, .int .i64 KH, .int .i64 a] 23)
  replace oY8 := oY8.alloc (Obj.cells #[.int .i64 KL, .int .i64 KH, .int .i64 a] 23)
  replace oG11 := oG11.alloc (Obj.cells #[.int .i64 KL, .int .i64 KH, .int .i64 a] 23)
  replace oY12 := oY12.alloc (Obj.cells #[.int .i64 KL, .int .i64 KH, .int .i64 a] 23)
  replace bel := bel.alloc bel.size (Obj.cells #[.int .i64 KL, .int .i64 KH, .int .i64 a] 23)
  clear cS0 cS1 cS2 cS3 cS4 cS5 cS6 fS zS cH0 cH1 cH2 cH3 cH4 fH zH cX0 cX1 cX2 cX3 cX4 cX5 cX6 fX zX cD0 cD1 cD2 fD zD cZ0 cZ1 cZ2 cZ3 cZ4 cZ5 fZ zZ cY80 cY81 cY82 fY8 zY8 cG110 cG111 cG112 fG11 zG11 cY120 cY121 cY122 fY12 zY12
  generalize w15.alloc (Obj.cells #[.int .i64 KL, .int .i64 KH, .int .i64 a] 23) = w16 at oS oH oX oD oZ oY8 oG11 oY12 oG15 bel ⊢
  obtain ⟨cS0, cS1, cS2, cS3, cS4, cS5, cS6, fS, zS⟩ := own7 oS
  obtain ⟨cH0, cH1, cH2, cH3, cH4, fH, zH⟩ := own5t oH
  obtain ⟨cX0, cX1, cX2, cX3, cX4, cX5, cX6, fX, zX⟩ := own7 oX
  obtain ⟨cD0, cD1, cD2, fD, zD⟩ := own3 oD
  obtain ⟨cZ0, cZ1, cZ2, cZ3, cZ4, cZ5, fZ, zZ⟩ := own6 oZ
  obtain ⟨cY80, cY81, cY82, fY8, zY8⟩ := own3 oY8
  obtain ⟨cG110, cG111, cG112, fG11, zG11⟩ := own3 oG11
  obtain ⟨cY120, cY121, cY122, fY12, zY12⟩ := own3 oY12
  obtain ⟨cG150, cG151, cG152, fG15, zG15⟩ := own3 oG15
  rw [rounds_succ]
  go_wp2
  all_goals (go_ret; exact ⟨by first | rfl | simp_all, (by repeat (first | exact bel | refine Below.alloc ?_ (by have := bel.size; simp; omega) _))⟩)

theorem timesyncBetter_walk (sy : Bool) (l h a k src he f p b s c : Int) (w : World) (_0 : IntKind.i64.has l) (_1 : IntKind.i64.has h) (_2 : IntKind.i64.has a) (_3 : IntKind.i64.has k) (_4 : IntKind.i64.has src) (_5 : IntKind.i64.has he) (_6 : IntKind.i64.has f) (_7 : IntKind.i64.has p) (_8 : IntKind.i64.has b) (_9 : IntKind.i64.has s) (_10 : IntKind.i64.has c) :
    Calls Try.prog 6 #[.agg #[.bool sy, .int .i64 l, .int .i64 h, .int .i64 a, .int .i64 k, .int .i64 src, .int .i64 he], .agg #[.int .i64 f, .int .i64 p, .int .i64 b, .int .i64 s, .int .i64 c]] w fun e w' => e = .returned (.bool true) ∧ Below w.heap.size w w' := by
  cases v : vldT sy l h a k src he with
  | false =>
    cases sy with
    | false => exact timesyncBetter_bad_false l h a k src he f p b s c w v
    | true => exact timesyncBetter_bad_true l h a k src he f p b s c w v
  | true =>
    cases sy with
    | false => exact timesyncBetter_off l h a k src he f p b s c w v
    | true =>
      by_cases hk : k = 0
      · exact timesyncBetter_root l h a k src he f p b s c w v (by simp [hk])
      · have r : (true && (k == 0)) = false := by simpa using hk
        obtain ⟨Y, X1, X2, X3, X4, X5, X6, E, q⟩ := hear_ex true l h a k src he f p b s c
        by_cases e0 : E = 0
        · subst e0
          cases x : tsB Y X1 X2 X3 X4 X5 X6 true l h a k src he with
          | true => exact timesyncBetter_same l h a k src he f p b s c _ _ _ _ _ _ _ w v r q x
          | false =>
            have q' := q
            rcases q with ⟨_, rfl, rfl, rfl, rfl, rfl, rfl, rfl, _⟩ | ⟨hC, rfl, h1, h2, h3, rfl, rfl, rfl, _⟩
            · rw [tsB_self] at x; cases x
            · obtain ⟨_, vh, ⟨_, _, b1, b2⟩, _, _⟩ := hr_new hC
              obtain ⟨d0, d1, d2, d3⟩ := he_ok vh
              rcases better hC with ⟨lt, m3, g, m1, m2, m4, m5⟩ | ⟨lt, m3, g, m1, m2, m4, m5⟩ | ⟨eq, m3, g, g', m1, m2, m4, m5⟩
              · rw [h1] at m1 m4; rw [h2] at m2 m5; rw [h3] at m3; replace m3 := m3.symm; subst m3
                exact timesyncBetter_early l h a k src he f p b s c _ _ _ _ _ _ _ w v r q' x b1 b2 ⟨rfl, rfl, rfl, d0⟩ lt ⟨rfl, rfl, (gr_zero g).2.2.2.2, g⟩ m1 m2 m4 m5
              · rw [h1] at m1 m4; rw [h2] at m2 m5; rw [h3] at m3; replace m3 := m3.symm; subst m3
                exact timesyncBetter_late l h a k src he f p b s c _ _ _ _ _ _ _ w v r q' x b1 b2 ⟨rfl, rfl, rfl, d0⟩ lt ⟨rfl, rfl, (gr_zero g).2.2.2.2, g⟩ m1 m2 m4 m5
              · rw [h1] at m1 m4; rw [h2] at m2 m5; rw [h3] at m3; replace m3 := m3.symm; subst m3
                exact timesyncBetter_even l h a k src he f p b s c _ _ _ _ _ _ _ _ w v r q' x b1 b2 ⟨rfl, rfl, eq, d0⟩ ⟨rfl, rfl, (gr_zero g).2.2.2.2, g⟩ ⟨rfl, rfl, (gr_zero g').2.2.2.2, g'⟩ m1 m2 m4 m5
        · exact timesyncBetter_err l h a k src he f p b s c _ _ _ _ _ _ _ _ w v r q (by simpa using e0) (by simpa using e0)

end Go.Proofs.Ytfclodgfifbfbaa

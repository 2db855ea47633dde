/- TimesyncRefuses: the walk of the law. It returns true for every input, and leaves old memory alone. -/
import Derived.Test.YtfclodgfifbfbaaHead09
import Derived.Test.YtfclodgfifbfbaaIs09
import Derived.Test.YtfclodgfifbfbaaHolds09
namespace Go.Proofs.Ytfclodgfifbfbaa
open Go.RowKit

set_option linter.unusedVariables false in
set_option maxRecDepth 100000 in
set_option maxHeartbeats 4000000 in
theorem timesyncRefuses_same0_true (l h a k src he f p b s c X1 X2 X3 X4 X5 X6 E : Int) (Y : Bool) (w : World) (q : HearIs false l h a k src he f p b s c Y X1 X2 X3 X4 X5 X6 E) (r : tsB Y X1 X2 X3 X4 X5 X6 false l h a k src he = true) (h0 : (E == 0) = true) :
    Calls Try.prog 5 #[.agg #[.bool false, .int .i64 l, .int .i64 h, .int .i64 a, .int .i64 k, .int .i64 src, .int .i64 he], .agg #[.int .i64 f, .int .i64 p, .int .i64 b, .int .i64 s, .int .i64 c]] w fun e w' => e = .returned (.bool true) ∧ Below w.heap.size w w' := by
  have e1 := eq_ts_lit Y X1 X2 X3 X4 X5 X6 false l h a k src he r
  have Hq := Lib.hid q
  clear q
  have Hr := Lib.hid r
  clear r
  go_enter Try.func5, Try.ntmps5
  go_wp2_with fail
  refine (head_any _).mono ?_
  rintro e w1 ⟨rfl, hb⟩
  have oS : Own w1 w.heap.size [.bool false, .int .i64 l, .int .i64 h, .int .i64 a, .int .i64 k, .int .i64 src, .int .i64 he] 25 := ((own_at _ _ rfl).alloc _).below hb
  have oH : Own w1 (w.heap.size + 1) [.int .i64 f, .int .i64 p, .int .i64 b, .int .i64 s, .int .i64 c] 27 := (own_at _ _ (by simp)).below hb
  have bel := belowTo (((Below.refl w.heap.size w).alloc (by simp) _).alloc (by simp) _) hb (by simp; omega)
  clear hb 
  obtain ⟨cS0, cS1, cS2, cS3, cS4, cS5, cS6, fS, zS⟩ := own7 oS
  obtain ⟨cH0, cH1, cH2, cH3, cH4, fH, zH⟩ := own5t oH
  go_wp2_with fail
  refine (hear_lit false l h a k src he f p b s c Y X1 X2 X3 X4 X5 X6 E _ Hq.out).mono ?_
  rintro e w2 ⟨rfl, hb⟩
  replace oS := oS.below hb
  replace oH := oH.below hb
  replace bel := belowTo bel hb (by exact bel.size)
  clear hb cS0 cS1 cS2 cS3 cS4 cS5 cS6 fS zS cH0 cH1 cH2 cH3 cH4 fH zH
  obtain ⟨cS0, cS1, cS2, cS3, cS4, cS5, cS6, fS, zS⟩ := own7 oS
  obtain ⟨cH0, cH1, cH2, cH3, cH4, fH, zH⟩ := own5t oH
  go_wp2_with fail
  have oX : Own (w2.alloc (Obj.cells #[.bool Y, .int .i64 X1, .int .i64 X2, .int .i64 X3, .int .i64 X4, .int .i64 X5, .int .i64 X6] 25)) w2.heap.size [.bool Y, .int .i64 X1, .int .i64 X2, .int .i64 X3, .int .i64 X4, .int .i64 X5, .int .i64 X6] 25 := own_at _ _ rfl
  replace oS := oS.alloc (Obj.cells #[.bool Y, .int .i64 X1, .int .i64 X2, .int .i64 X3, .int .i64 X4, .int .i64 X5, .int .i64 X6] 25)
  replace oH := oH.alloc (Obj.cells #[.bool Y, .int .i64 X1, .int .i64 X2, .int .i64 X3, .int .i64 X4, .int .i64 X5, .int .i64 X6] 25)
  replace bel := bel.alloc bel.size (Obj.cells #[.bool Y, .int .i64 X1, .int .i64 X2, .int .i64 X3, .int .i64 X4, .int .i64 X5, .int .i64 X6] 25)
  clear cS0 cS1 cS2 cS3 cS4 cS5 cS6 fS zS cH0 cH1 cH2 cH3 cH4 fH zH
  generalize w2.alloc (Obj.cells #[.bool Y, .int .i64 X1, .int .i64 X2, .int .i64 X3, .int .i64 X4, .int .i64 X5, .int .i64 X6] 25) = w3 at oS oH oX bel ⊢
  obtain ⟨cS0, cS1, cS2, cS3, cS4, cS5, cS6, fS, zS⟩ := own7 oS
  obtain ⟨cH0, cH1, cH2, cH3, cH4, fH, zH⟩ := own5t oH
  obtain ⟨cX0, cX1, cX2, cX3, cX4, cX5, cX6, fX, zX⟩ := own7 oX
  go_wp2
  all_goals (go_ret; exact ⟨by first | rfl | simp_all, (by repeat (first | exact bel | refine Below.alloc ?_ (by have := bel.size; simp; omega) _))⟩)

set_option linter.unusedVariables false in
set_option maxRecDepth 100000 in
set_option maxHeartbeats 4000000 in
theorem timesyncRefuses_same0_false (l h a k src he f p b s c X1 X2 X3 X4 X5 X6 E : Int) (Y : Bool) (w : World) (q : HearIs false l h a k src he f p b s c Y X1 X2 X3 X4 X5 X6 E) (r : tsB Y X1 X2 X3 X4 X5 X6 false l h a k src he = true) (h0 : (E == 0) = false) :
    Calls Try.prog 5 #[.agg #[.bool false, .int .i64 l, .int .i64 h, .int .i64 a, .int .i64 k, .int .i64 src, .int .i64 he], .agg #[.int .i64 f, .int .i64 p, .int .i64 b, .int .i64 s, .int .i64 c]] w fun e w' => e = .returned (.bool true) ∧ Below w.heap.size w w' := by
  have e1 := eq_ts_lit Y X1 X2 X3 X4 X5 X6 false l h a k src he r
  have Hq := Lib.hid q
  clear q
  have Hr := Lib.hid r
  clear r
  go_enter Try.func5, Try.ntmps5
  go_wp2_with fail
  refine (head_any _).mono ?_
  rintro e w1 ⟨rfl, hb⟩
  have oS : Own w1 w.heap.size [.bool false, .int .i64 l, .int .i64 h, .int .i64 a, .int .i64 k, .int .i64 src, .int .i64 he] 25 := ((own_at _ _ rfl).alloc _).below hb
  have oH : Own w1 (w.heap.size + 1) [.int .i64 f, .int .i64 p, .int .i64 b, .int .i64 s, .int .i64 c] 27 := (own_at _ _ (by simp)).below hb
  have bel := belowTo (((Below.refl w.heap.size w).alloc (by simp) _).alloc (by simp) _) hb (by simp; omega)
  clear hb 
  obtain ⟨cS0, cS1, cS2, cS3, cS4, cS5, cS6, fS, zS⟩ := own7 oS
  obtain ⟨cH0, cH1, cH2, cH3, cH4, fH, zH⟩ := own5t oH
  go_wp2_with fail
  refine (hear_lit false l h a k src he f p b s c Y X1 X2 X3 X4 X5 X6 E _ Hq.out).mono ?_
  rintro e w2 ⟨rfl, hb⟩
  replace oS := oS.below hb
  replace oH := oH.below hb
  replace bel := belowTo bel hb (by exact bel.size)
  clear hb cS0 cS1 cS2 cS3 cS4 cS5 cS6 fS zS cH0 cH1 cH2 cH3 cH4 fH zH
  obtain ⟨cS0, cS1, cS2, cS3, cS4, cS5, cS6, fS, zS⟩ := own7 oS
  obtain ⟨cH0, cH1, cH2, cH3, cH4, fH, zH⟩ := own5t oH
  go_wp2_with fail
  have oX : Own (w2.alloc (Obj.cells #[.bool Y, .int .i64 X1, .int .i64 X2, .int .i64 X3, .int .i64 X4, .int .i64 X5, .int .i64 X6] 25)) w2.heap.size [.bool Y, .int .i64 X1, .int .i64 X2, .int .i64 X3, .int .i64 X4, .int .i64 X5, .int .i64 X6] 25 := own_at _ _ rfl
  replace oS := oS.alloc (Obj.cells #[.bool Y, .int .i64 X1, .int .i64 X2, .int .i64 X3, .int .i64 X4, .int .i64 X5, .int .i64 X6] 25)
  replace oH := oH.alloc (Obj.cells #[.bool Y, .int .i64 X1, .int .i64 X2, .int .i64 X3, .int .i64 X4, .int .i64 X5, .int .i64 X6] 25)
  replace bel := bel.alloc bel.size (Obj.cells #[.bool Y, .int .i64 X1, .int .i64 X2, .int .i64 X3, .int .i64 X4, .int .i64 X5, .int .i64 X6] 25)
  clear cS0 cS1 cS2 cS3 cS4 cS5 cS6 fS zS cH0 cH1 cH2 cH3 cH4 fH zH
  generalize w2.alloc (Obj.cells #[.bool Y, .int .i64 X1, .int .i64 X2, .int .i64 X3, .int .i64 X4, .int .i64 X5, .int .i64 X6] 25) = w3 at oS oH oX bel ⊢
  obtain ⟨cS0, cS1, cS2, cS3, cS4, cS5, cS6, fS, zS⟩ := own7 oS
  obtain ⟨cH0, cH1, cH2, cH3, cH4, fH, zH⟩ := own5t oH
  obtain ⟨cX0, cX1, cX2, cX3, cX4, cX5, cX6, fX, zX⟩ := own7 oX
  go_wp2
  all_goals (go_ret; exact ⟨by first | rfl | simp_all, (by repeat (first | exact bel | refine Below.alloc ?_ (by have := bel.size; simp; omega) _))⟩)

set_option linter.unusedVariables false in
set_option maxRecDepth 100000 in
set_option maxHeartbeats 4000000 in
theorem timesyncRefuses_same1_true_true_true (l h a k src he f p b s c X1 X2 X3 X4 X5 X6 E : Int) (Y : Bool) (w : World) (q : HearIs true l h a k src he f p b s c Y X1 X2 X3 X4 X5 X6 E) (r : tsB Y X1 X2 X3 X4 X5 X6 true l h a k src he = true) (h0 : (E == 0) = true) (h1 : (f != src) = true) (h2 : (k == 0) = true) :
    Calls Try.prog 5 #[.agg #[.bool true, .int .i64 l, .int .i64 h, .int .i64 a, .int .i64 k, .int .i64 src, .int .i64 he], .agg #[.int .i64 f, .int .i64 p, .int .i64 b, .int .i64 s, .int .i64 c]] w fun e w' => e = .returned (.bool true) ∧ Below w.heap.size w w' := by
  have e1 := eq_ts_lit Y X1 X2 X3 X4 X5 X6 true l h a k src he r
  have Hq := Lib.hid q
  clear q
  have Hr := Lib.hid r
  clear r
  go_enter Try.func5, Try.ntmps5
  go_wp2_with fail
  refine (head_any _).mono ?_
  rintro e w1 ⟨rfl, hb⟩
  have oS : Own w1 w.heap.size [.bool true, .int .i64 l, .int .i64 h, .int .i64 a, .int .i64 k, .int .i64 src, .int .i64 he] 25 := ((own_at _ _ rfl).alloc _).below hb
  have oH : Own w1 (w.heap.size + 1) [.int .i64 f, .int .i64 p, .int .i64 b, .int .i64 s, .int .i64 c] 27 := (own_at _ _ (by simp)).below hb
  have bel := belowTo (((Below.refl w.heap.size w).alloc (by simp) _).alloc (by simp) _) hb (by simp; omega)
  clear hb 
  obtain ⟨cS0, cS1, cS2, cS3, cS4, cS5, cS6, fS, zS⟩ := own7 oS
  obtain ⟨cH0, cH1, cH2, cH3, cH4, fH, zH⟩ := own5t oH
  go_wp2_with fail
  refine (hear_lit true l h a k src he f p b s c Y X1 X2 X3 X4 X5 X6 E _ Hq.out).mono ?_
  rintro e w2 ⟨rfl, hb⟩
  replace oS := oS.below hb
  replace oH := oH.below hb
  replace bel := belowTo bel hb (by exact bel.size)
  clear hb cS0 cS1 cS2 cS3 cS4 cS5 cS6 fS zS cH0 cH1 cH2 cH3 cH4 fH zH
  obtain ⟨cS0, cS1, cS2, cS3, cS4, cS5, cS6, fS, zS⟩ := own7 oS
  obtain ⟨cH0, cH1, cH2, cH3, cH4, fH, zH⟩ := own5t oH
  go_wp2_with fail
  have oX : Own (w2.alloc (Obj.cells #[.bool Y, .int .i64 X1, .int .i64 X2, .int .i64 X3, .int .i64 X4, .int .i64 X5, .int .i64 X6] 25)) w2.heap.size [.bool Y, .int .i64 X1, .int .i64 X2, .int .i64 X3, .int .i64 X4, .int .i64 X5, .int .i64 X6] 25 := own_at _ _ rfl
  replace oS := oS.alloc (Obj.cells #[.bool Y, .int .i64 X1, .int .i64 X2, .int .i64 X3, .int .i64 X4, .int .i64 X5, .int .i64 X6] 25)
  replace oH := oH.alloc (Obj.cells #[.bool Y, .int .i64 X1, .int .i64 X2, .int .i64 X3, .int .i64 X4, .int .i64 X5, .int .i64 X6] 25)
  replace bel := bel.alloc bel.size (Obj.cells #[.bool Y, .int .i64 X1, .int .i64 X2, .int .i64 X3, .int .i64 X4, .int .i64 X5, .int .i64 X6] 25)
  clear cS0 cS1 cS2 cS3 cS4 cS5 cS6 fS zS cH0 cH1 cH2 cH3 cH4 fH zH
  generalize w2.alloc (Obj.cells #[.bool Y, .int .i64 X1, .int .i64 X2, .int .i64 X3, .int .i64 X4, .int .i64 X5, .int .i64 X6] 25) = w3 at oS oH oX bel ⊢
  obtain ⟨cS0, cS1, cS2, cS3, cS4, cS5, cS6, fS, zS⟩ := own7 oS
  obtain ⟨cH0, cH1, cH2, cH3, cH4, fH, zH⟩ := own5t oH
  obtain ⟨cX0, cX1, cX2, cX3, cX4, cX5, cX6, fX, zX⟩ := own7 oX
  go_wp2
  all_goals (go_ret; exact ⟨by first | rfl | simp_all, (by repeat (first | exact bel | refine Below.alloc ?_ (by have := bel.size; simp; omega) _))⟩)

set_option linter.unusedVariables false in
set_option maxRecDepth 100000 in
set_option maxHeartbeats 4000000 in
theorem timesyncRefuses_same1_true_true_false (l h a k src he f p b s c X1 X2 X3 X4 X5 X6 E : Int) (Y : Bool) (w : World) (q : HearIs true l h a k src he f p b s c Y X1 X2 X3 X4 X5 X6 E) (r : tsB Y X1 X2 X3 X4 X5 X6 true l h a k src he = true) (h0 : (E == 0) = true) (h1 : (f != src) = true) (h2 : (k == 0) = false) :
    Calls Try.prog 5 #[.agg #[.bool true, .int .i64 l, .int .i64 h, .int .i64 a, .int .i64 k, .int .i64 src, .int .i64 he], .agg #[.int .i64 f, .int .i64 p, .int .i64 b, .int .i64 s, .int .i64 c]] w fun e w' => e = .returned (.bool true) ∧ Below w.heap.size w w' := by
  have e1 := eq_ts_lit Y X1 X2 X3 X4 X5 X6 true l h a k src he r
  have Hq := Lib.hid q
  clear q
  have Hr := Lib.hid r
  clear r
  go_enter Try.func5, Try.ntmps5
  go_wp2_with fail
  refine (head_any _).mono ?_
  rintro e w1 ⟨rfl, hb⟩
  have oS : Own w1 w.heap.size [.bool true, .int .i64 l, .int .i64 h, .int .i64 a, .int .i64 k, .int .i64 src, .int .i64 he] 25 := ((own_at _ _ rfl).alloc _).below hb
  have oH : Own w1 (w.heap.size + 1) [.int .i64 f, .int .i64 p, .int .i64 b, .int .i64 s, .int .i64 c] 27 := (own_at _ _ (by simp)).below hb
  have bel := belowTo (((Below.refl w.heap.size w).alloc (by simp) _).alloc (by simp) _) hb (by simp; omega)
  clear hb 
  obtain ⟨cS0, cS1, cS2, cS3, cS4, cS5, cS6, fS, zS⟩ := own7 oS
  obtain ⟨cH0, cH1, cH2, cH3, cH4, fH, zH⟩ := own5t oH
  go_wp2_with fail
  refine (hear_lit true l h a k src he f p b s c Y X1 X2 X3 X4 X5 X6 E _ Hq.out).mono ?_
  rintro e w2 ⟨rfl, hb⟩
  replace oS := oS.below hb
  replace oH := oH.below hb
  replace bel := belowTo bel hb (by exact bel.size)
  clear hb cS0 cS1 cS2 cS3 cS4 cS5 cS6 fS zS cH0 cH1 cH2 cH3 cH4 fH zH
  obtain ⟨cS0, cS1, cS2, cS3, cS4, cS5, cS6, fS, zS⟩ := own7 oS
  obtain ⟨cH0, cH1, cH2, cH3, cH4, fH, zH⟩ := own5t oH
  go_wp2_with fail
  have oX : Own (w2.alloc (Obj.cells #[.bool Y, .int .i64 X1, .int .i64 X2, .int .i64 X3, .int .i64 X4, .int .i64 X5, .int .i64 X6] 25)) w2.heap.size [.bool Y, .int .i64 X1, .int .i64 X2, .int .i64 X3, .int .i64 X4, .int .i64 X5, .int .i64 X6] 25 := own_at _ _ rfl
  replace oS := oS.alloc (Obj.cells #[.bool Y, .int .i64 X1, .int .i64 X2, .int .i64 X3, .int .i64 X4, .int .i64 X5, .int .i64 X6] 25)
  replace oH := oH.alloc (Obj.cells #[.bool Y, .int .i64 X1, .int .i64 X2, .int .i64 X3, .int .i64 X4, .int .i64 X5, .int .i64 X6] 25)
  replace bel := bel.alloc bel.size (Obj.cells #[.bool Y, .int .i64 X1, .int .i64 X2, .int .i64 X3, .int .i64 X4, .int .i64 X5, .int .i64 X6] 25)
  clear cS0 cS1 cS2 cS3 cS4 cS5 cS6 fS zS cH0 cH1 cH2 cH3 cH4 fH zH
  generalize w2.alloc (Obj.cells #[.bool Y, .int .i64 X1, .int .i64 X2, .int .i64 X3, .int .i64 X4, .int .i64 X5, .int .i64 X6] 25) = w3 at oS oH oX bel ⊢
  obtain ⟨cS0, cS1, cS2, cS3, cS4, cS5, cS6, fS, zS⟩ := own7 oS
  obtain ⟨cH0, cH1, cH2, cH3, cH4, fH, zH⟩ := own5t oH
  obtain ⟨cX0, cX1, cX2, cX3, cX4, cX5, cX6, fX, zX⟩ := own7 oX
  go_wp2
  all_goals (go_ret; exact ⟨by first | rfl | simp_all, (by repeat (first | exact bel | refine Below.alloc ?_ (by have := bel.size; simp; omega) _))⟩)

set_option linter.unusedVariables false in
set_option maxRecDepth 100000 in
set_option maxHeartbeats 4000000 in
theorem timesyncRefuses_same1_true_false_true (l h a k src he f p b s c X1 X2 X3 X4 X5 X6 E : Int) (Y : Bool) (w : World) (q : HearIs true l h a k src he f p b s c Y X1 X2 X3 X4 X5 X6 E) (r : tsB Y X1 X2 X3 X4 X5 X6 true l h a k src he = true) (h0 : (E == 0) = true) (h1 : (f != src) = false) (h2 : (k == 0) = true) :
    Calls Try.prog 5 #[.agg #[.bool true, .int .i64 l, .int .i64 h, .int .i64 a, .int .i64 k, .int .i64 src, .int .i64 he], .agg #[.int .i64 f, .int .i64 p, .int .i64 b, .int .i64 s, .int .i64 c]] w fun e w' => e = .returned (.bool true) ∧ Below w.heap.size w w' := by
  have e1 := eq_ts_lit Y X1 X2 X3 X4 X5 X6 true l h a k src he r
  have Hq := Lib.hid q
  clear q
  have Hr := Lib.hid r
  clear r
  go_enter Try.func5, Try.ntmps5
  go_wp2_with fail
  refine (head_any _).mono ?_
  rintro e w1 ⟨rfl, hb⟩
  have oS : Own w1 w.heap.size [.bool true, .int .i64 l, .int .i64 h, .int .i64 a, .int .i64 k, .int .i64 src, .int .i64 he] 25 := ((own_at _ _ rfl).alloc _).below hb
  have oH : Own w1 (w.heap.size + 1) [.int .i64 f, .int .i64 p, .int .i64 b, .int .i64 s, .int .i64 c] 27 := (own_at _ _ (by simp)).below hb
  have bel := belowTo (((Below.refl w.heap.size w).alloc (by simp) _).alloc (by simp) _) hb (by simp; omega)
  clear hb 
  obtain ⟨cS0, cS1, cS2, cS3, cS4, cS5, cS6, fS, zS⟩ := own7 oS
  obtain ⟨cH0, cH1, cH2, cH3, cH4, fH, zH⟩ := own5t oH
  go_wp2_with fail
  refine (hear_lit true l h a k src he f p b s c Y X1 X2 X3 X4 X5 X6 E _ Hq.out).mono ?_
  rintro e w2 ⟨rfl, hb⟩
  replace oS := oS.below hb
  replace oH := oH.below hb
  replace bel := belowTo bel hb (by exact bel.size)
  clear hb cS0 cS1 cS2 cS3 cS4 cS5 cS6 fS zS cH0 cH1 cH2 cH3 cH4 fH zH
  obtain ⟨cS0, cS1, cS2, cS3, cS4, cS5, cS6, fS, zS⟩ := own7 oS
  obtain ⟨cH0, cH1, cH2, cH3, cH4, fH, zH⟩ := own5t oH
  go_wp2_with fail
  have oX : Own (w2.alloc (Obj.cells #[.bool Y, .int .i64 X1, .int .i64 X2, .int .i64 X3, .int .i64 X4, .int .i64 X5, .int .i64 X6] 25)) w2.heap.size [.bool Y, .int .i64 X1, .int .i64 X2, .int .i64 X3, .int .i64 X4, .int .i64 X5, .int .i64 X6] 25 := own_at _ _ rfl
  replace oS := oS.alloc (Obj.cells #[.bool Y, .int .i64 X1, .int .i64 X2, .int .i64 X3, .int .i64 X4, .int .i64 X5, .int .i64 X6] 25)
  replace oH := oH.alloc (Obj.cells #[.bool Y, .int .i64 X1, .int .i64 X2, .int .i64 X3, .int .i64 X4, .int .i64 X5, .int .i64 X6] 25)
  replace bel := bel.alloc bel.size (Obj.cells #[.bool Y, .int .i64 X1, .int .i64 X2, .int .i64 X3, .int .i64 X4, .int .i64 X5, .int .i64 X6] 25)
  clear cS0 cS1 cS2 cS3 cS4 cS5 cS6 fS zS cH0 cH1 cH2 cH3 cH4 fH zH
  generalize w2.alloc (Obj.cells #[.bool Y, .int .i64 X1, .int .i64 X2, .int .i64 X3, .int .i64 X4, .int .i64 X5, .int .i64 X6] 25) = w3 at oS oH oX bel ⊢
  obtain ⟨cS0, cS1, cS2, cS3, cS4, cS5, cS6, fS, zS⟩ := own7 oS
  obtain ⟨cH0, cH1, cH2, cH3, cH4, fH, zH⟩ := own5t oH
  obtain ⟨cX0, cX1, cX2, cX3, cX4, cX5, cX6, fX, zX⟩ := own7 oX
  go_wp2
  all_goals (go_ret; exact ⟨by first | rfl | simp_all, (by repeat (first | exact bel | refine Below.alloc ?_ (by have := bel.size; simp; omega) _))⟩)

set_option linter.unusedVariables false in
set_option maxRecDepth 100000 in
set_option maxHeartbeats 4000000 in
theorem timesyncRefuses_same1_true_false_false (l h a k src he f p b s c X1 X2 X3 X4 X5 X6 E : Int) (Y : Bool) (w : World) (q : HearIs true l h a k src he f p b s c Y X1 X2 X3 X4 X5 X6 E) (r : tsB Y X1 X2 X3 X4 X5 X6 true l h a k src he = true) (h0 : (E == 0) = true) (h1 : (f != src) = false) (h2 : (k == 0) = false) :
    Calls Try.prog 5 #[.agg #[.bool true, .int .i64 l, .int .i64 h, .int .i64 a, .int .i64 k, .int .i64 src, .int .i64 he], .agg #[.int .i64 f, .int .i64 p, .int .i64 b, .int .i64 s, .int .i64 c]] w fun e w' => e = .returned (.bool true) ∧ Below w.heap.size w w' := by
  have e1 := eq_ts_lit Y X1 X2 X3 X4 X5 X6 true l h a k src he r
  have Hq := Lib.hid q
  clear q
  have Hr := Lib.hid r
  clear r
  go_enter Try.func5, Try.ntmps5
  go_wp2_with fail
  refine (head_any _).mono ?_
  rintro e w1 ⟨rfl, hb⟩
  have oS : Own w1 w.heap.size [.bool true, .int .i64 l, .int .i64 h, .int .i64 a, .int .i64 k, .int .i64 src, .int .i64 he] 25 := ((own_at _ _ rfl).alloc _).below hb
  have oH : Own w1 (w.heap.size + 1) [.int .i64 f, .int .i64 p, .int .i64 b, .int .i64 s, .int .i64 c] 27 := (own_at _ _ (by simp)).below hb
  have bel := belowTo (((Below.refl w.heap.size w).alloc (by simp) _).alloc (by simp) _) hb (by simp; omega)
  clear hb 
  obtain ⟨cS0, cS1, cS2, cS3, cS4, cS5, cS6, fS, zS⟩ := own7 oS
  obtain ⟨cH0, cH1, cH2, cH3, cH4, fH, zH⟩ := own5t oH
  go_wp2_with fail
  refine (hear_lit true l h a k src he f p b s c Y X1 X2 X3 X4 X5 X6 E _ Hq.out).mono ?_
  rintro e w2 ⟨rfl, hb⟩
  replace oS := oS.below hb
  replace oH := oH.below hb
  replace bel := belowTo bel hb (by exact bel.size)
  clear hb cS0 cS1 cS2 cS3 cS4 cS5 cS6 fS zS cH0 cH1 cH2 cH3 cH4 fH zH
  obtain ⟨cS0, cS1, cS2, cS3, cS4, cS5, cS6, fS, zS⟩ := own7 oS
  obtain ⟨cH0, cH1, cH2, cH3, cH4, fH, zH⟩ := own5t oH
  go_wp2_with fail
  have oX : Own (w2.alloc (Obj.cells #[.bool Y, .int .i64 X1, .int .i64 X2, .int .i64 X3, .int .i64 X4, .int .i64 X5, .int .i64 X6] 25)) w2.heap.size [.bool Y, .int .i64 X1, .int .i64 X2, .int .i64 X3, .int .i64 X4, .int .i64 X5, .int .i64 X6] 25 := own_at _ _ rfl
  replace oS := oS.alloc (Obj.cells #[.bool Y, .int .i64 X1, .int .i64 X2, .int .i64 X3, .int .i64 X4, .int .i64 X5, .int .i64 X6] 25)
  replace oH := oH.alloc (Obj.cells #[.bool Y, .int .i64 X1, .int .i64 X2, .int .i64 X3, .int .i64 X4, .int .i64 X5, .int .i64 X6] 25)
  replace bel := bel.alloc bel.size (Obj.cells #[.bool Y, .int .i64 X1, .int .i64 X2, .int .i64 X3, .int .i64 X4, .int .i64 X5, .int .i64 X6] 25)
  clear cS0 cS1 cS2 cS3 cS4 cS5 cS6 fS zS cH0 cH1 cH2 cH3 cH4 fH zH
  generalize w2.alloc (Obj.cells #[.bool Y, .int .i64 X1, .int .i64 X2, .int .i64 X3, .int .i64 X4, .int .i64 X5, .int .i64 X6] 25) = w3 at oS oH oX bel ⊢
  obtain ⟨cS0, cS1, cS2, cS3, cS4, cS5, cS6, fS, zS⟩ := own7 oS
  obtain ⟨cH0, cH1, cH2, cH3, cH4, fH, zH⟩ := own5t oH
  obtain ⟨cX0, cX1, cX2, cX3, cX4, cX5, cX6, fX, zX⟩ := own7 oX
  go_wp2
  all_goals (go_ret; exact ⟨by first | rfl | simp_all, (by repeat (first | exact bel | refine Below.alloc ?_ (by have := bel.size; simp; omega) _))⟩)

set_option linter.unusedVariables false in
set_option maxRecDepth 100000 in
set_option maxHeartbeats 4000000 in
theorem timesyncRefuses_same1_false_true_true (l h a k src he f p b s c X1 X2 X3 X4 X5 X6 E : Int) (Y : Bool) (w : World) (q : HearIs true l h a k src he f p b s c Y X1 X2 X3 X4 X5 X6 E) (r : tsB Y X1 X2 X3 X4 X5 X6 true l h a k src he = true) (h0 : (E == 0) = false) (h1 : (f != src) = true) (h2 : (k == 0) = true) :
    Calls Try.prog 5 #[.agg #[.bool true, .int .i64 l, .int .i64 h, .int .i64 a, .int .i64 k, .int .i64 src, .int .i64 he], .agg #[.int .i64 f, .int .i64 p, .int .i64 b, .int .i64 s, .int .i64 c]] w fun e w' => e = .returned (.bool true) ∧ Below w.heap.size w w' := by
  have e1 := eq_ts_lit Y X1 X2 X3 X4 X5 X6 true l h a k src he r
  have Hq := Lib.hid q
  clear q
  have Hr := Lib.hid r
  clear r
  go_enter Try.func5, Try.ntmps5
  go_wp2_with fail
  refine (head_any _).mono ?_
  rintro e w1 ⟨rfl, hb⟩
  have oS : Own w1 w.heap.size [.bool true, .int .i64 l, .int .i64 h, .int .i64 a, .int .i64 k, .int .i64 src, .int .i64 he] 25 := ((own_at _ _ rfl).alloc _).below hb
  have oH : Own w1 (w.heap.size + 1) [.int .i64 f, .int .i64 p, .int .i64 b, .int .i64 s, .int .i64 c] 27 := (own_at _ _ (by simp)).below hb
  have bel := belowTo (((Below.refl w.heap.size w).alloc (by simp) _).alloc (by simp) _) hb (by simp; omega)
  clear hb 
  obtain ⟨cS0, cS1, cS2, cS3, cS4, cS5, cS6, fS, zS⟩ := own7 oS
  obtain ⟨cH0, cH1, cH2, cH3, cH4, fH, zH⟩ := own5t oH
  go_wp2_with fail
  refine (hear_lit true l h a k src he f p b s c Y X1 X2 X3 X4 X5 X6 E _ Hq.out).mono ?_
  rintro e w2 ⟨rfl, hb⟩
  replace oS := oS.below hb
  replace oH := oH.below hb
  replace bel := belowTo bel hb (by exact bel.size)
  clear hb cS0 cS1 cS2 cS3 cS4 cS5 cS6 fS zS cH0 cH1 cH2 cH3 cH4 fH zH
  obtain ⟨cS0, cS1, cS2, cS3, cS4, cS5, cS6, fS, zS⟩ := own7 oS
  obtain ⟨cH0, cH1, cH2, cH3, cH4, fH, zH⟩ := own5t oH
  go_wp2_with fail
  have oX : Own (w2.alloc (Obj.cells #[.bool Y, .int .i64 X1, .int .i64 X2, .int .i64 X3, .int .i64 X4, .int .i64 X5, .int .i64 X6] 25)) w2.heap.size [.bool Y, .int .i64 X1, .int .i64 X2, .int .i64 X3, .int .i64 X4, .int .i64 X5, .int .i64 X6] 25 := own_at _ _ rfl
  replace oS := oS.alloc (Obj.cells #[.bool Y, .int .i64 X1, .int .i64 X2, .int .i64 X3, .int .i64 X4, .int .i64 X5, .int .i64 X6] 25)
  replace oH := oH.alloc (Obj.cells #[.bool Y, .int .i64 X1, .int .i64 X2, .int .i64 X3, .int .i64 X4, .int .i64 X5, .int .i64 X6] 25)
  replace bel := bel.alloc bel.size (Obj.cells #[.bool Y, .int .i64 X1, .int .i64 X2, .int .i64 X3, .int .i64 X4, .int .i64 X5, .int .i64 X6] 25)
  clear cS0 cS1 cS2 cS3 cS4 cS5 cS6 fS zS cH0 cH1 cH2 cH3 cH4 fH zH
  generalize w2.alloc (Obj.cells #[.bool Y, .int .i64 X1, .int .i64 X2, .int .i64 X3, .int .i64 X4, .int .i64 X5, .int .i64 X6] 25) = w3 at oS oH oX bel ⊢
  obtain ⟨cS0, cS1, cS2, cS3, cS4, cS5, cS6, fS, zS⟩ := own7 oS
  obtain ⟨cH0, cH1, cH2, cH3, cH4, fH, zH⟩ := own5t oH
  obtain ⟨cX0, cX1, cX2, cX3, cX4, cX5, cX6, fX, zX⟩ := own7 oX
  go_wp2
  all_goals (go_ret; exact ⟨by first | rfl | simp_all, (by repeat (first | exact bel | refine Below.alloc ?_ (by have := bel.size; simp; omega) _))⟩)

set_option linter.unusedVariables false in
set_option maxRecDepth 100000 in
set_option maxHeartbeats 4000000 in
theorem timesyncRefuses_same1_false_true_false (l h a k src he f p b s c X1 X2 X3 X4 X5 X6 E : Int) (Y : Bool) (w : World) (q : HearIs true l h a k src he f p b s c Y X1 X2 X3 X4 X5 X6 E) (r : tsB Y X1 X2 X3 X4 X5 X6 true l h a k src he = true) (h0 : (E == 0) = false) (h1 : (f != src) = true) (h2 : (k == 0) = false) :
    Calls Try.prog 5 #[.agg #[.bool true, .int .i64 l, .int .i64 h, .int .i64 a, .int .i64 k, .int .i64 src, .int .i64 he], .agg #[.int .i64 f, .int .i64 p, .int .i64 b, .int .i64 s, .int .i64 c]] w fun e w' => e = .returned (.bool true) ∧ Below w.heap.size w w' := by
  have e1 := eq_ts_lit Y X1 X2 X3 X4 X5 X6 true l h a k src he r
  have Hq := Lib.hid q
  clear q
  have Hr := Lib.hid r
  clear r
  go_enter Try.func5, Try.ntmps5
  go_wp2_with fail
  refine (head_any _).mono ?_
  rintro e w1 ⟨rfl, hb⟩
  have oS : Own w1 w.heap.size [.bool true, .int .i64 l, .int .i64 h, .int .i64 a, .int .i64 k, .int .i64 src, .int .i64 he] 25 := ((own_at _ _ rfl).alloc _).below hb
  have oH : Own w1 (w.heap.size + 1) [.int .i64 f, .int .i64 p, .int .i64 b, .int .i64 s, .int .i64 c] 27 := (own_at _ _ (by simp)).below hb
  have bel := belowTo (((Below.refl w.heap.size w).alloc (by simp) _).alloc (by simp) _) hb (by simp; omega)
  clear hb 
  obtain ⟨cS0, cS1, cS2, cS3, cS4, cS5, cS6, fS, zS⟩ := own7 oS
  obtain ⟨cH0, cH1, cH2, cH3, cH4, fH, zH⟩ := own5t oH
  go_wp2_with fail
  refine (hear_lit true l h a k src he f p b s c Y X1 X2 X3 X4 X5 X6 E _ Hq.out).mono ?_
  rintro e w2 ⟨rfl, hb⟩
  replace oS := oS.below hb
  replace oH := oH.below hb
  replace bel := belowTo bel hb (by exact bel.size)
  clear hb cS0 cS1 cS2 cS3 cS4 cS5 cS6 fS zS cH0 cH1 cH2 cH3 cH4 fH zH
  obtain ⟨cS0, cS1, cS2, cS3, cS4, cS5, cS6, fS, zS⟩ := own7 oS
  obtain ⟨cH0, cH1, cH2, cH3, cH4, fH, zH⟩ := own5t oH
  go_wp2_with fail
  have oX : Own (w2.alloc (Obj.cells #[.bool Y, .int .i64 X1, .int .i64 X2, .int .i64 X3, .int .i64 X4, .int .i64 X5, .int .i64 X6] 25)) w2.heap.size [.bool Y, .int .i64 X1, .int .i64 X2, .int .i64 X3, .int .i64 X4, .int .i64 X5, .int .i64 X6] 25 := own_at _ _ rfl
  replace oS := oS.alloc (Obj.cells #[.bool Y, .int .i64 X1, .int .i64 X2, .int .i64 X3, .int .i64 X4, .int .i64 X5, .int .i64 X6] 25)
  replace oH := oH.alloc (Obj.cells #[.bool Y, .int .i64 X1, .int .i64 X2, .int .i64 X3, .int .i64 X4, .int .i64 X5, .int .i64 X6] 25)
  replace bel := bel.alloc bel.size (Obj.cells #[.bool Y, .int .i64 X1, .int .i64 X2, .int .i64 X3, .int .i64 X4, .int .i64 X5, .int .i64 X6] 25)
  clear cS0 cS1 cS2 cS3 cS4 cS5 cS6 fS zS cH0 cH1 cH2 cH3 cH4 fH zH
  generalize w2.alloc (Obj.cells #[.bool Y, .int .i64 X1, .int .i64 X2, .int .i64 X3, .int .i64 X4, .int .i64 X5, .int .i64 X6] 25) = w3 at oS oH oX bel ⊢
  obtain ⟨cS0, cS1, cS2, cS3, cS4, cS5, cS6, fS, zS⟩ := own7 oS
  obtain ⟨cH0, cH1, cH2, cH3, cH4, fH, zH⟩ := own5t oH
  obtain ⟨cX0, cX1, cX2, cX3, cX4, cX5, cX6, fX, zX⟩ := own7 oX
  go_wp2
  all_goals (go_ret; exact ⟨by first | rfl | simp_all, (by repeat (first | exact bel | refine Below.alloc ?_ (by have := bel.size; simp; omega) _))⟩)

set_option linter.unusedVariables false in
set_option maxRecDepth 100000 in
set_option maxHeartbeats 4000000 in
theorem timesyncRefuses_same1_false_false_true (l h a k src he f p b s c X1 X2 X3 X4 X5 X6 E : Int) (Y : Bool) (w : World) (q : HearIs true l h a k src he f p b s c Y X1 X2 X3 X4 X5 X6 E) (r : tsB Y X1 X2 X3 X4 X5 X6 true l h a k src he = true) (h0 : (E == 0) = false) (h1 : (f != src) = false) (h2 : (k == 0) = true) :
    Calls Try.prog 5 #[.agg #[.bool true, .int .i64 l, .int .i64 h, .int .i64 a, .int .i64 k, .int .i64 src, .int .i64 he], .agg #[.int .i64 f, .int .i64 p, .int .i64 b, .int .i64 s, .int .i64 c]] w fun e w' => e = .returned (.bool true) ∧ Below w.heap.size w w' := by
  have e1 := eq_ts_lit Y X1 X2 X3 X4 X5 X6 true l h a k src he r
  have Hq := Lib.hid q
  clear q
  have Hr := Lib.hid r
  clear r
  go_enter Try.func5, Try.ntmps5
  go_wp2_with fail
  refine (head_any _).mono ?_
  rintro e w1 ⟨rfl, hb⟩
  have oS : Own w1 w.heap.size [.bool true, .int .i64 l, .int .i64 h, .int .i64 a, .int .i64 k, .int .i64 src, .int .i64 he] 25 := ((own_at _ _ rfl).alloc _).below hb
  have oH : Own w1 (w.heap.size + 1) [.int .i64 f, .int .i64 p, .int .i64 b, .int .i64 s, .int .i64 c] 27 := (own_at _ _ (by simp)).below hb
  have bel := belowTo (((Below.refl w.heap.size w).alloc (by simp) _).alloc (by simp) _) hb (by simp; omega)
  clear hb 
  obtain ⟨cS0, cS1, cS2, cS3, cS4, cS5, cS6, fS, zS⟩ := own7 oS
  obtain ⟨cH0, cH1, cH2, cH3, cH4, fH, zH⟩ := own5t oH
  go_wp2_with fail
  refine (hear_lit true l h a k src he f p b s c Y X1 X2 X3 X4 X5 X6 E _ Hq.out).mono ?_
  rintro e w2 ⟨rfl, hb⟩
  replace oS := oS.below hb
  replace oH := oH.below hb
  replace bel := belowTo bel hb (by exact bel.size)
  clear hb cS0 cS1 cS2 cS3 cS4 cS5 cS6 fS zS cH0 cH1 cH2 cH3 cH4 fH zH
  obtain ⟨cS0, cS1, cS2, cS3, cS4, cS5, cS6, fS, zS⟩ := own7 oS
  obtain ⟨cH0, cH1, cH2, cH3, cH4, fH, zH⟩ := own5t oH
  go_wp2_with fail
  have oX : Own (w2.alloc (Obj.cells #[.bool Y, .int .i64 X1, .int .i64 X2, .int .i64 X3, .int .i64 X4, .int .i64 X5, .int .i64 X6] 25)) w2.heap.size [.bool Y, .int .i64 X1, .int .i64 X2, .int .i64 X3, .int .i64 X4, .int .i64 X5, .int .i64 X6] 25 := own_at _ _ rfl
  replace oS := oS.alloc (Obj.cells #[.bool Y, .int .i64 X1, .int .i64 X2, .int .i64 X3, .int .i64 X4, .int .i64 X5, .int .i64 X6] 25)
  replace oH := oH.alloc (Obj.cells #[.bool Y, .int .i64 X1, .int .i64 X2, .int .i64 X3, .int .i64 X4, .int .i64 X5, .int .i64 X6] 25)
  replace bel := bel.alloc bel.size (Obj.cells #[.bool Y, .int .i64 X1, .int .i64 X2, .int .i64 X3, .int .i64 X4, .int .i64 X5, .int .i64 X6] 25)
  clear cS0 cS1 cS2 cS3 cS4 cS5 cS6 fS zS cH0 cH1 cH2 cH3 cH4 fH zH
  generalize w2.alloc (Obj.cells #[.bool Y, .int .i64 X1, .int .i64 X2, .int .i64 X3, .int .i64 X4, .int .i64 X5, .int .i64 X6] 25) = w3 at oS oH oX bel ⊢
  obtain ⟨cS0, cS1, cS2, cS3, cS4, cS5, cS6, fS, zS⟩ := own7 oS
  obtain ⟨cH0, cH1, cH2, cH3, cH4, fH, zH⟩ := own5t oH
  obtain ⟨cX0, cX1, cX2, cX3, cX4, cX5, cX6, fX, zX⟩ := own7 oX
  go_wp2
  all_goals (go_ret; exact ⟨by first | rfl | simp_all, (by repeat (first | exact bel | refine Below.alloc ?_ (by have := bel.size; simp; omega) _))⟩)

set_option linter.unusedVariables false in
set_option maxRecDepth 100000 in
set_option maxHeartbeats 4000000 in
theorem timesyncRefuses_same1_false_false_false (l h a k src he f p b s c X1 X2 X3 X4 X5 X6 E : Int) (Y : Bool) (w : World) (q : HearIs true l h a k src he f p b s c Y X1 X2 X3 X4 X5 X6 E) (r : tsB Y X1 X2 X3 X4 X5 X6 true l h a k src he = true) (h0 : (E == 0) = false) (h1 : (f != src) = false) (h2 : (k == 0) = false) :
    Calls Try.prog 5 #[.agg #[.bool true, .int .i64 l, .int .i64 h, .int .i64 a, .int .i64 k, .int .i64 src, .int .i64 he], .agg #[.int .i64 f, .int .i64 p, .int .i64 b, .int .i64 s, .int .i64 c]] w fun e w' => e = .returned (.bool true) ∧ Below w.heap.size w w' := by
  have e1 := eq_ts_lit Y X1 X2 X3 X4 X5 X6 true l h a k src he r
  have Hq := Lib.hid q
  clear q
  have Hr := Lib.hid r
  clear r
  go_enter Try.func5, Try.ntmps5
  go_wp2_with fail
  refine (head_any _).mono ?_
  rintro e w1 ⟨rfl, hb⟩
  have oS : Own w1 w.heap.size [.bool true, .int .i64 l, .int .i64 h, .int .i64 a, .int .i64 k, .int .i64 src, .int .i64 he] 25 := ((own_at _ _ rfl).alloc _).below hb
  have oH : Own w1 (w.heap.size + 1) [.int .i64 f, .int .i64 p, .int .i64 b, .int .i64 s, .int .i64 c] 27 := (own_at _ _ (by simp)).below hb
  have bel := belowTo (((Below.refl w.heap.size w).alloc (by simp) _).alloc (by simp) _) hb (by simp; omega)
  clear hb 
  obtain ⟨cS0, cS1, cS2, cS3, cS4, cS5, cS6, fS, zS⟩ := own7 oS
  obtain ⟨cH0, cH1, cH2, cH3, cH4, fH, zH⟩ := own5t oH
  go_wp2_with fail
  refine (hear_lit true l h a k src he f p b s c Y X1 X2 X3 X4 X5 X6 E _ Hq.out).mono ?_
  rintro e w2 ⟨rfl, hb⟩
  replace oS := oS.below hb
  replace oH := oH.below hb
  replace bel := belowTo bel hb (by exact bel.size)
  clear hb cS0 cS1 cS2 cS3 cS4 cS5 cS6 fS zS cH0 cH1 cH2 cH3 cH4 fH zH
  obtain ⟨cS0, cS1, cS2, cS3, cS4, cS5, cS6, fS, zS⟩ := own7 oS
  obtain ⟨cH0, cH1, cH2, cH3, cH4, fH, zH⟩ := own5t oH
  go_wp2_with fail
  have oX : Own (w2.alloc (Obj.cells #[.bool Y, .int .i64 X1, .int .i64 X2, .int .i64 X3, .int .i64 X4, .int .i64 X5, .int .i64 X6] 25)) w2.heap.size [.bool Y, .int .i64 X1, .int .i64 X2, .int .i64 X3, .int .i64 X4, .int .i64 X5, .int .i64 X6] 25 := own_at _ _ rfl
  replace oS := oS.alloc (Obj.cells #[.bool Y, .int .i64 X1, .int .i64 X2, .int .i64 X3, .int .i64 X4, .int .i64 X5, .int .i64 X6] 25)
  replace oH := oH.alloc (Obj.cells #[.bool Y, .int .i64 X1, .int .i64 X2, .int .i64 X3, .int .i64 X4, .int .i64 X5, .int .i64 X6] 25)
  replace bel := bel.alloc bel.size (Obj.cells #[.bool Y, .int .i64 X1, .int .i64 X2, .int .i64 X3, .int .i64 X4, .int .i64 X5, .int .i64 X6] 25)
  clear cS0 cS1 cS2 cS3 cS4 cS5 cS6 fS zS cH0 cH1 cH2 cH3 cH4 fH zH
  generalize w2.alloc (Obj.cells #[.bool Y, .int .i64 X1, .int .i64 X2, .int .i64 X3, .int .i64 X4, .int .i64 X5, .int .i64 X6] 25) = w3 at oS oH oX bel ⊢
  obtain ⟨cS0, cS1, cS2, cS3, cS4, cS5, cS6, fS, zS⟩ := own7 oS
  obtain ⟨cH0, cH1, cH2, cH3, cH4, fH, zH⟩ := own5t oH
  obtain ⟨cX0, cX1, cX2, cX3, cX4, cX5, cX6, fX, zX⟩ := own7 oX
  go_wp2
  all_goals (go_ret; exact ⟨by first | rfl | simp_all, (by repeat (first | exact bel | refine Below.alloc ?_ (by have := bel.size; simp; omega) _))⟩)

set_option linter.unusedVariables false in
set_option maxRecDepth 100000 in
set_option maxHeartbeats 4000000 in
theorem timesyncRefuses_off (sy : Bool) (l h a k src he f p b s c L H A : Int) (w : World) (q : HearIs sy l h a k src he f p b s c true L H A (p + 1) f s 0) (r : tsB true L H A (p + 1) f s sy l h a k src he = false) (b1 : 0 ≤ p) (b2 : p < 60) (hs : sy = false) :
    Calls Try.prog 5 #[.agg #[.bool sy, .int .i64 l, .int .i64 h, .int .i64 a, .int .i64 k, .int .i64 src, .int .i64 he], .agg #[.int .i64 f, .int .i64 p, .int .i64 b, .int .i64 s, .int .i64 c]] w fun e w' => e = .returned (.bool true) ∧ Below w.heap.size w w' := by
  subst hs
  have e1 := eq_ts_lit true L H A (p + 1) f s false l h a k src he r
  have Hq := Lib.hid q
  clear q
  have Hr := Lib.hid r
  clear r
  go_enter Try.func5, Try.ntmps5
  go_wp2_with fail
  refine (head_any _).mono ?_
  rintro e w1 ⟨rfl, hb⟩
  have oS : Own w1 w.heap.size [.bool false, .int .i64 l, .int .i64 h, .int .i64 a, .int .i64 k, .int .i64 src, .int .i64 he] 25 := ((own_at _ _ rfl).alloc _).below hb
  have oH : Own w1 (w.heap.size + 1) [.int .i64 f, .int .i64 p, .int .i64 b, .int .i64 s, .int .i64 c] 27 := (own_at _ _ (by simp)).below hb
  have bel := belowTo (((Below.refl w.heap.size w).alloc (by simp) _).alloc (by simp) _) hb (by simp; omega)
  clear hb 
  obtain ⟨cS0, cS1, cS2, cS3, cS4, cS5, cS6, fS, zS⟩ := own7 oS
  obtain ⟨cH0, cH1, cH2, cH3, cH4, fH, zH⟩ := own5t oH
  go_wp2_with fail
  refine (hear_lit false l h a k src he f p b s c true L H A (p + 1) f s 0 _ Hq.out).mono ?_
  rintro e w2 ⟨rfl, hb⟩
  replace oS := oS.below hb
  replace oH := oH.below hb
  replace bel := belowTo bel hb (by exact bel.size)
  clear hb cS0 cS1 cS2 cS3 cS4 cS5 cS6 fS zS cH0 cH1 cH2 cH3 cH4 fH zH
  obtain ⟨cS0, cS1, cS2, cS3, cS4, cS5, cS6, fS, zS⟩ := own7 oS
  obtain ⟨cH0, cH1, cH2, cH3, cH4, fH, zH⟩ := own5t oH
  go_wp2_with fail
  have oX : Own (w2.alloc (Obj.cells #[.bool true, .int .i64 L, .int .i64 H, .int .i64 A, .int .i64 (p + 1), .int .i64 f, .int .i64 s] 25)) w2.heap.size [.bool true, .int .i64 L, .int .i64 H, .int .i64 A, .int .i64 (p + 1), .int .i64 f, .int .i64 s] 25 := own_at _ _ rfl
  replace oS := oS.alloc (Obj.cells #[.bool true, .int .i64 L, .int .i64 H, .int .i64 A, .int .i64 (p + 1), .int .i64 f, .int .i64 s] 25)
  replace oH := oH.alloc (Obj.cells #[.bool true, .int .i64 L, .int .i64 H, .int .i64 A, .int .i64 (p + 1), .int .i64 f, .int .i64 s] 25)
  replace bel := bel.alloc bel.size (Obj.cells #[.bool true, .int .i64 L, .int .i64 H, .int .i64 A, .int .i64 (p + 1), .int .i64 f, .int .i64 s] 25)
  clear cS0 cS1 cS2 cS3 cS4 cS5 cS6 fS zS cH0 cH1 cH2 cH3 cH4 fH zH
  generalize w2.alloc (Obj.cells #[.bool true, .int .i64 L, .int .i64 H, .int .i64 A, .int .i64 (p + 1), .int .i64 f, .int .i64 s] 25) = w3 at oS oH oX bel ⊢
  obtain ⟨cS0, cS1, cS2, cS3, cS4, cS5, cS6, fS, zS⟩ := own7 oS
  obtain ⟨cH0, cH1, cH2, cH3, cH4, fH, zH⟩ := own5t oH
  obtain ⟨cX0, cX1, cX2, cX3, cX4, cX5, cX6, fX, zX⟩ := own7 oX
  go_wp2
  all_goals (go_ret; exact ⟨by first | rfl | simp_all, (by repeat (first | exact bel | refine Below.alloc ?_ (by have := bel.size; simp; omega) _))⟩)

set_option linter.unusedVariables false in
set_option maxRecDepth 100000 in
set_option maxHeartbeats 4000000 in
theorem timesyncRefuses_near (sy : Bool) (l h a k src he f p b s c L H A : Int) (w : World) (q : HearIs sy l h a k src he f p b s c true L H A (p + 1) f s 0) (r : tsB true L H A (p + 1) f s sy l h a k src he = false) (b1 : 0 ≤ p) (b2 : p < 60) (hs : sy = true) (hk : p < k) (hz : (k == 0) = false) :
    Calls Try.prog 5 #[.agg #[.bool sy, .int .i64 l, .int .i64 h, .int .i64 a, .int .i64 k, .int .i64 src, .int .i64 he], .agg #[.int .i64 f, .int .i64 p, .int .i64 b, .int .i64 s, .int .i64 c]] w fun e w' => e = .returned (.bool true) ∧ Below w.heap.size w w' := by
  subst hs
  have e1 := eq_ts_lit true L H A (p + 1) f s true l h a k src he r
  have Hq := Lib.hid q
  clear q
  have Hr := Lib.hid r
  clear r
  go_enter Try.func5, Try.ntmps5
  go_wp2_with fail
  refine (head_any _).mono ?_
  rintro e w1 ⟨rfl, hb⟩
  have oS : Own w1 w.heap.size [.bool true, .int .i64 l, .int .i64 h, .int .i64 a, .int .i64 k, .int .i64 src, .int .i64 he] 25 := ((own_at _ _ rfl).alloc _).below hb
  have oH : Own w1 (w.heap.size + 1) [.int .i64 f, .int .i64 p, .int .i64 b, .int .i64 s, .int .i64 c] 27 := (own_at _ _ (by simp)).below hb
  have bel := belowTo (((Below.refl w.heap.size w).alloc (by simp) _).alloc (by simp) _) hb (by simp; omega)
  clear hb 
  obtain ⟨cS0, cS1, cS2, cS3, cS4, cS5, cS6, fS, zS⟩ := own7 oS
  obtain ⟨cH0, cH1, cH2, cH3, cH4, fH, zH⟩ := own5t oH
  go_wp2_with fail
  refine (hear_lit true l h a k src he f p b s c true L H A (p + 1) f s 0 _ Hq.out).mono ?_
  rintro e w2 ⟨rfl, hb⟩
  replace oS := oS.below hb
  replace oH := oH.below hb
  replace bel := belowTo bel hb (by exact bel.size)
  clear hb cS0 cS1 cS2 cS3 cS4 cS5 cS6 fS zS cH0 cH1 cH2 cH3 cH4 fH zH
  obtain ⟨cS0, cS1, cS2, cS3, cS4, cS5, cS6, fS, zS⟩ := own7 oS
  obtain ⟨cH0, cH1, cH2, cH3, cH4, fH, zH⟩ := own5t oH
  go_wp2_with fail
  have oX : Own (w2.alloc (Obj.cells #[.bool true, .int .i64 L, .int .i64 H, .int .i64 A, .int .i64 (p + 1), .int .i64 f, .int .i64 s] 25)) w2.heap.size [.bool true, .int .i64 L, .int .i64 H, .int .i64 A, .int .i64 (p + 1), .int .i64 f, .int .i64 s] 25 := own_at _ _ rfl
  replace oS := oS.alloc (Obj.cells #[.bool true, .int .i64 L, .int .i64 H, .int .i64 A, .int .i64 (p + 1), .int .i64 f, .int .i64 s] 25)
  replace oH := oH.alloc (Obj.cells #[.bool true, .int .i64 L, .int .i64 H, .int .i64 A, .int .i64 (p + 1), .int .i64 f, .int .i64 s] 25)
  replace bel := bel.alloc bel.size (Obj.cells #[.bool true, .int .i64 L, .int .i64 H, .int .i64 A, .int .i64 (p + 1), .int .i64 f, .int .i64 s] 25)
  clear cS0 cS1 cS2 cS3 cS4 cS5 cS6 fS zS cH0 cH1 cH2 cH3 cH4 fH zH
  generalize w2.alloc (Obj.cells #[.bool true, .int .i64 L, .int .i64 H, .int .i64 A, .int .i64 (p + 1), .int .i64 f, .int .i64 s] 25) = w3 at oS oH oX bel ⊢
  obtain ⟨cS0, cS1, cS2, cS3, cS4, cS5, cS6, fS, zS⟩ := own7 oS
  obtain ⟨cH0, cH1, cH2, cH3, cH4, fH, zH⟩ := own5t oH
  obtain ⟨cX0, cX1, cX2, cX3, cX4, cX5, cX6, fX, zX⟩ := own7 oX
  go_wp2
  all_goals (go_ret; exact ⟨by first | rfl | simp_all, (by repeat (first | exact bel | refine Below.alloc ?_ (by have := bel.size; simp; omega) _))⟩)

set_option linter.unusedVariables false in
set_option maxRecDepth 100000 in
set_option maxHeartbeats 4000000 in
theorem timesyncRefuses_again (sy : Bool) (l h a k src he f p b s c L H A : Int) (w : World) (q : HearIs sy l h a k src he f p b s c true L H A (p + 1) f s 0) (r : tsB true L H A (p + 1) f s sy l h a k src he = false) (b1 : 0 ≤ p) (b2 : p < 60) (hs : sy = true) (hk : k ≤ p) (hf : (f != src) = false) (hz : (k == 0) = false) :
    Calls Try.prog 5 #[.agg #[.bool sy, .int .i64 l, .int .i64 h, .int .i64 a, .int .i64 k, .int .i64 src, .int .i64 he], .agg #[.int .i64 f, .int .i64 p, .int .i64 b, .int .i64 s, .int .i64 c]] w fun e w' => e = .returned (.bool true) ∧ Below w.heap.size w w' := by
  subst hs
  have e1 := eq_ts_lit true L H A (p + 1) f s true l h a k src he r
  have Hq := Lib.hid q
  clear q
  have Hr := Lib.hid r
  clear r
  go_enter Try.func5, Try.ntmps5
  go_wp2_with fail
  refine (head_any _).mono ?_
  rintro e w1 ⟨rfl, hb⟩
  have oS : Own w1 w.heap.size [.bool true, .int .i64 l, .int .i64 h, .int .i64 a, .int .i64 k, .int .i64 src, .int .i64 he] 25 := ((own_at _ _ rfl).alloc _).below hb
  have oH : Own w1 (w.heap.size + 1) [.int .i64 f, .int .i64 p, .int .i64 b, .int .i64 s, .int .i64 c] 27 := (own_at _ _ (by simp)).below hb
  have bel := belowTo (((Below.refl w.heap.size w).alloc (by simp) _).alloc (by simp) _) hb (by simp; omega)
  clear hb 
  obtain ⟨cS0, cS1, cS2, cS3, cS4, cS5, cS6, fS, zS⟩ := own7 oS
  obtain ⟨cH0, cH1, cH2, cH3, cH4, fH, zH⟩ := own5t oH
  go_wp2_with fail
  refine (hear_lit true l h a k src he f p b s c true L H A (p + 1) f s 0 _ Hq.out).mono ?_
  rintro e w2 ⟨rfl, hb⟩
  replace oS := oS.below hb
  replace oH := oH.below hb
  replace bel := belowTo bel hb (by exact bel.size)
  clear hb cS0 cS1 cS2 cS3 cS4 cS5 cS6 fS zS cH0 cH1 cH2 cH3 cH4 fH zH
  obtain ⟨cS0, cS1, cS2, cS3, cS4, cS5, cS6, fS, zS⟩ := own7 oS
  obtain ⟨cH0, cH1, cH2, cH3, cH4, fH, zH⟩ := own5t oH
  go_wp2_with fail
  have oX : Own (w2.alloc (Obj.cells #[.bool true, .int .i64 L, .int .i64 H, .int .i64 A, .int .i64 (p + 1), .int .i64 f, .int .i64 s] 25)) w2.heap.size [.bool true, .int .i64 L, .int .i64 H, .int .i64 A, .int .i64 (p + 1), .int .i64 f, .int .i64 s] 25 := own_at _ _ rfl
  replace oS := oS.alloc (Obj.cells #[.bool true, .int .i64 L, .int .i64 H, .int .i64 A, .int .i64 (p + 1), .int .i64 f, .int .i64 s] 25)
  replace oH := oH.alloc (Obj.cells #[.bool true, .int .i64 L, .int .i64 H, .int .i64 A, .int .i64 (p + 1), .int .i64 f, .int .i64 s] 25)
  replace bel := bel.alloc bel.size (Obj.cells #[.bool true, .int .i64 L, .int .i64 H, .int .i64 A, .int .i64 (p + 1), .int .i64 f, .int .i64 s] 25)
  clear cS0 cS1 cS2 cS3 cS4 cS5 cS6 fS zS cH0 cH1 cH2 cH3 cH4 fH zH
  generalize w2.alloc (Obj.cells #[.bool true, .int .i64 L, .int .i64 H, .int .i64 A, .int .i64 (p + 1), .int .i64 f, .int .i64 s] 25) = w3 at oS oH oX bel ⊢
  obtain ⟨cS0, cS1, cS2, cS3, cS4, cS5, cS6, fS, zS⟩ := own7 oS
  obtain ⟨cH0, cH1, cH2, cH3, cH4, fH, zH⟩ := own5t oH
  obtain ⟨cX0, cX1, cX2, cX3, cX4, cX5, cX6, fX, zX⟩ := own7 oX
  go_wp2
  all_goals (go_ret; exact ⟨by first | rfl | simp_all, (by repeat (first | exact bel | refine Below.alloc ?_ (by have := bel.size; simp; omega) _))⟩)

theorem timesyncRefuses_walk (sy : Bool) (l h a k src he f p b s c : Int) (w : World) (_0 : IntKind.i64.has l) (_1 : IntKind.i64.has h) (_2 : IntKind.i64.has a) (_3 : IntKind.i64.has k) (_4 : IntKind.i64.has src) (_5 : IntKind.i64.has he) (_6 : IntKind.i64.has f) (_7 : IntKind.i64.has p) (_8 : IntKind.i64.has b) (_9 : IntKind.i64.has s) (_10 : IntKind.i64.has c) :
    Calls Try.prog 5 #[.agg #[.bool sy, .int .i64 l, .int .i64 h, .int .i64 a, .int .i64 k, .int .i64 src, .int .i64 he], .agg #[.int .i64 f, .int .i64 p, .int .i64 b, .int .i64 s, .int .i64 c]] w fun e w' => e = .returned (.bool true) ∧ Below w.heap.size w w' := by
  obtain ⟨Y, X1, X2, X3, X4, X5, X6, E, q⟩ := hear_ex sy l h a k src he f p b s c
  cases r : tsB Y X1 X2 X3 X4 X5 X6 sy l h a k src he with
  | true =>
    cases sy with
    | false =>
      cases h0 : (E == 0) with
      | true => exact timesyncRefuses_same0_true l h a k src he f p b s c _ _ _ _ _ _ _ _ w q r h0
      | false => exact timesyncRefuses_same0_false l h a k src he f p b s c _ _ _ _ _ _ _ _ w q r h0
    | true =>
      cases h0 : (E == 0) <;> cases h1 : (f != src) <;> cases h2 : (k == 0)
      · exact timesyncRefuses_same1_false_false_false l h a k src he f p b s c _ _ _ _ _ _ _ _ w q r h0 h1 h2
      · exact timesyncRefuses_same1_false_false_true l h a k src he f p b s c _ _ _ _ _ _ _ _ w q r h0 h1 h2
      · exact timesyncRefuses_same1_false_true_false l h a k src he f p b s c _ _ _ _ _ _ _ _ w q r h0 h1 h2
      · exact timesyncRefuses_same1_false_true_true l h a k src he f p b s c _ _ _ _ _ _ _ _ w q r h0 h1 h2
      · exact timesyncRefuses_same1_true_false_false l h a k src he f p b s c _ _ _ _ _ _ _ _ w q r h0 h1 h2
      · exact timesyncRefuses_same1_true_false_true l h a k src he f p b s c _ _ _ _ _ _ _ _ w q r h0 h1 h2
      · exact timesyncRefuses_same1_true_true_false l h a k src he f p b s c _ _ _ _ _ _ _ _ w q r h0 h1 h2
      · exact timesyncRefuses_same1_true_true_true l h a k src he f p b s c _ _ _ _ _ _ _ _ w q r h0 h1 h2
  | false =>
    have q' := q
    rcases q with ⟨_, rfl, rfl, rfl, rfl, rfl, rfl, rfl, _⟩ | ⟨hC, rfl, _, _, _, rfl, rfl, rfl, rfl⟩
    · rw [tsB_self] at r; cases r
    · obtain ⟨_, _, ⟨_, _, p1, p2⟩, tk, _⟩ := hr_new hC
      rcases Bool.eq_false_or_eq_true sy with hs | hs
      · have hz : (k == 0) = false := by
          rcases (tk_out tk).1 with z | z
          · rw [z] at hs; cases hs
          · simpa using z
        by_cases hk : p < k
        · exact timesyncRefuses_near sy l h a k src he f p b s c _ _ _ w q' r p1 p2 hs hk hz
        · have hf : f = src := by
            rcases (tk_out tk).2 with z | z | z
            · rw [z] at hs; cases hs
            · exact absurd z hk
            · exact z
          exact timesyncRefuses_again sy l h a k src he f p b s c _ _ _ w q' r p1 p2 hs (by omega) (by rw [hf]; simp) hz
      · exact timesyncRefuses_off sy l h a k src he f p b s c _ _ _ w q' r p1 p2 hs

end Go.Proofs.Ytfclodgfifbfbaa

/- TimesyncMatchesReference: the walk of the law. It returns true for every input, and leaves old memory alone. -/
import Derived.Test.YtfclodgfifbfbaaHead09
import Derived.Test.YtfclodgfifbfbaaIs09
import Derived.Test.YtfclodgfifbfbaaHolds09
namespace Go.Proofs.Ytfclodgfifbfbaa
open Go.RowKit

set_option linter.unusedVariables false in
set_option maxRecDepth 100000 in
set_option maxHeartbeats 4000000 in
theorem timesyncMatchesReference_core (sy : Bool) (l h a k src he f p b s c n X1 X2 X3 X4 X5 X6 E N F Z1 Z2 Z3 Z4 Z5 Z6 K : Int) (root Y T : Bool) (w : World) (q : HearIs sy l h a k src he f p b s c Y X1 X2 X3 X4 X5 X6 E) (hb : bdN sy l h a k src he n = N ∧ bdE sy l h a k src he n = F) (ht : TickIs sy l h a k src he n T Z1 Z2 Z3 Z4 Z5 Z6) (hk : (if root = true then 0 else 60) = K) :
    Calls Try.prog 3 #[.agg #[.bool sy, .int .i64 l, .int .i64 h, .int .i64 a, .int .i64 k, .int .i64 src, .int .i64 he], .agg #[.int .i64 f, .int .i64 p, .int .i64 b, .int .i64 s, .int .i64 c], .int .i64 n, .bool root] w fun e w' => e = .returned (.bool true) ∧ Below w.heap.size w w' := by
  have e1 := eq_ts_lit Y X1 X2 X3 X4 X5 X6 Y X1 X2 X3 X4 X5 X6 (tsB_self _ _ _ _ _ _ _)
  have e2 := eq_ts_lit T Z1 Z2 Z3 Z4 Z5 Z6 T Z1 Z2 Z3 Z4 Z5 Z6 (tsB_self _ _ _ _ _ _ _)
  have e3 := eq_ts_lit root 0 0 0 K (-1) 0 root 0 0 0 K (-1) 0 (tsB_self _ _ _ _ _ _ _)
  have Hq := Lib.hid q
  clear q
  have Hhb := Lib.hid hb
  clear hb
  have Hht := Lib.hid ht
  clear ht
  have Hhk := Lib.hid hk
  clear hk
  go_enter Try.func3, Try.ntmps3
  go_wp2_with fail
  refine (head_any _).mono ?_
  rintro e w1 ⟨rfl, hb⟩
  have oS : Own w1 w.heap.size [.bool sy, .int .i64 l, .int .i64 h, .int .i64 a, .int .i64 k, .int .i64 src, .int .i64 he] 25 := ((own_at _ _ rfl).alloc _).below hb
  have oH : Own w1 (w.heap.size + 1) [.int .i64 f, .int .i64 p, .int .i64 b, .int .i64 s, .int .i64 c] 27 := (own_at _ _ (by simp)).below hb
  have bel := belowTo (((Below.refl w.heap.size w).alloc (by simp) _).alloc (by simp) _) hb (by simp; omega)
  clear hb 
  obtain ⟨cS0, cS1, cS2, cS3, cS4, cS5, cS6, fS, zS⟩ := own7 oS
  obtain ⟨cH0, cH1, cH2, cH3, cH4, fH, zH⟩ := own5t oH
  go_wp2_with fail
  refine (hear_lit sy l h a k src he f p b s c Y X1 X2 X3 X4 X5 X6 E _ Hq.out).mono ?_
  rintro e w2 ⟨rfl, hb⟩
  replace oS := oS.below hb
  replace oH := oH.below hb
  replace bel := belowTo bel hb (by exact bel.size)
  clear hb cS0 cS1 cS2 cS3 cS4 cS5 cS6 fS zS cH0 cH1 cH2 cH3 cH4 fH zH
  obtain ⟨cS0, cS1, cS2, cS3, cS4, cS5, cS6, fS, zS⟩ := own7 oS
  obtain ⟨cH0, cH1, cH2, cH3, cH4, fH, zH⟩ := own5t oH
  go_wp2_with fail
  refine (rhear_lit sy l h a k src he f p b s c Y X1 X2 X3 X4 X5 X6 E _ Hq.out).mono ?_
  rintro e w3 ⟨rfl, hb⟩
  replace oS := (oS.alloc _).below hb
  replace oH := (oH.alloc _).below hb
  have oX : Own w3 w2.heap.size [.bool Y, .int .i64 X1, .int .i64 X2, .int .i64 X3, .int .i64 X4, .int .i64 X5, .int .i64 X6] 25 := (own_at _ _ rfl).below hb
  replace bel := belowTo (bel.alloc (by have := bel.size; simp; omega) _) hb (by have := bel.size; simp; omega)
  clear hb cS0 cS1 cS2 cS3 cS4 cS5 cS6 fS zS cH0 cH1 cH2 cH3 cH4 fH zH
  obtain ⟨cS0, cS1, cS2, cS3, cS4, cS5, cS6, fS, zS⟩ := own7 oS
  obtain ⟨cH0, cH1, cH2, cH3, cH4, fH, zH⟩ := own5t oH
  obtain ⟨cX0, cX1, cX2, cX3, cX4, cX5, cX6, fX, zX⟩ := own7 oX
  go_wp2_with fail
  have oU : Own (w3.alloc (Obj.cells #[.bool Y, .int .i64 X1, .int .i64 X2, .int .i64 X3, .int .i64 X4, .int .i64 X5, .int .i64 X6] 25)) w3.heap.size [.bool Y, .int .i64 X1, .int .i64 X2, .int .i64 X3, .int .i64 X4, .int .i64 X5, .int .i64 X6] 25 := own_at _ _ rfl
  replace oS := oS.alloc (Obj.cells #[.bool Y, .int .i64 X1, .int .i64 X2, .int .i64 X3, .int .i64 X4, .int .i64 X5, .int .i64 X6] 25)
  replace oH := oH.alloc (Obj.cells #[.bool Y, .int .i64 X1, .int .i64 X2, .int .i64 X3, .int .i64 X4, .int .i64 X5, .int .i64 X6] 25)
  replace oX := oX.alloc (Obj.cells #[.bool Y, .int .i64 X1, .int .i64 X2, .int .i64 X3, .int .i64 X4, .int .i64 X5, .int .i64 X6] 25)
  replace bel := bel.alloc bel.size (Obj.cells #[.bool Y, .int .i64 X1, .int .i64 X2, .int .i64 X3, .int .i64 X4, .int .i64 X5, .int .i64 X6] 25)
  clear cS0 cS1 cS2 cS3 cS4 cS5 cS6 fS zS cH0 cH1 cH2 cH3 cH4 fH zH cX0 cX1 cX2 cX3 cX4 cX5 cX6 fX zX
  generalize w3.alloc (Obj.cells #[.bool Y, .int .i64 X1, .int .i64 X2, .int .i64 X3, .int .i64 X4, .int .i64 X5, .int .i64 X6] 25) = w4 at oS oH oX oU bel ⊢
  obtain ⟨cS0, cS1, cS2, cS3, cS4, cS5, cS6, fS, zS⟩ := own7 oS
  obtain ⟨cH0, cH1, cH2, cH3, cH4, fH, zH⟩ := own5t oH
  obtain ⟨cX0, cX1, cX2, cX3, cX4, cX5, cX6, fX, zX⟩ := own7 oX
  obtain ⟨cU0, cU1, cU2, cU3, cU4, cU5, cU6, fU, zU⟩ := own7 oU
  go_wp2_with fail
  refine (tbound_lit sy l h a k src he n N F _ Hhb.out).mono ?_
  rintro e w5 ⟨rfl, hb⟩
  replace oS := oS.below hb
  replace oH := oH.below hb
  replace oX := oX.below hb
  replace oU := oU.below hb
  replace bel := belowTo bel hb (by exact bel.size)
  clear hb cS0 cS1 cS2 cS3 cS4 cS5 cS6 fS zS cH0 cH1 cH2 cH3 cH4 fH zH cX0 cX1 cX2 cX3 cX4 cX5 cX6 fX zX cU0 cU1 cU2 cU3 cU4 cU5 cU6 fU zU
  obtain ⟨cS0, cS1, cS2, cS3, cS4, cS5, cS6, fS, zS⟩ := own7 oS
  obtain ⟨cH0, cH1, cH2, cH3, cH4, fH, zH⟩ := own5t oH
  obtain ⟨cX0, cX1, cX2, cX3, cX4, cX5, cX6, fX, zX⟩ := own7 oX
  obtain ⟨cU0, cU1, cU2, cU3, cU4, cU5, cU6, fU, zU⟩ := own7 oU
  go_wp2_with fail
  refine (rbound_lit sy l h a k src he n N F _ Hhb.out).mono ?_
  rintro e w6 ⟨rfl, hb⟩
  replace oS := oS.below hb
  replace oH := oH.below hb
  replace oX := oX.below hb
  replace oU := oU.below hb
  replace bel := belowTo bel hb (by exact bel.size)
  clear hb cS0 cS1 cS2 cS3 cS4 cS5 cS6 fS zS cH0 cH1 cH2 cH3 cH4 fH zH cX0 cX1 cX2 cX3 cX4 cX5 cX6 fX zX cU0 cU1 cU2 cU3 cU4 cU5 cU6 fU zU
  obtain ⟨cS0, cS1, cS2, cS3, cS4, cS5, cS6, fS, zS⟩ := own7 oS
  obtain ⟨cH0, cH1, cH2, cH3, cH4, fH, zH⟩ := own5t oH
  obtain ⟨cX0, cX1, cX2, cX3, cX4, cX5, cX6, fX, zX⟩ := own7 oX
  obtain ⟨cU0, cU1, cU2, cU3, cU4, cU5, cU6, fU, zU⟩ := own7 oU
  go_wp2_with fail
  have pS0 := fun x : Past w6 => (oS.past x).cell (i := 0) rfl
  have pS1 := fun x : Past w6 => (oS.past x).cell (i := 1) rfl
  have pS2 := fun x : Past w6 => (oS.past x).cell (i := 2) rfl
  have pS3 := fun x : Past w6 => (oS.past x).cell (i := 3) rfl
  have pS4 := fun x : Past w6 => (oS.past x).cell (i := 4) rfl
  have pS5 := fun x : Past w6 => (oS.past x).cell (i := 5) rfl
  have pS6 := fun x : Past w6 => (oS.past x).cell (i := 6) rfl
  have pX0 := fun x : Past w6 => (oX.past x).cell (i := 0) rfl
  have pX1 := fun x : Past w6 => (oX.past x).cell (i := 1) rfl
  have pX2 := fun x : Past w6 => (oX.past x).cell (i := 2) rfl
  have pX3 := fun x : Past w6 => (oX.past x).cell (i := 3) rfl
  have pX4 := fun x : Past w6 => (oX.past x).cell (i := 4) rfl
  have pX5 := fun x : Past w6 => (oX.past x).cell (i := 5) rfl
  have pX6 := fun x : Past w6 => (oX.past x).cell (i := 6) rfl
  have pU0 := fun x : Past w6 => (oU.past x).cell (i := 0) rfl
  have pU1 := fun x : Past w6 => (oU.past x).cell (i := 1) rfl
  have pU2 := fun x : Past w6 => (oU.past x).cell (i := 2) rfl
  have pU3 := fun x : Past w6 => (oU.past x).cell (i := 3) rfl
  have pU4 := fun x : Past w6 => (oU.past x).cell (i := 4) rfl
  have pU5 := fun x : Past w6 => (oU.past x).cell (i := 5) rfl
  have pU6 := fun x : Past w6 => (oU.past x).cell (i := 6) rfl
  refine wp_region_past (by kernel_rfl) (by kernel_rfl) ?_
  repeat (go_big_quiet_step ((first | (go_at_call 16; exact calls_past (tick_lit sy l h a k src he n T Z1 Z2 Z3 Z4 Z5 Z6 _ Hht.out)) | (go_at_call 17; exact calls_past (rtick_lit sy l h a k src he n T Z1 Z2 Z3 Z4 Z5 Z6 _ Hht.out)) | (go_at_call 18; exact calls_past (start_lit root K _ Hhk.out)) | (go_at_call 19; exact calls_past (rstart_lit root K _ Hhk.out)))))
  refine wpQuiet_nil ?_
  rintro _ ⟨x, rfl⟩
  replace bel : Below w.heap.size w (past w6 x) := bel.trans (x.h.mono bel.size)
  clear pS0 pS1 pS2 pS3 pS4 pS5 pS6
  clear pX0 pX1 pX2 pX3 pX4 pX5 pX6
  clear pU0 pU1 pU2 pU3 pU4 pU5 pU6
  clear cS0 cS1 cS2 cS3 cS4 cS5 cS6 fS zS cH0 cH1 cH2 cH3 cH4 fH zH cX0 cX1 cX2 cX3 cX4 cX5 cX6 fX zX cU0 cU1 cU2 cU3 cU4 cU5 cU6 fU zU
  replace oS := oS.past x
  replace oH := oH.past x
  replace oX := oX.past x
  replace oU := oU.past x
  generalize past w6 x = w7 at oS oH oX oU bel ⊢
  obtain ⟨cS0, cS1, cS2, cS3, cS4, cS5, cS6, fS, zS⟩ := own7 oS
  obtain ⟨cH0, cH1, cH2, cH3, cH4, fH, zH⟩ := own5t oH
  obtain ⟨cX0, cX1, cX2, cX3, cX4, cX5, cX6, fX, zX⟩ := own7 oX
  obtain ⟨cU0, cU1, cU2, cU3, cU4, cU5, cU6, fU, zU⟩ := own7 oU
  go_wp2
  all_goals (go_ret; exact ⟨by first | rfl | simp_all, (by repeat (first | exact bel | refine Below.alloc ?_ (by have := bel.size; simp; omega) _))⟩)

theorem timesyncMatchesReference_walk (sy : Bool) (l h a k src he f p b s c n : Int) (root : Bool) (w : World) (_0 : IntKind.i64.has l) (_1 : IntKind.i64.has h) (_2 : IntKind.i64.has a) (_3 : IntKind.i64.has k) (_4 : IntKind.i64.has src) (_5 : IntKind.i64.has he) (_6 : IntKind.i64.has f) (_7 : IntKind.i64.has p) (_8 : IntKind.i64.has b) (_9 : IntKind.i64.has s) (_10 : IntKind.i64.has c) (_11 : IntKind.i64.has n) :
    Calls Try.prog 3 #[.agg #[.bool sy, .int .i64 l, .int .i64 h, .int .i64 a, .int .i64 k, .int .i64 src, .int .i64 he], .agg #[.int .i64 f, .int .i64 p, .int .i64 b, .int .i64 s, .int .i64 c], .int .i64 n, .bool root] w fun e w' => e = .returned (.bool true) ∧ Below w.heap.size w w' := by
  obtain ⟨Y, X1, X2, X3, X4, X5, X6, E, q⟩ := hear_ex sy l h a k src he f p b s c
  obtain ⟨T, Z1, Z2, Z3, Z4, Z5, Z6, t⟩ := tick_ex sy l h a k src he n
  exact timesyncMatchesReference_core sy l h a k src he f p b s c n _ _ _ _ _ _ _ _ _ _ _ _ _ _ _ _ root _ _ w q ⟨rfl, rfl⟩ t rfl

end Go.Proofs.Ytfclodgfifbfbaa

/- The contract of timesync.Hear: its ways over Meet. -/
import Derived.Test.YtfclodgfifbfbaaTime2
import Derived.Test.YtfclodgfifbfbaaIs
import Derived.Test.YtfclodgfifbfbaaHeard
import Derived.Test.YtfclodgfifbfbaaMeet
namespace Go.Proofs.Ytfclodgfifbfbaa
open Go.RowKit

set_option linter.unusedVariables false in
set_option maxRecDepth 100000 in
set_option maxHeartbeats 2000000 in
theorem hear_meeterr (l h a k src he f p b s c L H A E2 : Int) (w : World) (hv : vldT true l h a k src he = true) (hh : heL s b c = L ∧ heH s b c = H ∧ heA s b c = A ∧ heE s b c = 0) (k1 : 0 ≤ f) (k2 : f < 60) (k3 : 0 ≤ p) (k4 : p < 60) (hk : tkB true k src f p = true) (hE : (E2 == 0) = false) (hm : mtL l h a L H A = 0 ∧ mtH l h a L H A = 0 ∧ mtA l h a L H A = 0 ∧ mtE l h a L H A = E2) :
    Calls Try.prog 12 #[.agg #[.bool true, .int .i64 l, .int .i64 h, .int .i64 a, .int .i64 k, .int .i64 src, .int .i64 he], .agg #[.int .i64 f, .int .i64 p, .int .i64 b, .int .i64 s, .int .i64 c]] w
      fun e w' => e = .returned (.tuple #[.agg #[.bool true, .int .i64 l, .int .i64 h, .int .i64 a, .int .i64 k, .int .i64 src, .int .i64 he], .int .i64 E2]) ∧ Below w.heap.size w w' := by
  have HV := Lib.hid hv
  clear hv
  have HK := Lib.hid hk
  clear hk
  go_enter Try.func12, Try.ntmps12
  go_wp2_with fail
  refine (heard_lit f p b s c L H A 0 _ hh).mono ?_
  rintro e w1 ⟨rfl, hb⟩
  have oS : Own w1 w.heap.size [.bool true, .int .i64 l, .int .i64 h, .int .i64 a, .int .i64 k, .int .i64 src, .int .i64 he] 25 := (((own_at _ _ rfl).alloc _).alloc _).below hb
  have oH : Own w1 (w.heap.size + 1) [.int .i64 f, .int .i64 p, .int .i64 b, .int .i64 s, .int .i64 c] 27 := ((own_at _ _ (by simp)).alloc _).below hb
  have oR : Own w1 (w.heap.size + 2) [.bool false, .int .i64 0, .int .i64 0, .int .i64 0, .int .i64 0, .int .i64 0, .int .i64 0] 25 := (own_at _ _ (by simp)).below hb
  have bel := belowTo ((((Below.refl w.heap.size w).alloc (by simp) _).alloc (by simp) _).alloc (by simp; omega) _) hb (by simp; omega)
  clear hb 
  obtain ⟨cS0, cS1, cS2, cS3, cS4, cS5, cS6, fS, zS⟩ := own7 oS
  obtain ⟨cH0, cH1, cH2, cH3, cH4, fH, zH⟩ := own5t oH
  obtain ⟨cR0, cR1, cR2, cR3, cR4, cR5, cR6, fR, zR⟩ := own7 oR
  have kX : w.heap.size + 2 < w1.heap.size := zR
  go_wp2_with fail
  refine (tvalid_lit true l h a k src he true _ HV.out).mono ?_
  rintro e w2 ⟨rfl, hb⟩
  replace oS := (oS.alloc _).below hb
  replace oH := (oH.alloc _).below hb
  replace oR := (oR.alloc _).below hb
  have oX : Own w2 w1.heap.size [.int .i64 L, .int .i64 H, .int .i64 A] 23 := (own_at _ _ rfl).below hb
  replace bel := belowTo (bel.alloc (by have := bel.size; simp; omega) _) hb (by have := bel.size; simp; omega)
  clear hb cS0 cS1 cS2 cS3 cS4 cS5 cS6 fS zS cH0 cH1 cH2 cH3 cH4 fH zH cR0 cR1 cR2 cR3 cR4 cR5 cR6 fR zR
  obtain ⟨cS0, cS1, cS2, cS3, cS4, cS5, cS6, fS, zS⟩ := own7 oS
  obtain ⟨cH0, cH1, cH2, cH3, cH4, fH, zH⟩ := own5t oH
  obtain ⟨cR0, cR1, cR2, cR3, cR4, cR5, cR6, fR, zR⟩ := own7 oR
  obtain ⟨cX0, cX1, cX2, fX, zX⟩ := own3 oX
  go_wp2_with fail
  refine (is_errno 0 1 false _ (by decide)).mono ?_
  rintro e _ ⟨rfl, rfl⟩
  go_wp2_with fail
  refine (takes_lit true l h a k src he f p b s c true _ HK.out).mono ?_
  rintro e w3 ⟨rfl, hb⟩
  replace oS := oS.below hb
  replace oH := oH.below hb
  replace oR := oR.below hb
  replace oX := oX.below hb
  replace bel := belowTo bel hb (by exact bel.size)
  clear hb cS0 cS1 cS2 cS3 cS4 cS5 cS6 fS zS cH0 cH1 cH2 cH3 cH4 fH zH cR0 cR1 cR2 cR3 cR4 cR5 cR6 fR zR cX0 cX1 cX2 fX zX
  obtain ⟨cS0, cS1, cS2, cS3, cS4, cS5, cS6, fS, zS⟩ := own7 oS
  obtain ⟨cH0, cH1, cH2, cH3, cH4, fH, zH⟩ := own5t oH
  obtain ⟨cR0, cR1, cR2, cR3, cR4, cR5, cR6, fR, zR⟩ := own7 oR
  obtain ⟨cX0, cX1, cX2, fX, zX⟩ := own3 oX
  go_wp2_with fail
  refine (meet_lit l h a L H A 0 0 0 E2 _ hm).mono ?_
  rintro e w4 ⟨rfl, hb⟩
  replace oS := oS.below hb
  replace oH := oH.below hb
  replace oR := oR.below hb
  replace oX := oX.below hb
  replace bel := belowTo bel hb (by exact bel.size)
  clear hb cS0 cS1 cS2 cS3 cS4 cS5 cS6 fS zS cH0 cH1 cH2 cH3 cH4 fH zH cR0 cR1 cR2 cR3 cR4 cR5 cR6 fR zR cX0 cX1 cX2 fX zX
  obtain ⟨cS0, cS1, cS2, cS3, cS4, cS5, cS6, fS, zS⟩ := own7 oS
  obtain ⟨cH0, cH1, cH2, cH3, cH4, fH, zH⟩ := own5t oH
  obtain ⟨cR0, cR1, cR2, cR3, cR4, cR5, cR6, fR, zR⟩ := own7 oR
  obtain ⟨cX0, cX1, cX2, fX, zX⟩ := own3 oX
  go_wp2
  refine bodyPost_ret (v := .tuple #[.agg #[.bool true, .int .i64 l, .int .i64 h, .int .i64 a, .int .i64 k, .int .i64 src, .int .i64 he], .int .i64 E2]) (by simp [results, Try.results12, go_sem, *]) rfl ⟨rfl, ?_⟩
  repeat (first | (with_reducible exact bel) | (with_reducible refine belowSet ?_ _ _ _ ?_) | (with_reducible refine Below.drew ?_) | (with_reducible refine belowN ?_))
  all_goals (first | omega | (simp; omega) | (simp; done))

set_option linter.unusedVariables false in
set_option maxRecDepth 100000 in
set_option maxHeartbeats 2000000 in
theorem hear_meetok (l h a k src he f p b s c L H A M P Q : Int) (w : World) (hv : vldT true l h a k src he = true) (hh : heL s b c = L ∧ heH s b c = H ∧ heA s b c = A ∧ heE s b c = 0) (k1 : 0 ≤ f) (k2 : f < 60) (k3 : 0 ≤ p) (k4 : p < 60) (hk : tkB true k src f p = true) (hm : mtL l h a L H A = M ∧ mtH l h a L H A = P ∧ mtA l h a L H A = Q ∧ mtE l h a L H A = 0) :
    Calls Try.prog 12 #[.agg #[.bool true, .int .i64 l, .int .i64 h, .int .i64 a, .int .i64 k, .int .i64 src, .int .i64 he], .agg #[.int .i64 f, .int .i64 p, .int .i64 b, .int .i64 s, .int .i64 c]] w
      fun e w' => e = .returned (.tuple #[.agg #[.bool true, .int .i64 M, .int .i64 P, .int .i64 Q, .int .i64 (p + 1), .int .i64 f, .int .i64 s], .int .i64 0]) ∧ Below w.heap.size w w' := by
  have HV := Lib.hid hv
  clear hv
  have HK := Lib.hid hk
  clear hk
  go_enter Try.func12, Try.ntmps12
  go_wp2_with fail
  refine (heard_lit f p b s c L H A 0 _ hh).mono ?_
  rintro e w1 ⟨rfl, hb⟩
  have oS : Own w1 w.heap.size [.bool true, .int .i64 l, .int .i64 h, .int .i64 a, .int .i64 k, .int .i64 src, .int .i64 he] 25 := (((own_at _ _ rfl).alloc _).alloc _).below hb
  have oH : Own w1 (w.heap.size + 1) [.int .i64 f, .int .i64 p, .int .i64 b, .int .i64 s, .int .i64 c] 27 := ((own_at _ _ (by simp)).alloc _).below hb
  have oR : Own w1 (w.heap.size + 2) [.bool false, .int .i64 0, .int .i64 0, .int .i64 0, .int .i64 0, .int .i64 0, .int .i64 0] 25 := (own_at _ _ (by simp)).below hb
  have bel := belowTo ((((Below.refl w.heap.size w).alloc (by simp) _).alloc (by simp) _).alloc (by simp; omega) _) hb (by simp; omega)
  clear hb 
  obtain ⟨cS0, cS1, cS2, cS3, cS4, cS5, cS6, fS, zS⟩ := own7 oS
  obtain ⟨cH0, cH1, cH2, cH3, cH4, fH, zH⟩ := own5t oH
  obtain ⟨cR0, cR1, cR2, cR3, cR4, cR5, cR6, fR, zR⟩ := own7 oR
  have kX : w.heap.size + 2 < w1.heap.size := zR
  go_wp2_with fail
  refine (tvalid_lit true l h a k src he true _ HV.out).mono ?_
  rintro e w2 ⟨rfl, hb⟩
  replace oS := (oS.alloc _).below hb
  replace oH := (oH.alloc _).below hb
  replace oR := (oR.alloc _).below hb
  have oX : Own w2 w1.heap.size [.int .i64 L, .int .i64 H, .int .i64 A] 23 := (own_at _ _ rfl).below hb
  replace bel := belowTo (bel.alloc (by have := bel.size; simp; omega) _) hb (by have := bel.size; simp; omega)
  clear hb cS0 cS1 cS2 cS3 cS4 cS5 cS6 fS zS cH0 cH1 cH2 cH3 cH4 fH zH cR0 cR1 cR2 cR3 cR4 cR5 cR6 fR zR
  obtain ⟨cS0, cS1, cS2, cS3, cS4, cS5, cS6, fS, zS⟩ := own7 oS
  obtain ⟨cH0, cH1, cH2, cH3, cH4, fH, zH⟩ := own5t oH
  obtain ⟨cR0, cR1, cR2, cR3, cR4, cR5, cR6, fR, zR⟩ := own7 oR
  obtain ⟨cX0, cX1, cX2, fX, zX⟩ := own3 oX
  go_wp2_with fail
  refine (is_errno 0 1 false _ (by decide)).mono ?_
  rintro e _ ⟨rfl, rfl⟩
  go_wp2_with fail
  refine (takes_lit true l h a k src he f p b s c true _ HK.out).mono ?_
  rintro e w3 ⟨rfl, hb⟩
  replace oS := oS.below hb
  replace oH := oH.below hb
  replace oR := oR.below hb
  replace oX := oX.below hb
  replace bel := belowTo bel hb (by exact bel.size)
  clear hb cS0 cS1 cS2 cS3 cS4 cS5 cS6 fS zS cH0 cH1 cH2 cH3 cH4 fH zH cR0 cR1 cR2 cR3 cR4 cR5 cR6 fR zR cX0 cX1 cX2 fX zX
  obtain ⟨cS0, cS1, cS2, cS3, cS4, cS5, cS6, fS, zS⟩ := own7 oS
  obtain ⟨cH0, cH1, cH2, cH3, cH4, fH, zH⟩ := own5t oH
  obtain ⟨cR0, cR1, cR2, cR3, cR4, cR5, cR6, fR, zR⟩ := own7 oR
  obtain ⟨cX0, cX1, cX2, fX, zX⟩ := own3 oX
  go_wp2_with fail
  refine (meet_lit l h a L H A M P Q 0 _ hm).mono ?_
  rintro e w4 ⟨rfl, hb⟩
  replace oS := oS.below hb
  replace oH := oH.below hb
  replace oR := oR.below hb
  replace oX := oX.below hb
  replace bel := belowTo bel hb (by exact bel.size)
  clear hb cS0 cS1 cS2 cS3 cS4 cS5 cS6 fS zS cH0 cH1 cH2 cH3 cH4 fH zH cR0 cR1 cR2 cR3 cR4 cR5 cR6 fR zR cX0 cX1 cX2 fX zX
  obtain ⟨cS0, cS1, cS2, cS3, cS4, cS5, cS6, fS, zS⟩ := own7 oS
  obtain ⟨cH0, cH1, cH2, cH3, cH4, fH, zH⟩ := own5t oH
  obtain ⟨cR0, cR1, cR2, cR3, cR4, cR5, cR6, fR, zR⟩ := own7 oR
  obtain ⟨cX0, cX1, cX2, fX, zX⟩ := own3 oX
  go_wp2
  refine bodyPost_ret (v := .tuple #[.agg #[.bool true, .int .i64 M, .int .i64 P, .int .i64 Q, .int .i64 (p + 1), .int .i64 f, .int .i64 s], .int .i64 0]) (by simp [results, Try.results12, go_sem, *]) rfl ⟨rfl, ?_⟩
  repeat (first | (with_reducible exact bel) | (with_reducible refine belowSet ?_ _ _ _ ?_) | (with_reducible refine Below.drew ?_) | (with_reducible refine belowN ?_))
  all_goals (first | omega | (simp; omega) | (simp; done))

end Go.Proofs.Ytfclodgfifbfbaa

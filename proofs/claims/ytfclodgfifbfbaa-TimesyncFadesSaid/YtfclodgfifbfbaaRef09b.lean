/- The contracts of the reference's Hear and Tick. -/
import Derived.Test.YtfclodgfifbfbaaRef09
import Derived.Test.YtfclodgfifbfbaaRMeet
import Derived.Test.YtfclodgfifbfbaaHear
import Derived.Test.YtfclodgfifbfbaaTick
namespace Go.Proofs.Ytfclodgfifbfbaa
open Go.RowKit

set_option linter.unusedVariables false in
set_option maxRecDepth 100000 in
set_option maxHeartbeats 4000000 in
theorem rhear_bad1 (sy : Bool) (l h a k src he f p b s c : Int) (w : World) (hv : vldT sy l h a k src he = false)  :
    Calls Try.prog 13 #[.agg #[.bool sy, .int .i64 l, .int .i64 h, .int .i64 a, .int .i64 k, .int .i64 src, .int .i64 he], .agg #[.int .i64 f, .int .i64 p, .int .i64 b, .int .i64 s, .int .i64 c]] w
      fun e w' => e = .returned (.tuple #[.agg #[.bool sy, .int .i64 l, .int .i64 h, .int .i64 a, .int .i64 k, .int .i64 src, .int .i64 he], .int .i64 1]) ∧ Below w.heap.size w w' := by
  have Hhv := Lib.hid hv
  clear hv
  go_enter Try.func13, Try.ntmps13
  go_wp2_with fail
  refine (rtvalid_lit sy l h a k src he false _ Hhv.out).mono ?_
  rintro e w1 ⟨rfl, hb⟩
  have oS : Own w1 w.heap.size [.bool sy, .int .i64 l, .int .i64 h, .int .i64 a, .int .i64 k, .int .i64 src, .int .i64 he] 25 := (((own_at _ _ rfl).alloc _).alloc _).below hb
  have oH : Own w1 (w.heap.size + 1) [.int .i64 f, .int .i64 p, .int .i64 b, .int .i64 s, .int .i64 c] 27 := ((own_at _ _ (by simp)).alloc _).below hb
  have oR : Own w1 (w.heap.size + 2) [.bool false, .int .i64 0, .int .i64 0, .int .i64 0, .int .i64 0, .int .i64 0, .int .i64 0] 25 := (own_at _ _ (by simp)).below hb
  have bel := belowTo ((((Below.refl w.heap.size w).alloc (by simp) _).alloc (by simp) _).alloc (by simp; omega) _) hb (by simp; omega)
  clear hb 
  obtain ⟨cS0, cS1, cS2, cS3, cS4, cS5, cS6, fS, zS⟩ := own7 oS
  obtain ⟨cH0, cH1, cH2, cH3, cH4, fH, zH⟩ := own5t oH
  obtain ⟨cR0, cR1, cR2, cR3, cR4, cR5, cR6, fR, zR⟩ := own7 oR
  go_wp2
  refine bodyPost_ret (v := .tuple #[.agg #[.bool sy, .int .i64 l, .int .i64 h, .int .i64 a, .int .i64 k, .int .i64 src, .int .i64 he], .int .i64 1]) (by simp [results, Try.results13, go_sem, *]) rfl ⟨rfl, ?_⟩
  repeat (first | (with_reducible exact bel) | (with_reducible refine belowSet ?_ _ _ _ ?_) | (with_reducible refine Below.drew ?_) | (with_reducible refine belowN ?_) | (with_reducible refine Below.alloc ?_ ?_ _))
  all_goals (first | omega | (simp; omega) | (simp; done) | (have := bel.size; simp; omega))

set_option linter.unusedVariables false in
set_option maxRecDepth 100000 in
set_option maxHeartbeats 4000000 in
theorem rhear_bad2 (sy : Bool) (l h a k src he f p b s c : Int) (w : World) (hv : vldT sy l h a k src he = true) (hh : (vldH s b c && decide (0 ≤ f ∧ f < 60 ∧ 0 ≤ p ∧ p < 60)) = false)  :
    Calls Try.prog 13 #[.agg #[.bool sy, .int .i64 l, .int .i64 h, .int .i64 a, .int .i64 k, .int .i64 src, .int .i64 he], .agg #[.int .i64 f, .int .i64 p, .int .i64 b, .int .i64 s, .int .i64 c]] w
      fun e w' => e = .returned (.tuple #[.agg #[.bool sy, .int .i64 l, .int .i64 h, .int .i64 a, .int .i64 k, .int .i64 src, .int .i64 he], .int .i64 1]) ∧ Below w.heap.size w w' := by
  have Hhv := Lib.hid hv
  clear hv
  have Hhh := Lib.hid hh
  clear hh
  go_enter Try.func13, Try.ntmps13
  go_wp2_with fail
  refine (rtvalid_lit sy l h a k src he true _ Hhv.out).mono ?_
  rintro e w1 ⟨rfl, hb⟩
  have oS : Own w1 w.heap.size [.bool sy, .int .i64 l, .int .i64 h, .int .i64 a, .int .i64 k, .int .i64 src, .int .i64 he] 25 := (((own_at _ _ rfl).alloc _).alloc _).below hb
  have oH : Own w1 (w.heap.size + 1) [.int .i64 f, .int .i64 p, .int .i64 b, .int .i64 s, .int .i64 c] 27 := ((own_at _ _ (by simp)).alloc _).below hb
  have oR : Own w1 (w.heap.size + 2) [.bool false, .int .i64 0, .int .i64 0, .int .i64 0, .int .i64 0, .int .i64 0, .int .i64 0] 25 := (own_at _ _ (by simp)).below hb
  have bel := belowTo ((((Below.refl w.heap.size w).alloc (by simp) _).alloc (by simp) _).alloc (by simp; omega) _) hb (by simp; omega)
  clear hb 
  obtain ⟨cS0, cS1, cS2, cS3, cS4, cS5, cS6, fS, zS⟩ := own7 oS
  obtain ⟨cH0, cH1, cH2, cH3, cH4, fH, zH⟩ := own5t oH
  obtain ⟨cR0, cR1, cR2, cR3, cR4, cR5, cR6, fR, zR⟩ := own7 oR
  go_wp2_with fail
  refine (rthint_lit f p b s c false _ Hhh.out).mono ?_
  rintro e w2 ⟨rfl, hb⟩
  replace oS := oS.below hb
  replace oH := oH.below hb
  replace oR := oR.below hb
  replace bel := belowTo bel hb (by exact bel.size)
  clear hb cS0 cS1 cS2 cS3 cS4 cS5 cS6 fS zS cH0 cH1 cH2 cH3 cH4 fH zH cR0 cR1 cR2 cR3 cR4 cR5 cR6 fR zR
  obtain ⟨cS0, cS1, cS2, cS3, cS4, cS5, cS6, fS, zS⟩ := own7 oS
  obtain ⟨cH0, cH1, cH2, cH3, cH4, fH, zH⟩ := own5t oH
  obtain ⟨cR0, cR1, cR2, cR3, cR4, cR5, cR6, fR, zR⟩ := own7 oR
  go_wp2
  refine bodyPost_ret (v := .tuple #[.agg #[.bool sy, .int .i64 l, .int .i64 h, .int .i64 a, .int .i64 k, .int .i64 src, .int .i64 he], .int .i64 1]) (by simp [results, Try.results13, go_sem, *]) rfl ⟨rfl, ?_⟩
  repeat (first | (with_reducible exact bel) | (with_reducible refine belowSet ?_ _ _ _ ?_) | (with_reducible refine Below.drew ?_) | (with_reducible refine belowN ?_) | (with_reducible refine Below.alloc ?_ ?_ _))
  all_goals (first | omega | (simp; omega) | (simp; done) | (have := bel.size; simp; omega))

set_option linter.unusedVariables false in
set_option maxRecDepth 100000 in
set_option maxHeartbeats 4000000 in
theorem rhear_skip (sy : Bool) (l h a k src he f p b s c : Int) (w : World) (hv : vldT sy l h a k src he = true) (hh : (vldH s b c && decide (0 ≤ f ∧ f < 60 ∧ 0 ≤ p ∧ p < 60)) = true) (hk : tkB sy k src f p = false)  :
    Calls Try.prog 13 #[.agg #[.bool sy, .int .i64 l, .int .i64 h, .int .i64 a, .int .i64 k, .int .i64 src, .int .i64 he], .agg #[.int .i64 f, .int .i64 p, .int .i64 b, .int .i64 s, .int .i64 c]] w
      fun e w' => e = .returned (.tuple #[.agg #[.bool sy, .int .i64 l, .int .i64 h, .int .i64 a, .int .i64 k, .int .i64 src, .int .i64 he], .int .i64 0]) ∧ Below w.heap.size w w' := by
  have Hhv := Lib.hid hv
  clear hv
  have Hhh := Lib.hid hh
  clear hh
  have Hhk := Lib.hid hk
  clear hk
  go_enter Try.func13, Try.ntmps13
  go_wp2_with fail
  refine (rtvalid_lit sy l h a k src he true _ Hhv.out).mono ?_
  rintro e w1 ⟨rfl, hb⟩
  have oS : Own w1 w.heap.size [.bool sy, .int .i64 l, .int .i64 h, .int .i64 a, .int .i64 k, .int .i64 src, .int .i64 he] 25 := (((own_at _ _ rfl).alloc _).alloc _).below hb
  have oH : Own w1 (w.heap.size + 1) [.int .i64 f, .int .i64 p, .int .i64 b, .int .i64 s, .int .i64 c] 27 := ((own_at _ _ (by simp)).alloc _).below hb
  have oR : Own w1 (w.heap.size + 2) [.bool false, .int .i64 0, .int .i64 0, .int .i64 0, .int .i64 0, .int .i64 0, .int .i64 0] 25 := (own_at _ _ (by simp)).below hb
  have bel := belowTo ((((Below.refl w.heap.size w).alloc (by simp) _).alloc (by simp) _).alloc (by simp; omega) _) hb (by simp; omega)
  clear hb 
  obtain ⟨cS0, cS1, cS2, cS3, cS4, cS5, cS6, fS, zS⟩ := own7 oS
  obtain ⟨cH0, cH1, cH2, cH3, cH4, fH, zH⟩ := own5t oH
  obtain ⟨cR0, cR1, cR2, cR3, cR4, cR5, cR6, fR, zR⟩ := own7 oR
  go_wp2_with fail
  refine (rthint_lit f p b s c true _ Hhh.out).mono ?_
  rintro e w2 ⟨rfl, hb⟩
  replace oS := oS.below hb
  replace oH := oH.below hb
  replace oR := oR.below hb
  replace bel := belowTo bel hb (by exact bel.size)
  clear hb cS0 cS1 cS2 cS3 cS4 cS5 cS6 fS zS cH0 cH1 cH2 cH3 cH4 fH zH cR0 cR1 cR2 cR3 cR4 cR5 cR6 fR zR
  obtain ⟨cS0, cS1, cS2, cS3, cS4, cS5, cS6, fS, zS⟩ := own7 oS
  obtain ⟨cH0, cH1, cH2, cH3, cH4, fH, zH⟩ := own5t oH
  obtain ⟨cR0, cR1, cR2, cR3, cR4, cR5, cR6, fR, zR⟩ := own7 oR
  go_wp2_with fail
  refine (rtakes_lit sy l h a k src he f p b s c false _ Hhk.out).mono ?_
  rintro e w3 ⟨rfl, hb⟩
  replace oS := oS.below hb
  replace oH := oH.below hb
  replace oR := oR.below hb
  replace bel := belowTo bel hb (by exact bel.size)
  clear hb cS0 cS1 cS2 cS3 cS4 cS5 cS6 fS zS cH0 cH1 cH2 cH3 cH4 fH zH cR0 cR1 cR2 cR3 cR4 cR5 cR6 fR zR
  obtain ⟨cS0, cS1, cS2, cS3, cS4, cS5, cS6, fS, zS⟩ := own7 oS
  obtain ⟨cH0, cH1, cH2, cH3, cH4, fH, zH⟩ := own5t oH
  obtain ⟨cR0, cR1, cR2, cR3, cR4, cR5, cR6, fR, zR⟩ := own7 oR
  go_wp2
  refine bodyPost_ret (v := .tuple #[.agg #[.bool sy, .int .i64 l, .int .i64 h, .int .i64 a, .int .i64 k, .int .i64 src, .int .i64 he], .int .i64 0]) (by simp [results, Try.results13, go_sem, *]) rfl ⟨rfl, ?_⟩
  repeat (first | (with_reducible exact bel) | (with_reducible refine belowSet ?_ _ _ _ ?_) | (with_reducible refine Below.drew ?_) | (with_reducible refine belowN ?_) | (with_reducible refine Below.alloc ?_ ?_ _))
  all_goals (first | omega | (simp; omega) | (simp; done) | (have := bel.size; simp; omega))

set_option linter.unusedVariables false in
set_option maxRecDepth 100000 in
set_option maxHeartbeats 4000000 in
theorem rhear_first (l h a k src he f p b s c L H A : Int) (w : World) (hv : vldT false l h a k src he = true) (hh : (vldH s b c && decide (0 ≤ f ∧ f < 60 ∧ 0 ≤ p ∧ p < 60)) = true) (hk : tkB false k src f p = true) (q1 : 0 ≤ f) (q2 : f < 60) (q3 : 0 ≤ p) (q4 : p < 60) (hd : heL s b c = L ∧ heH s b c = H ∧ heA s b c = A ∧ heE s b c = 0)  :
    Calls Try.prog 13 #[.agg #[.bool false, .int .i64 l, .int .i64 h, .int .i64 a, .int .i64 k, .int .i64 src, .int .i64 he], .agg #[.int .i64 f, .int .i64 p, .int .i64 b, .int .i64 s, .int .i64 c]] w
      fun e w' => e = .returned (.tuple #[.agg #[.bool true, .int .i64 L, .int .i64 H, .int .i64 A, .int .i64 (p + 1), .int .i64 f, .int .i64 s], .int .i64 0]) ∧ Below w.heap.size w w' := by
  have Hhv := Lib.hid hv
  clear hv
  have Hhh := Lib.hid hh
  clear hh
  have Hhk := Lib.hid hk
  clear hk
  have Hhd := Lib.hid hd
  clear hd
  go_enter Try.func13, Try.ntmps13
  go_wp2_with fail
  refine (rtvalid_lit false l h a k src he true _ Hhv.out).mono ?_
  rintro e w1 ⟨rfl, hb⟩
  have oS : Own w1 w.heap.size [.bool false, .int .i64 l, .int .i64 h, .int .i64 a, .int .i64 k, .int .i64 src, .int .i64 he] 25 := (((own_at _ _ rfl).alloc _).alloc _).below hb
  have oH : Own w1 (w.heap.size + 1) [.int .i64 f, .int .i64 p, .int .i64 b, .int .i64 s, .int .i64 c] 27 := ((own_at _ _ (by simp)).alloc _).below hb
  have oR : Own w1 (w.heap.size + 2) [.bool false, .int .i64 0, .int .i64 0, .int .i64 0, .int .i64 0, .int .i64 0, .int .i64 0] 25 := (own_at _ _ (by simp)).below hb
  have bel := belowTo ((((Below.refl w.heap.size w).alloc (by simp) _).alloc (by simp) _).alloc (by simp; omega) _) hb (by simp; omega)
  clear hb 
  obtain ⟨cS0, cS1, cS2, cS3, cS4, cS5, cS6, fS, zS⟩ := own7 oS
  obtain ⟨cH0, cH1, cH2, cH3, cH4, fH, zH⟩ := own5t oH
  obtain ⟨cR0, cR1, cR2, cR3, cR4, cR5, cR6, fR, zR⟩ := own7 oR
  go_wp2_with fail
  refine (rthint_lit f p b s c true _ Hhh.out).mono ?_
  rintro e w2 ⟨rfl, hb⟩
  replace oS := oS.below hb
  replace oH := oH.below hb
  replace oR := oR.below hb
  replace bel := belowTo bel hb (by exact bel.size)
  clear hb cS0 cS1 cS2 cS3 cS4 cS5 cS6 fS zS cH0 cH1 cH2 cH3 cH4 fH zH cR0 cR1 cR2 cR3 cR4 cR5 cR6 fR zR
  obtain ⟨cS0, cS1, cS2, cS3, cS4, cS5, cS6, fS, zS⟩ := own7 oS
  obtain ⟨cH0, cH1, cH2, cH3, cH4, fH, zH⟩ := own5t oH
  obtain ⟨cR0, cR1, cR2, cR3, cR4, cR5, cR6, fR, zR⟩ := own7 oR
  go_wp2_with fail
  refine (rtakes_lit false l h a k src he f p b s c true _ Hhk.out).mono ?_
  rintro e w3 ⟨rfl, hb⟩
  replace oS := oS.below hb
  replace oH := oH.below hb
  replace oR := oR.below hb
  replace bel := belowTo bel hb (by exact bel.size)
  clear hb cS0 cS1 cS2 cS3 cS4 cS5 cS6 fS zS cH0 cH1 cH2 cH3 cH4 fH zH cR0 cR1 cR2 cR3 cR4 cR5 cR6 fR zR
  obtain ⟨cS0, cS1, cS2, cS3, cS4, cS5, cS6, fS, zS⟩ := own7 oS
  obtain ⟨cH0, cH1, cH2, cH3, cH4, fH, zH⟩ := own5t oH
  obtain ⟨cR0, cR1, cR2, cR3, cR4, cR5, cR6, fR, zR⟩ := own7 oR
  go_wp2_with fail
  refine (rheard_lit f p b s c L H A 0 _ Hhd.out).mono ?_
  rintro e w4 ⟨rfl, hb⟩
  replace oS := oS.below hb
  replace oH := oH.below hb
  replace oR := oR.below hb
  replace bel := belowTo bel hb (by exact bel.size)
  clear hb cS0 cS1 cS2 cS3 cS4 cS5 cS6 fS zS cH0 cH1 cH2 cH3 cH4 fH zH cR0 cR1 cR2 cR3 cR4 cR5 cR6 fR zR
  obtain ⟨cS0, cS1, cS2, cS3, cS4, cS5, cS6, fS, zS⟩ := own7 oS
  obtain ⟨cH0, cH1, cH2, cH3, cH4, fH, zH⟩ := own5t oH
  obtain ⟨cR0, cR1, cR2, cR3, cR4, cR5, cR6, fR, zR⟩ := own7 oR
  go_wp2
  refine bodyPost_ret (v := .tuple #[.agg #[.bool true, .int .i64 L, .int .i64 H, .int .i64 A, .int .i64 (p + 1), .int .i64 f, .int .i64 s], .int .i64 0]) (by simp [results, Try.results13, go_sem, *]) rfl ⟨rfl, ?_⟩
  repeat (first | (with_reducible exact bel) | (with_reducible refine belowSet ?_ _ _ _ ?_) | (with_reducible refine Below.drew ?_) | (with_reducible refine belowN ?_) | (with_reducible refine Below.alloc ?_ ?_ _))
  all_goals (first | omega | (simp; omega) | (simp; done) | (have := bel.size; simp; omega))

set_option linter.unusedVariables false in
set_option maxRecDepth 100000 in
set_option maxHeartbeats 4000000 in
theorem rhear_meeterr (l h a k src he f p b s c L H A E2 : Int) (w : World) (hv : vldT true l h a k src he = true) (hh : (vldH s b c && decide (0 ≤ f ∧ f < 60 ∧ 0 ≤ p ∧ p < 60)) = true) (hk : tkB true k src f p = true) (q1 : 0 ≤ f) (q2 : f < 60) (q3 : 0 ≤ p) (q4 : p < 60) (hd : heL s b c = L ∧ heH s b c = H ∧ heA s b c = A ∧ heE s b c = 0) (hm : mtL l h a L H A = 0 ∧ mtH l h a L H A = 0 ∧ mtA l h a L H A = 0 ∧ mtE l h a L H A = E2) (hE : (E2 == 0) = false) :
    Calls Try.prog 13 #[.agg #[.bool true, .int .i64 l, .int .i64 h, .int .i64 a, .int .i64 k, .int .i64 src, .int .i64 he], .agg #[.int .i64 f, .int .i64 p, .int .i64 b, .int .i64 s, .int .i64 c]] w
      fun e w' => e = .returned (.tuple #[.agg #[.bool true, .int .i64 l, .int .i64 h, .int .i64 a, .int .i64 k, .int .i64 src, .int .i64 he], .int .i64 E2]) ∧ Below w.heap.size w w' := by
  have Hhv := Lib.hid hv
  clear hv
  have Hhh := Lib.hid hh
  clear hh
  have Hhk := Lib.hid hk
  clear hk
  have Hhd := Lib.hid hd
  clear hd
  have Hhm := Lib.hid hm
  clear hm
  go_enter Try.func13, Try.ntmps13
  go_wp2_with fail
  refine (rtvalid_lit true l h a k src he true _ Hhv.out).mono ?_
  rintro e w1 ⟨rfl, hb⟩
  have oS : Own w1 w.heap.size [.bool true, .int .i64 l, .int .i64 h, .int .i64 a, .int .i64 k, .int .i64 src, .int .i64 he] 25 := (((own_at _ _ rfl).alloc _).alloc _).below hb
  have oH : Own w1 (w.heap.size + 1) [.int .i64 f, .int .i64 p, .int .i64 b, .int .i64 s, .int .i64 c] 27 := ((own_at _ _ (by simp)).alloc _).below hb
  have oR : Own w1 (w.heap.size + 2) [.bool false, .int .i64 0, .int .i64 0, .int .i64 0, .int .i64 0, .int .i64 0, .int .i64 0] 25 := (own_at _ _ (by simp)).below hb
  have bel := belowTo ((((Below.refl w.heap.size w).alloc (by simp) _).alloc (by simp) _).alloc (by simp; omega) _) hb (by simp; omega)
  clear hb 
  obtain ⟨cS0, cS1, cS2, cS3, cS4, cS5, cS6, fS, zS⟩ := own7 oS
  obtain ⟨cH0, cH1, cH2, cH3, cH4, fH, zH⟩ := own5t oH
  obtain ⟨cR0, cR1, cR2, cR3, cR4, cR5, cR6, fR, zR⟩ := own7 oR
  go_wp2_with fail
  refine (rthint_lit f p b s c true _ Hhh.out).mono ?_
  rintro e w2 ⟨rfl, hb⟩
  replace oS := oS.below hb
  replace oH := oH.below hb
  replace oR := oR.below hb
  replace bel := belowTo bel hb (by exact bel.size)
  clear hb cS0 cS1 cS2 cS3 cS4 cS5 cS6 fS zS cH0 cH1 cH2 cH3 cH4 fH zH cR0 cR1 cR2 cR3 cR4 cR5 cR6 fR zR
  obtain ⟨cS0, cS1, cS2, cS3, cS4, cS5, cS6, fS, zS⟩ := own7 oS
  obtain ⟨cH0, cH1, cH2, cH3, cH4, fH, zH⟩ := own5t oH
  obtain ⟨cR0, cR1, cR2, cR3, cR4, cR5, cR6, fR, zR⟩ := own7 oR
  go_wp2_with fail
  refine (rtakes_lit true l h a k src he f p b s c true _ Hhk.out).mono ?_
  rintro e w3 ⟨rfl, hb⟩
  replace oS := oS.below hb
  replace oH := oH.below hb
  replace oR := oR.below hb
  replace bel := belowTo bel hb (by exact bel.size)
  clear hb cS0 cS1 cS2 cS3 cS4 cS5 cS6 fS zS cH0 cH1 cH2 cH3 cH4 fH zH cR0 cR1 cR2 cR3 cR4 cR5 cR6 fR zR
  obtain ⟨cS0, cS1, cS2, cS3, cS4, cS5, cS6, fS, zS⟩ := own7 oS
  obtain ⟨cH0, cH1, cH2, cH3, cH4, fH, zH⟩ := own5t oH
  obtain ⟨cR0, cR1, cR2, cR3, cR4, cR5, cR6, fR, zR⟩ := own7 oR
  go_wp2_with fail
  refine (rheard_lit f p b s c L H A 0 _ Hhd.out).mono ?_
  rintro e w4 ⟨rfl, hb⟩
  replace oS := oS.below hb
  replace oH := oH.below hb
  replace oR := oR.below hb
  replace bel := belowTo bel hb (by exact bel.size)
  clear hb cS0 cS1 cS2 cS3 cS4 cS5 cS6 fS zS cH0 cH1 cH2 cH3 cH4 fH zH cR0 cR1 cR2 cR3 cR4 cR5 cR6 fR zR
  obtain ⟨cS0, cS1, cS2, cS3, cS4, cS5, cS6, fS, zS⟩ := own7 oS
  obtain ⟨cH0, cH1, cH2, cH3, cH4, fH, zH⟩ := own5t oH
  obtain ⟨cR0, cR1, cR2, cR3, cR4, cR5, cR6, fR, zR⟩ := own7 oR
  have kX : w.heap.size + 2 < w4.heap.size := zR
  go_wp2_with fail
  refine (rmeet_lit l h a L H A 0 0 0 E2 _ Hhm.out).mono ?_
  rintro e w5 ⟨rfl, hb⟩
  replace oS := (oS.alloc _).below hb
  replace oH := (oH.alloc _).below hb
  replace oR := (oR.alloc _).below hb
  have oX : Own w5 w4.heap.size [.int .i64 L, .int .i64 H, .int .i64 A] 23 := (own_at _ _ rfl).below hb
  replace bel := belowTo (bel.alloc (by have := bel.size; simp; omega) _) hb (by have := bel.size; simp; omega)
  clear hb cS0 cS1 cS2 cS3 cS4 cS5 cS6 fS zS cH0 cH1 cH2 cH3 cH4 fH zH cR0 cR1 cR2 cR3 cR4 cR5 cR6 fR zR
  obtain ⟨cS0, cS1, cS2, cS3, cS4, cS5, cS6, fS, zS⟩ := own7 oS
  obtain ⟨cH0, cH1, cH2, cH3, cH4, fH, zH⟩ := own5t oH
  obtain ⟨cR0, cR1, cR2, cR3, cR4, cR5, cR6, fR, zR⟩ := own7 oR
  obtain ⟨cX0, cX1, cX2, fX, zX⟩ := own3 oX
  go_wp2
  refine bodyPost_ret (v := .tuple #[.agg #[.bool true, .int .i64 l, .int .i64 h, .int .i64 a, .int .i64 k, .int .i64 src, .int .i64 he], .int .i64 E2]) (by simp [results, Try.results13, go_sem, *]) rfl ⟨rfl, ?_⟩
  repeat (first | (with_reducible exact bel) | (with_reducible refine belowSet ?_ _ _ _ ?_) | (with_reducible refine Below.drew ?_) | (with_reducible refine belowN ?_) | (with_reducible refine Below.alloc ?_ ?_ _))
  all_goals (first | omega | (simp; omega) | (simp; done) | (have := bel.size; simp; omega))

set_option linter.unusedVariables false in
set_option maxRecDepth 100000 in
set_option maxHeartbeats 4000000 in
theorem rhear_meetok (l h a k src he f p b s c L H A M P Q : Int) (w : World) (hv : vldT true l h a k src he = true) (hh : (vldH s b c && decide (0 ≤ f ∧ f < 60 ∧ 0 ≤ p ∧ p < 60)) = true) (hk : tkB true k src f p = true) (q1 : 0 ≤ f) (q2 : f < 60) (q3 : 0 ≤ p) (q4 : p < 60) (hd : heL s b c = L ∧ heH s b c = H ∧ heA s b c = A ∧ heE s b c = 0) (hm : mtL l h a L H A = M ∧ mtH l h a L H A = P ∧ mtA l h a L H A = Q ∧ mtE l h a L H A = 0)  :
    Calls Try.prog 13 #[.agg #[.bool true, .int .i64 l, .int .i64 h, .int .i64 a, .int .i64 k, .int .i64 src, .int .i64 he], .agg #[.int .i64 f, .int .i64 p, .int .i64 b, .int .i64 s, .int .i64 c]] w
      fun e w' => e = .returned (.tuple #[.agg #[.bool true, .int .i64 M, .int .i64 P, .int .i64 Q, .int .i64 (p + 1), .int .i64 f, .int .i64 s], .int .i64 0]) ∧ Below w.heap.size w w' := by
  have Hhv := Lib.hid hv
  clear hv
  have Hhh := Lib.hid hh
  clear hh
  have Hhk := Lib.hid hk
  clear hk
  have Hhd := Lib.hid hd
  clear hd
  have Hhm := Lib.hid hm
  clear hm
  go_enter Try.func13, Try.ntmps13
  go_wp2_with fail
  refine (rtvalid_lit true l h a k src he true _ Hhv.out).mono ?_
  rintro e w1 ⟨rfl, hb⟩
  have oS : Own w1 w.heap.size [.bool true, .int .i64 l, .int .i64 h, .int .i64 a, .int .i64 k, .int .i64 src, .int .i64 he] 25 := (((own_at _ _ rfl).alloc _).alloc _).below hb
  have oH : Own w1 (w.heap.size + 1) [.int .i64 f, .int .i64 p, .int .i64 b, .int .i64 s, .int .i64 c] 27 := ((own_at _ _ (by simp)).alloc _).below hb
  have oR : Own w1 (w.heap.size + 2) [.bool false, .int .i64 0, .int .i64 0, .int .i64 0, .int .i64 0, .int .i64 0, .int .i64 0] 25 := (own_at _ _ (by simp)).below hb
  have bel := belowTo ((((Below.refl w.heap.size w).alloc (by simp) _).alloc (by simp) _).alloc (by simp; omega) _) hb (by simp; omega)
  clear hb 
  obtain ⟨cS0, cS1, cS2, cS3, cS4, cS5, cS6, fS, zS⟩ := own7 oS
  obtain ⟨cH0, cH1, cH2, cH3, cH4, fH, zH⟩ := own5t oH
  obtain ⟨cR0, cR1, cR2, cR3, cR4, cR5, cR6, fR, zR⟩ := own7 oR
  go_wp2_with fail
  refine (rthint_lit f p b s c true _ Hhh.out).mono ?_
  rintro e w2 ⟨rfl, hb⟩
  replace oS := oS.below hb
  replace oH := oH.below hb
  replace oR := oR.below hb
  replace bel := belowTo bel hb (by exact bel.size)
  clear hb cS0 cS1 cS2 cS3 cS4 cS5 cS6 fS zS cH0 cH1 cH2 cH3 cH4 fH zH cR0 cR1 cR2 cR3 cR4 cR5 cR6 fR zR
  obtain ⟨cS0, cS1, cS2, cS3, cS4, cS5, cS6, fS, zS⟩ := own7 oS
  obtain ⟨cH0, cH1, cH2, cH3, cH4, fH, zH⟩ := own5t oH
  obtain ⟨cR0, cR1, cR2, cR3, cR4, cR5, cR6, fR, zR⟩ := own7 oR
  go_wp2_with fail
  refine (rtakes_lit true l h a k src he f p b s c true _ Hhk.out).mono ?_
  rintro e w3 ⟨rfl, hb⟩
  replace oS := oS.below hb
  replace oH := oH.below hb
  replace oR := oR.below hb
  replace bel := belowTo bel hb (by exact bel.size)
  clear hb cS0 cS1 cS2 cS3 cS4 cS5 cS6 fS zS cH0 cH1 cH2 cH3 cH4 fH zH cR0 cR1 cR2 cR3 cR4 cR5 cR6 fR zR
  obtain ⟨cS0, cS1, cS2, cS3, cS4, cS5, cS6, fS, zS⟩ := own7 oS
  obtain ⟨cH0, cH1, cH2, cH3, cH4, fH, zH⟩ := own5t oH
  obtain ⟨cR0, cR1, cR2, cR3, cR4, cR5, cR6, fR, zR⟩ := own7 oR
  go_wp2_with fail
  refine (rheard_lit f p b s c L H A 0 _ Hhd.out).mono ?_
  rintro e w4 ⟨rfl, hb⟩
  replace oS := oS.below hb
  replace oH := oH.below hb
  replace oR := oR.below hb
  replace bel := belowTo bel hb (by exact bel.size)
  clear hb cS0 cS1 cS2 cS3 cS4 cS5 cS6 fS zS cH0 cH1 cH2 cH3 cH4 fH zH cR0 cR1 cR2 cR3 cR4 cR5 cR6 fR zR
  obtain ⟨cS0, cS1, cS2, cS3, cS4, cS5, cS6, fS, zS⟩ := own7 oS
  obtain ⟨cH0, cH1, cH2, cH3, cH4, fH, zH⟩ := own5t oH
  obtain ⟨cR0, cR1, cR2, cR3, cR4, cR5, cR6, fR, zR⟩ := own7 oR
  have kX : w.heap.size + 2 < w4.heap.size := zR
  go_wp2_with fail
  refine (rmeet_lit l h a L H A M P Q 0 _ Hhm.out).mono ?_
  rintro e w5 ⟨rfl, hb⟩
  replace oS := (oS.alloc _).below hb
  replace oH := (oH.alloc _).below hb
  replace oR := (oR.alloc _).below hb
  have oX : Own w5 w4.heap.size [.int .i64 L, .int .i64 H, .int .i64 A] 23 := (own_at _ _ rfl).below hb
  replace bel := belowTo (bel.alloc (by have := bel.size; simp; omega) _) hb (by have := bel.size; simp; omega)
  clear hb cS0 cS1 cS2 cS3 cS4 cS5 cS6 fS zS cH0 cH1 cH2 cH3 cH4 fH zH cR0 cR1 cR2 cR3 cR4 cR5 cR6 fR zR
  obtain ⟨cS0, cS1, cS2, cS3, cS4, cS5, cS6, fS, zS⟩ := own7 oS
  obtain ⟨cH0, cH1, cH2, cH3, cH4, fH, zH⟩ := own5t oH
  obtain ⟨cR0, cR1, cR2, cR3, cR4, cR5, cR6, fR, zR⟩ := own7 oR
  obtain ⟨cX0, cX1, cX2, fX, zX⟩ := own3 oX
  go_wp2
  refine bodyPost_ret (v := .tuple #[.agg #[.bool true, .int .i64 M, .int .i64 P, .int .i64 Q, .int .i64 (p + 1), .int .i64 f, .int .i64 s], .int .i64 0]) (by simp [results, Try.results13, go_sem, *]) rfl ⟨rfl, ?_⟩
  repeat (first | (with_reducible exact bel) | (with_reducible refine belowSet ?_ _ _ _ ?_) | (with_reducible refine Below.drew ?_) | (with_reducible refine belowN ?_) | (with_reducible refine Below.alloc ?_ ?_ _))
  all_goals (first | omega | (simp; omega) | (simp; done) | (have := bel.size; simp; omega))

theorem rhear_same (sy : Bool) (l h a k src he f p b s c E : Int) (w : World) (hE : hrE sy l h a k src he f p b s c = E) (hC : hrC sy l h a k src he f p b s c = false) :
    Calls Try.prog 13 #[.agg #[.bool sy, .int .i64 l, .int .i64 h, .int .i64 a, .int .i64 k, .int .i64 src, .int .i64 he], .agg #[.int .i64 f, .int .i64 p, .int .i64 b, .int .i64 s, .int .i64 c]] w
      fun e w' => e = .returned (.tuple #[.agg #[.bool sy, .int .i64 l, .int .i64 h, .int .i64 a, .int .i64 k, .int .i64 src, .int .i64 he], .int .i64 E]) ∧ Below w.heap.size w w' := by
  subst hE
  cases hv : vldT sy l h a k src he with
  | false =>
    rw [show hrE sy l h a k src he f p b s c = 1 from by simp [hrE, hrV, hv]]
    exact rhear_bad1 sy l h a k src he f p b s c w hv
  | true =>
    cases hh : (vldH s b c && decide (0 ≤ f ∧ f < 60 ∧ 0 ≤ p ∧ p < 60)) with
    | false =>
      rw [show hrE sy l h a k src he f p b s c = 1 from by
        have : hrV sy l h a k src he f p b s c = false := by simp only [hrV, hv, Bool.true_and]; exact hh
        simp [hrE, this]]
      exact rhear_bad2 sy l h a k src he f p b s c w hv hh
    | true =>
      have hV : hrV sy l h a k src he f p b s c = true := by simp only [hrV, hv, Bool.true_and]; exact hh
      have hh' := hh
      simp only [Bool.and_eq_true, decide_eq_true_eq] at hh
      cases hk : tkB sy k src f p with
      | false =>
        rw [show hrE sy l h a k src he f p b s c = 0 from by simp [hrE, hV, hk]]
        exact rhear_skip sy l h a k src he f p b s c w hv hh' hk
      | true =>
        cases sy with
        | false => simp [hrC, hrE, hV, hk] at hC
        | true =>
          have e0 : hrE true l h a k src he f p b s c = mtE l h a (heL s b c) (heH s b c) (heA s b c) := by simp [hrE, hV, hk]
          have hE : mtE l h a (heL s b c) (heH s b c) (heA s b c) ≠ 0 := by
            intro z
            simp [hrC, e0, hV, hk, z] at hC
          obtain ⟨z1, z2, z3⟩ := mt_err hE
          rw [e0]
          exact rhear_meeterr l h a k src he f p b s c _ _ _ _ w hv hh' hk hh.2.1 hh.2.2.1 hh.2.2.2.1 hh.2.2.2.2 ⟨rfl, rfl, rfl, (he_ok hh.1).1⟩ ⟨z1, z2, z3, rfl⟩ (by simpa using hE)

theorem rhear_new (sy : Bool) (l h a k src he f p b s c L H A : Int) (w : World) (hC : hrC sy l h a k src he f p b s c = true) (hL : hrL sy l h a s b c = L ∧ hrH sy l h a s b c = H ∧ hrA sy l h a s b c = A) :
    Calls Try.prog 13 #[.agg #[.bool sy, .int .i64 l, .int .i64 h, .int .i64 a, .int .i64 k, .int .i64 src, .int .i64 he], .agg #[.int .i64 f, .int .i64 p, .int .i64 b, .int .i64 s, .int .i64 c]] w
      fun e w' => e = .returned (.tuple #[.agg #[.bool true, .int .i64 L, .int .i64 H, .int .i64 A, .int .i64 (p + 1), .int .i64 f, .int .i64 s], .int .i64 0]) ∧ Below w.heap.size w w' := by
  obtain ⟨rfl, rfl, rfl⟩ := hL
  simp only [hrC, Bool.and_eq_true] at hC
  obtain ⟨⟨hV, hk⟩, hE⟩ := hC
  have hV' := hV
  simp only [hrV, Bool.and_eq_true, decide_eq_true_eq] at hV
  obtain ⟨⟨hv, hh⟩, q⟩ := hV
  have h0 := (he_ok hh).1
  have hh' : (vldH s b c && decide (0 ≤ f ∧ f < 60 ∧ 0 ≤ p ∧ p < 60)) = true := by simp [hh, q]
  cases sy with
  | false =>
    simp only [hrL, hrH, hrA]
    exact rhear_first l h a k src he f p b s c _ _ _ w hv hh' hk q.1 q.2.1 q.2.2.1 q.2.2.2 ⟨rfl, rfl, rfl, h0⟩
  | true =>
    have hE' : mtE l h a (heL s b c) (heH s b c) (heA s b c) = 0 := by simpa [hrE, hV', hk] using hE
    simp only [hrL, hrH, hrA, if_true]
    exact rhear_meetok l h a k src he f p b s c _ _ _ _ _ _ w hv hh' hk q.1 q.2.1 q.2.2.1 q.2.2.2 ⟨rfl, rfl, rfl, h0⟩ ⟨rfl, rfl, rfl, hE'⟩

set_option linter.unusedVariables false in
set_option maxRecDepth 100000 in
set_option maxHeartbeats 4000000 in
theorem rtick_bad (sy : Bool) (l h a k src he n N E : Int) (w : World) (hb : bdN sy l h a k src he n = N ∧ bdE sy l h a k src he n = E) (hv : vldT sy l h a k src he = false)  :
    Calls Try.prog 17 #[.agg #[.bool sy, .int .i64 l, .int .i64 h, .int .i64 a, .int .i64 k, .int .i64 src, .int .i64 he], .int .i64 n] w
      fun e w' => e = .returned (.agg #[.bool sy, .int .i64 l, .int .i64 h, .int .i64 a, .int .i64 k, .int .i64 src, .int .i64 he]) ∧ Below w.heap.size w w' := by
  have Hhb := Lib.hid hb
  clear hb
  have Hhv := Lib.hid hv
  clear hv
  go_enter Try.func17, Try.ntmps17
  go_wp2_with fail
  refine (rbound_lit sy l h a k src he n N E _ Hhb.out).mono ?_
  rintro e w1 ⟨rfl, hb⟩
  have oS : Own w1 w.heap.size [.bool sy, .int .i64 l, .int .i64 h, .int .i64 a, .int .i64 k, .int .i64 src, .int .i64 he] 25 := ((own_at _ _ rfl).alloc _).below hb
  have oR : Own w1 (w.heap.size + 1) [.bool false, .int .i64 0, .int .i64 0, .int .i64 0, .int .i64 0, .int .i64 0, .int .i64 0] 25 := (own_at _ _ (by simp)).below hb
  have bel := belowTo (((Below.refl w.heap.size w).alloc (by simp) _).alloc (by simp) _) hb (by simp; omega)
  clear hb 
  obtain ⟨cS0, cS1, cS2, cS3, cS4, cS5, cS6, fS, zS⟩ := own7 oS
  obtain ⟨cR0, cR1, cR2, cR3, cR4, cR5, cR6, fR, zR⟩ := own7 oR
  go_wp2_with fail
  refine (rtvalid_lit sy l h a k src he false _ Hhv.out).mono ?_
  rintro e w2 ⟨rfl, hb⟩
  replace oS := oS.below hb
  replace oR := oR.below hb
  replace bel := belowTo bel hb (by exact bel.size)
  clear hb cS0 cS1 cS2 cS3 cS4 cS5 cS6 fS zS cR0 cR1 cR2 cR3 cR4 cR5 cR6 fR zR
  obtain ⟨cS0, cS1, cS2, cS3, cS4, cS5, cS6, fS, zS⟩ := own7 oS
  obtain ⟨cR0, cR1, cR2, cR3, cR4, cR5, cR6, fR, zR⟩ := own7 oR
  go_wp2
  refine bodyPost_ret (v := .agg #[.bool sy, .int .i64 l, .int .i64 h, .int .i64 a, .int .i64 k, .int .i64 src, .int .i64 he]) (by simp [results, Try.results17, go_sem, *]) rfl ⟨rfl, ?_⟩
  repeat (first | (with_reducible exact bel) | (with_reducible refine belowSet ?_ _ _ _ ?_) | (with_reducible refine Below.drew ?_) | (with_reducible refine belowN ?_) | (with_reducible refine Below.alloc ?_ ?_ _))
  all_goals (first | omega | (simp; omega) | (simp; done) | (have := bel.size; simp; omega))

set_option linter.unusedVariables false in
set_option maxRecDepth 100000 in
set_option maxHeartbeats 4000000 in
theorem rtick_off (l h a k src he n N E : Int) (w : World) (hb : bdN false l h a k src he n = N ∧ bdE false l h a k src he n = E) (hv : vldT false l h a k src he = true)  :
    Calls Try.prog 17 #[.agg #[.bool false, .int .i64 l, .int .i64 h, .int .i64 a, .int .i64 k, .int .i64 src, .int .i64 he], .int .i64 n] w
      fun e w' => e = .returned (.agg #[.bool false, .int .i64 l, .int .i64 h, .int .i64 a, .int .i64 k, .int .i64 src, .int .i64 he]) ∧ Below w.heap.size w w' := by
  have Hhb := Lib.hid hb
  clear hb
  have Hhv := Lib.hid hv
  clear hv
  go_enter Try.func17, Try.ntmps17
  go_wp2_with fail
  refine (rbound_lit false l h a k src he n N E _ Hhb.out).mono ?_
  rintro e w1 ⟨rfl, hb⟩
  have oS : Own w1 w.heap.size [.bool false, .int .i64 l, .int .i64 h, .int .i64 a, .int .i64 k, .int .i64 src, .int .i64 he] 25 := ((own_at _ _ rfl).alloc _).below hb
  have oR : Own w1 (w.heap.size + 1) [.bool false, .int .i64 0, .int .i64 0, .int .i64 0, .int .i64 0, .int .i64 0, .int .i64 0] 25 := (own_at _ _ (by simp)).below hb
  have bel := belowTo (((Below.refl w.heap.size w).alloc (by simp) _).alloc (by simp) _) hb (by simp; omega)
  clear hb 
  obtain ⟨cS0, cS1, cS2, cS3, cS4, cS5, cS6, fS, zS⟩ := own7 oS
  obtain ⟨cR0, cR1, cR2, cR3, cR4, cR5, cR6, fR, zR⟩ := own7 oR
  go_wp2_with fail
  refine (rtvalid_lit false l h a k src he true _ Hhv.out).mono ?_
  rintro e w2 ⟨rfl, hb⟩
  replace oS := oS.below hb
  replace oR := oR.below hb
  replace bel := belowTo bel hb (by exact bel.size)
  clear hb cS0 cS1 cS2 cS3 cS4 cS5 cS6 fS zS cR0 cR1 cR2 cR3 cR4 cR5 cR6 fR zR
  obtain ⟨cS0, cS1, cS2, cS3, cS4, cS5, cS6, fS, zS⟩ := own7 oS
  obtain ⟨cR0, cR1, cR2, cR3, cR4, cR5, cR6, fR, zR⟩ := own7 oR
  go_wp2
  refine bodyPost_ret (v := .agg #[.bool false, .int .i64 l, .int .i64 h, .int .i64 a, .int .i64 k, .int .i64 src, .int .i64 he]) (by simp [results, Try.results17, go_sem, *]) rfl ⟨rfl, ?_⟩
  repeat (first | (with_reducible exact bel) | (with_reducible refine belowSet ?_ _ _ _ ?_) | (with_reducible refine Below.drew ?_) | (with_reducible refine belowN ?_) | (with_reducible refine Below.alloc ?_ ?_ _))
  all_goals (first | omega | (simp; omega) | (simp; done) | (have := bel.size; simp; omega))

set_option linter.unusedVariables false in
set_option maxRecDepth 100000 in
set_option maxHeartbeats 4000000 in
theorem rtick_kept (l h a k src he n N : Int) (w : World) (hb : bdN true l h a k src he n = N ∧ bdE true l h a k src he n = 0) (hv : vldT true l h a k src he = true)  :
    Calls Try.prog 17 #[.agg #[.bool true, .int .i64 l, .int .i64 h, .int .i64 a, .int .i64 k, .int .i64 src, .int .i64 he], .int .i64 n] w
      fun e w' => e = .returned (.agg #[.bool true, .int .i64 l, .int .i64 h, .int .i64 a, .int .i64 k, .int .i64 src, .int .i64 he]) ∧ Below w.heap.size w w' := by
  have Hhb := Lib.hid hb
  clear hb
  have Hhv := Lib.hid hv
  clear hv
  go_enter Try.func17, Try.ntmps17
  go_wp2_with fail
  refine (rbound_lit true l h a k src he n N 0 _ Hhb.out).mono ?_
  rintro e w1 ⟨rfl, hb⟩
  have oS : Own w1 w.heap.size [.bool true, .int .i64 l, .int .i64 h, .int .i64 a, .int .i64 k, .int .i64 src, .int .i64 he] 25 := ((own_at _ _ rfl).alloc _).below hb
  have oR : Own w1 (w.heap.size + 1) [.bool false, .int .i64 0, .int .i64 0, .int .i64 0, .int .i64 0, .int .i64 0, .int .i64 0] 25 := (own_at _ _ (by simp)).below hb
  have bel := belowTo (((Below.refl w.heap.size w).alloc (by simp) _).alloc (by simp) _) hb (by simp; omega)
  clear hb 
  obtain ⟨cS0, cS1, cS2, cS3, cS4, cS5, cS6, fS, zS⟩ := own7 oS
  obtain ⟨cR0, cR1, cR2, cR3, cR4, cR5, cR6, fR, zR⟩ := own7 oR
  go_wp2_with fail
  refine (rtvalid_lit true l h a k src he true _ Hhv.out).mono ?_
  rintro e w2 ⟨rfl, hb⟩
  replace oS := oS.below hb
  replace oR := oR.below hb
  replace bel := belowTo bel hb (by exact bel.size)
  clear hb cS0 cS1 cS2 cS3 cS4 cS5 cS6 fS zS cR0 cR1 cR2 cR3 cR4 cR5 cR6 fR zR
  obtain ⟨cS0, cS1, cS2, cS3, cS4, cS5, cS6, fS, zS⟩ := own7 oS
  obtain ⟨cR0, cR1, cR2, cR3, cR4, cR5, cR6, fR, zR⟩ := own7 oR
  go_wp2
  refine bodyPost_ret (v := .agg #[.bool true, .int .i64 l, .int .i64 h, .int .i64 a, .int .i64 k, .int .i64 src, .int .i64 he]) (by simp [results, Try.results17, go_sem, *]) rfl ⟨rfl, ?_⟩
  repeat (first | (with_reducible exact bel) | (with_reducible refine belowSet ?_ _ _ _ ?_) | (with_reducible refine Below.drew ?_) | (with_reducible refine belowN ?_) | (with_reducible refine Below.alloc ?_ ?_ _))
  all_goals (first | omega | (simp; omega) | (simp; done) | (have := bel.size; simp; omega))

set_option linter.unusedVariables false in
set_option maxRecDepth 100000 in
set_option maxHeartbeats 4000000 in
theorem rtick_lost (l h a k src he n N E : Int) (w : World) (hb : bdN true l h a k src he n = N ∧ bdE true l h a k src he n = E) (hv : vldT true l h a k src he = true) (hE : (E == 0) = false) :
    Calls Try.prog 17 #[.agg #[.bool true, .int .i64 l, .int .i64 h, .int .i64 a, .int .i64 k, .int .i64 src, .int .i64 he], .int .i64 n] w
      fun e w' => e = .returned (.agg #[.bool false, .int .i64 0, .int .i64 0, .int .i64 0, .int .i64 60, .int .i64 (-1), .int .i64 0]) ∧ Below w.heap.size w w' := by
  have Hhb := Lib.hid hb
  clear hb
  have Hhv := Lib.hid hv
  clear hv
  go_enter Try.func17, Try.ntmps17
  go_wp2_with fail
  refine (rbound_lit true l h a k src he n N E _ Hhb.out).mono ?_
  rintro e w1 ⟨rfl, hb⟩
  have oS : Own w1 w.heap.size [.bool true, .int .i64 l, .int .i64 h, .int .i64 a, .int .i64 k, .int .i64 src, .int .i64 he] 25 := ((own_at _ _ rfl).alloc _).below hb
  have oR : Own w1 (w.heap.size + 1) [.bool false, .int .i64 0, .int .i64 0, .int .i64 0, .int .i64 0, .int .i64 0, .int .i64 0] 25 := (own_at _ _ (by simp)).below hb
  have bel := belowTo (((Below.refl w.heap.size w).alloc (by simp) _).alloc (by simp) _) hb (by simp; omega)
  clear hb 
  obtain ⟨cS0, cS1, cS2, cS3, cS4, cS5, cS6, fS, zS⟩ := own7 oS
  obtain ⟨cR0, cR1, cR2, cR3, cR4, cR5, cR6, fR, zR⟩ := own7 oR
  go_wp2_with fail
  refine (rtvalid_lit true l h a k src he true _ Hhv.out).mono ?_
  rintro e w2 ⟨rfl, hb⟩
  replace oS := oS.below hb
  replace oR := oR.below hb
  replace bel := belowTo bel hb (by exact bel.size)
  clear hb cS0 cS1 cS2 cS3 cS4 cS5 cS6 fS zS cR0 cR1 cR2 cR3 cR4 cR5 cR6 fR zR
  obtain ⟨cS0, cS1, cS2, cS3, cS4, cS5, cS6, fS, zS⟩ := own7 oS
  obtain ⟨cR0, cR1, cR2, cR3, cR4, cR5, cR6, fR, zR⟩ := own7 oR
  go_wp2_with fail
  refine (rstart_any false _).mono ?_
  rintro e w3 ⟨rfl, hb⟩
  replace oS := oS.below hb
  replace oR := oR.below hb
  replace bel := belowTo bel hb (by exact bel.size)
  clear hb cS0 cS1 cS2 cS3 cS4 cS5 cS6 fS zS cR0 cR1 cR2 cR3 cR4 cR5 cR6 fR zR
  obtain ⟨cS0, cS1, cS2, cS3, cS4, cS5, cS6, fS, zS⟩ := own7 oS
  obtain ⟨cR0, cR1, cR2, cR3, cR4, cR5, cR6, fR, zR⟩ := own7 oR
  go_wp2
  refine bodyPost_ret (v := .agg #[.bool false, .int .i64 0, .int .i64 0, .int .i64 0, .int .i64 60, .int .i64 (-1), .int .i64 0]) (by simp [results, Try.results17, go_sem, *]) rfl ⟨rfl, ?_⟩
  repeat (first | (with_reducible exact bel) | (with_reducible refine belowSet ?_ _ _ _ ?_) | (with_reducible refine Below.drew ?_) | (with_reducible refine belowN ?_) | (with_reducible refine Below.alloc ?_ ?_ _))
  all_goals (first | omega | (simp; omega) | (simp; done) | (have := bel.size; simp; omega))

theorem rtick_same (sy : Bool) (l h a k src he n : Int) (w : World) (hk : tkL sy l h a k src he n = false) :
    Calls Try.prog 17 #[.agg #[.bool sy, .int .i64 l, .int .i64 h, .int .i64 a, .int .i64 k, .int .i64 src, .int .i64 he], .int .i64 n] w
      fun e w' => e = .returned (.agg #[.bool sy, .int .i64 l, .int .i64 h, .int .i64 a, .int .i64 k, .int .i64 src, .int .i64 he]) ∧ Below w.heap.size w w' := by
  cases hv : vldT sy l h a k src he with
  | false => exact rtick_bad sy l h a k src he n _ _ w ⟨rfl, rfl⟩ hv
  | true =>
    cases sy with
    | false => exact rtick_off l h a k src he n _ _ w ⟨rfl, rfl⟩ hv
    | true =>
      have : bdE true l h a k src he n = 0 := by simpa [tkL, hv] using hk
      exact rtick_kept l h a k src he n _ w ⟨rfl, this⟩ hv

theorem rtick_gone (sy : Bool) (l h a k src he n : Int) (w : World) (hk : tkL sy l h a k src he n = true) :
    Calls Try.prog 17 #[.agg #[.bool sy, .int .i64 l, .int .i64 h, .int .i64 a, .int .i64 k, .int .i64 src, .int .i64 he], .int .i64 n] w
      fun e w' => e = .returned (.agg #[.bool false, .int .i64 0, .int .i64 0, .int .i64 0, .int .i64 60, .int .i64 (-1), .int .i64 0]) ∧ Below w.heap.size w w' := by
  simp only [tkL, Bool.and_eq_true] at hk
  obtain ⟨⟨rfl, hv⟩, hE⟩ := hk
  exact rtick_lost l h a k src he n _ _ w ⟨rfl, rfl⟩ hv (by simpa using hE)

end Go.Proofs.Ytfclodgfifbfbaa

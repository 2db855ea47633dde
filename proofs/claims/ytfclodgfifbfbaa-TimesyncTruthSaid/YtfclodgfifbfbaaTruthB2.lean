/- TimesyncTruth: the ways of a node without time. -/
import Derived.Test.YtfclodgfifbfbaaHead09
import Derived.Test.YtfclodgfifbfbaaIs09
import Derived.Test.YtfclodgfifbfbaaHolds09
import Derived.Test.YtfclodgfifbfbaaPlain09b
namespace Go.Proofs.Ytfclodgfifbfbaa
open Go.RowKit

set_option linter.unusedVariables false in
set_option maxRecDepth 100000 in
set_option maxHeartbeats 4000000 in
theorem timesyncTruth_err_false (l h a k src he o d f p b s c t later off A X1 X2 X3 X4 X5 X6 E : Int) (Y : Bool) (w : World) (p1 : 0 ≤ later) (p2 : later ≤ 10000000000) (p3 : -b ≤ off) (p4 : off ≤ b) (p5 : 0 ≤ b) (p6 : b ≤ 2000) (p7 : 0 ≤ t) (p8 : t ≤ 10000000000000 - later - 20000) (p9 : 0 ≤ s) (p10 : s ≤ 1000000000) (hs : shN o d (((t + later) / 10000) * 10000 + off) = A ∧ shE o d (((t + later) / 10000) * 10000 + off) = 0) (q : t ≤ ((t + later) / 10000) * 10000 + off) (v : vldT false l h a k src he = true) (hi : (vldH ((t + later) / 10000) b A && decide (0 ≤ f ∧ f < 60 ∧ 0 ≤ p ∧ p < 60)) = true) (r : (false && (k == 0)) = false) (hq : HearIs false l h a k src he f p b ((t + later) / 10000) A Y X1 X2 X3 X4 X5 X6 E) (e0 : (E == 0) = false) (e1 : (E != 0) = true) (e2 : (E != 16) = true) (e3 : (E != 1) = true) :
    Calls Try.prog 9 #[.agg #[.bool false, .int .i64 l, .int .i64 h, .int .i64 a, .int .i64 k, .int .i64 src, .int .i64 he], .agg #[.int .i64 o, .int .i64 d], .agg #[.int .i64 f, .int .i64 p, .int .i64 b, .int .i64 s, .int .i64 c], .int .i64 t, .int .i64 later, .int .i64 off] w fun e w' => e = .returned (.bool true) ∧ Below w.heap.size w w' := by
  have Hhs := Lib.hid hs
  clear hs
  have Hv := Lib.hid v
  clear v
  have Hhi := Lib.hid hi
  clear hi
  have Hr := Lib.hid r
  clear r
  have Hhq := Lib.hid hq
  clear hq
  go_enter Try.func9, Try.ntmps9
  go_wp2_with fail
  refine (head_any _).mono ?_
  rintro e w1 ⟨rfl, hb⟩
  have oS : Own w1 w.heap.size [.bool false, .int .i64 l, .int .i64 h, .int .i64 a, .int .i64 k, .int .i64 src, .int .i64 he] 25 := (((own_at _ _ rfl).alloc _).alloc _).below hb
  have oC : Own w1 (w.heap.size + 1) [.int .i64 o, .int .i64 d] 47 := ((own_at _ _ (by simp)).alloc _).below hb
  have oH : Own w1 (w.heap.size + 2) [.int .i64 f, .int .i64 p, .int .i64 b, .int .i64 s, .int .i64 c] 27 := (own_at _ _ (by simp)).below hb
  have bel := belowTo ((((Below.refl w.heap.size w).alloc (by simp) _).alloc (by simp) _).alloc (by simp; omega) _) hb (by simp; omega)
  clear hb 
  obtain ⟨cS0, cS1, cS2, cS3, cS4, cS5, cS6, fS, zS⟩ := own7 oS
  obtain ⟨cC0, cC1, fC, zC⟩ := own2 oC
  obtain ⟨cH0, cH1, cH2, cH3, cH4, fH, zH⟩ := own5t oH
  go_wp2_with fail
  replace oS := ((oS.other (by first | (simp; done) | (simp; omega) | omega) (a := ⟨w.heap.size + 2, 4, none⟩) (.int .i64 0)).other (by first | (simp; done) | (simp; omega) | omega) (a := ⟨w.heap.size + 2, 3, none⟩) (.int .i64 ((t + later) / 10000)))
  replace oC := ((oC.other (by first | (simp; done) | (simp; omega) | omega) (a := ⟨w.heap.size + 2, 4, none⟩) (.int .i64 0)).other (by first | (simp; done) | (simp; omega) | omega) (a := ⟨w.heap.size + 2, 3, none⟩) (.int .i64 ((t + later) / 10000)))
  replace bel := ((bel.setCell (p := ⟨w.heap.size + 2, 4, none⟩) (by first | (simp; done) | (simp; omega) | omega) (.int .i64 0)).setCell (p := ⟨w.heap.size + 2, 3, none⟩) (by first | (simp; done) | (simp; omega) | omega) (.int .i64 ((t + later) / 10000)))
  replace oH : Own _ (w.heap.size + 2) [.int .i64 f, .int .i64 p, .int .i64 b, .int .i64 ((t + later) / 10000), .int .i64 0] 27 := ((oH.set 4 (.int .i64 0)).set 3 (.int .i64 ((t + later) / 10000)))
  clear cS0 cS1 cS2 cS3 cS4 cS5 cS6 fS zS cC0 cC1 fC zC cH0 cH1 cH2 cH3 cH4 fH zH
  generalize ((w1.setCell ⟨w.heap.size + 2, 4, none⟩ (.int .i64 0)).setCell ⟨w.heap.size + 2, 3, none⟩ (.int .i64 ((t + later) / 10000))) = w2 at oS oC oH bel ⊢
  obtain ⟨cS0, cS1, cS2, cS3, cS4, cS5, cS6, fS, zS⟩ := own7 oS
  obtain ⟨cC0, cC1, fC, zC⟩ := own2 oC
  obtain ⟨cH0, cH1, cH2, cH3, cH4, fH, zH⟩ := own5t oH
  skip
  refine (show_lit o d (((t + later) / 10000) * 10000 + off) A 0 _ Hhs.out).mono ?_
  rintro e w3 ⟨rfl, hb⟩
  replace oS := oS.below hb
  replace oC := oC.below hb
  replace oH := oH.below hb
  replace bel := belowTo bel hb (by exact bel.size)
  clear hb cS0 cS1 cS2 cS3 cS4 cS5 cS6 fS zS cC0 cC1 fC zC cH0 cH1 cH2 cH3 cH4 fH zH
  obtain ⟨cS0, cS1, cS2, cS3, cS4, cS5, cS6, fS, zS⟩ := own7 oS
  obtain ⟨cC0, cC1, fC, zC⟩ := own2 oC
  obtain ⟨cH0, cH1, cH2, cH3, cH4, fH, zH⟩ := own5t oH
  go_wp2_with fail
  replace oS := (oS.other (by first | (simp; done) | (simp; omega) | omega) (a := ⟨w.heap.size + 2, 4, none⟩) (.int .i64 A))
  replace oC := (oC.other (by first | (simp; done) | (simp; omega) | omega) (a := ⟨w.heap.size + 2, 4, none⟩) (.int .i64 A))
  replace bel := (bel.setCell (p := ⟨w.heap.size + 2, 4, none⟩) (by first | (simp; done) | (simp; omega) | omega) (.int .i64 A))
  replace oH : Own _ (w.heap.size + 2) [.int .i64 f, .int .i64 p, .int .i64 b, .int .i64 ((t + later) / 10000), .int .i64 A] 27 := (oH.set 4 (.int .i64 A))
  clear cS0 cS1 cS2 cS3 cS4 cS5 cS6 fS zS cC0 cC1 fC zC cH0 cH1 cH2 cH3 cH4 fH zH
  generalize (w3.setCell ⟨w.heap.size + 2, 4, none⟩ (.int .i64 A)) = w4 at oS oC oH bel ⊢
  obtain ⟨cS0, cS1, cS2, cS3, cS4, cS5, cS6, fS, zS⟩ := own7 oS
  obtain ⟨cC0, cC1, fC, zC⟩ := own2 oC
  obtain ⟨cH0, cH1, cH2, cH3, cH4, fH, zH⟩ := own5t oH
  go_wp2_with fail
  refine (rtvalid_lit false l h a k src he true _ Hv.out).mono ?_
  rintro e w5 ⟨rfl, hb⟩
  replace oS := oS.below hb
  replace oC := oC.below hb
  replace oH := oH.below hb
  replace bel := belowTo bel hb (by exact bel.size)
  clear hb cS0 cS1 cS2 cS3 cS4 cS5 cS6 fS zS cC0 cC1 fC zC cH0 cH1 cH2 cH3 cH4 fH zH
  obtain ⟨cS0, cS1, cS2, cS3, cS4, cS5, cS6, fS, zS⟩ := own7 oS
  obtain ⟨cC0, cC1, fC, zC⟩ := own2 oC
  obtain ⟨cH0, cH1, cH2, cH3, cH4, fH, zH⟩ := own5t oH
  go_wp2_with fail
  refine (rthint_lit f p b ((t + later) / 10000) A true _ Hhi.out).mono ?_
  rintro e w6 ⟨rfl, hb⟩
  replace oS := oS.below hb
  replace oC := oC.below hb
  replace oH := oH.below hb
  replace bel := belowTo bel hb (by exact bel.size)
  clear hb cS0 cS1 cS2 cS3 cS4 cS5 cS6 fS zS cC0 cC1 fC zC cH0 cH1 cH2 cH3 cH4 fH zH
  obtain ⟨cS0, cS1, cS2, cS3, cS4, cS5, cS6, fS, zS⟩ := own7 oS
  obtain ⟨cC0, cC1, fC, zC⟩ := own2 oC
  obtain ⟨cH0, cH1, cH2, cH3, cH4, fH, zH⟩ := own5t oH
  go_wp2_with fail
  refine (rroot_lit false l h a k src he false _ Hr.out).mono ?_
  rintro e w7 ⟨rfl, hb⟩
  replace oS := oS.below hb
  replace oC := oC.below hb
  replace oH := oH.below hb
  replace bel := belowTo bel hb (by exact bel.size)
  clear hb cS0 cS1 cS2 cS3 cS4 cS5 cS6 fS zS cC0 cC1 fC zC cH0 cH1 cH2 cH3 cH4 fH zH
  obtain ⟨cS0, cS1, cS2, cS3, cS4, cS5, cS6, fS, zS⟩ := own7 oS
  obtain ⟨cC0, cC1, fC, zC⟩ := own2 oC
  obtain ⟨cH0, cH1, cH2, cH3, cH4, fH, zH⟩ := own5t oH
  go_wp2_with fail
  refine (hear_lit false l h a k src he f p b ((t + later) / 10000) A Y X1 X2 X3 X4 X5 X6 E _ Hhq.out).mono ?_
  rintro e w9 ⟨rfl, hb⟩
  replace oS := oS.below hb
  replace oC := oC.below hb
  replace oH := oH.below hb
  replace bel := belowTo bel hb (by exact bel.size)
  clear hb cS0 cS1 cS2 cS3 cS4 cS5 cS6 fS zS cC0 cC1 fC zC cH0 cH1 cH2 cH3 cH4 fH zH
  obtain ⟨cS0, cS1, cS2, cS3, cS4, cS5, cS6, fS, zS⟩ := own7 oS
  obtain ⟨cC0, cC1, fC, zC⟩ := own2 oC
  obtain ⟨cH0, cH1, cH2, cH3, cH4, fH, zH⟩ := own5t oH
  go_wp2_with fail
  have oX : Own (w9.alloc (Obj.cells #[.bool Y, .int .i64 X1, .int .i64 X2, .int .i64 X3, .int .i64 X4, .int .i64 X5, .int .i64 X6] 25)) w9.heap.size [.bool Y, .int .i64 X1, .int .i64 X2, .int .i64 X3, .int .i64 X4, .int .i64 X5, .int .i64 X6] 25 := own_at _ _ rfl
  replace oS := oS.alloc (Obj.cells #[.bool Y, .int .i64 X1, .int .i64 X2, .int .i64 X3, .int .i64 X4, .int .i64 X5, .int .i64 X6] 25)
  replace oC := oC.alloc (Obj.cells #[.bool Y, .int .i64 X1, .int .i64 X2, .int .i64 X3, .int .i64 X4, .int .i64 X5, .int .i64 X6] 25)
  replace oH := oH.alloc (Obj.cells #[.bool Y, .int .i64 X1, .int .i64 X2, .int .i64 X3, .int .i64 X4, .int .i64 X5, .int .i64 X6] 25)
  replace bel := bel.alloc bel.size (Obj.cells #[.bool Y, .int .i64 X1, .int .i64 X2, .int .i64 X3, .int .i64 X4, .int .i64 X5, .int .i64 X6] 25)
  clear cS0 cS1 cS2 cS3 cS4 cS5 cS6 fS zS cC0 cC1 fC zC cH0 cH1 cH2 cH3 cH4 fH zH
  generalize w9.alloc (Obj.cells #[.bool Y, .int .i64 X1, .int .i64 X2, .int .i64 X3, .int .i64 X4, .int .i64 X5, .int .i64 X6] 25) = w10 at oS oC oH oX bel ⊢
  obtain ⟨cS0, cS1, cS2, cS3, cS4, cS5, cS6, fS, zS⟩ := own7 oS
  obtain ⟨cC0, cC1, fC, zC⟩ := own2 oC
  obtain ⟨cH0, cH1, cH2, cH3, cH4, fH, zH⟩ := own5t oH
  obtain ⟨cX0, cX1, cX2, cX3, cX4, cX5, cX6, fX, zX⟩ := own7 oX
  go_wp2
  all_goals (go_ret; exact ⟨by first | rfl | simp_all, (by repeat (first | exact bel | refine Below.alloc ?_ (by have := bel.size; simp; omega) _))⟩)

set_option linter.unusedVariables false in
set_option maxRecDepth 100000 in
set_option maxHeartbeats 4000000 in
theorem timesyncTruth_taken_false (l h a k src he o d f p b s c t later off A X1 X2 X3 X4 X5 X6 : Int) (Y : Bool) (w : World) (p1 : 0 ≤ later) (p2 : later ≤ 10000000000) (p3 : -b ≤ off) (p4 : off ≤ b) (p5 : 0 ≤ b) (p6 : b ≤ 2000) (p7 : 0 ≤ t) (p8 : t ≤ 10000000000000 - later - 20000) (p9 : 0 ≤ s) (p10 : s ≤ 1000000000) (hs : shN o d (((t + later) / 10000) * 10000 + off) = A ∧ shE o d (((t + later) / 10000) * 10000 + off) = 0) (q : t ≤ ((t + later) / 10000) * 10000 + off) (v : vldT false l h a k src he = true) (hi : (vldH ((t + later) / 10000) b A && decide (0 ≤ f ∧ f < 60 ∧ 0 ≤ p ∧ p < 60)) = true) (r : (false && (k == 0)) = false) (hq : HearIs false l h a k src he f p b ((t + later) / 10000) A Y X1 X2 X3 X4 X5 X6 0) (hk : tkB false k src f p = true) (ho2 : hoB X1 X2 X3 o d (((t + later) / 10000) * 10000 + off) = true) :
    Calls Try.prog 9 #[.agg #[.bool false, .int .i64 l, .int .i64 h, .int .i64 a, .int .i64 k, .int .i64 src, .int .i64 he], .agg #[.int .i64 o, .int .i64 d], .agg #[.int .i64 f, .int .i64 p, .int .i64 b, .int .i64 s, .int .i64 c], .int .i64 t, .int .i64 later, .int .i64 off] w fun e w' => e = .returned (.bool true) ∧ Below w.heap.size w w' := by
  have Hhs := Lib.hid hs
  clear hs
  have Hv := Lib.hid v
  clear v
  have Hhi := Lib.hid hi
  clear hi
  have Hr := Lib.hid r
  clear r
  have Hhq := Lib.hid hq
  clear hq
  have Hhk := Lib.hid hk
  clear hk
  have Hho2 := Lib.hid ho2
  clear ho2
  go_enter Try.func9, Try.ntmps9
  go_wp2_with fail
  refine (head_any _).mono ?_
  rintro e w1 ⟨rfl, hb⟩
  have oS : Own w1 w.heap.size [.bool false, .int .i64 l, .int .i64 h, .int .i64 a, .int .i64 k, .int .i64 src, .int .i64 he] 25 := (((own_at _ _ rfl).alloc _).alloc _).below hb
  have oC : Own w1 (w.heap.size + 1) [.int .i64 o, .int .i64 d] 47 := ((own_at _ _ (by simp)).alloc _).below hb
  have oH : Own w1 (w.heap.size + 2) [.int .i64 f, .int .i64 p, .int .i64 b, .int .i64 s, .int .i64 c] 27 := (own_at _ _ (by simp)).below hb
  have bel := belowTo ((((Below.refl w.heap.size w).alloc (by simp) _).alloc (by simp) _).alloc (by simp; omega) _) hb (by simp; omega)
  clear hb 
  obtain ⟨cS0, cS1, cS2, cS3, cS4, cS5, cS6, fS, zS⟩ := own7 oS
  obtain ⟨cC0, cC1, fC, zC⟩ := own2 oC
  obtain ⟨cH0, cH1, cH2, cH3, cH4, fH, zH⟩ := own5t oH
  go_wp2_with fail
  replace oS := ((oS.other (by first | (simp; done) | (simp; omega) | omega) (a := ⟨w.heap.size + 2, 4, none⟩) (.int .i64 0)).other (by first | (simp; done) | (simp; omega) | omega) (a := ⟨w.heap.size + 2, 3, none⟩) (.int .i64 ((t + later) / 10000)))
  replace oC := ((oC.other (by first | (simp; done) | (simp; omega) | omega) (a := ⟨w.heap.size + 2, 4, none⟩) (.int .i64 0)).other (by first | (simp; done) | (simp; omega) | omega) (a := ⟨w.heap.size + 2, 3, none⟩) (.int .i64 ((t + later) / 10000)))
  replace bel := ((bel.setCell (p := ⟨w.heap.size + 2, 4, none⟩) (by first | (simp; done) | (simp; omega) | omega) (.int .i64 0)).setCell (p := ⟨w.heap.size + 2, 3, none⟩) (by first | (simp; done) | (simp; omega) | omega) (.int .i64 ((t + later) / 10000)))
  replace oH : Own _ (w.heap.size + 2) [.int .i64 f, .int .i64 p, .int .i64 b, .int .i64 ((t + later) / 10000), .int .i64 0] 27 := ((oH.set 4 (.int .i64 0)).set 3 (.int .i64 ((t + later) / 10000)))
  clear cS0 cS1 cS2 cS3 cS4 cS5 cS6 fS zS cC0 cC1 fC zC cH0 cH1 cH2 cH3 cH4 fH zH
  generalize ((w1.setCell ⟨w.heap.size + 2, 4, none⟩ (.int .i64 0)).setCell ⟨w.heap.size + 2, 3, none⟩ (.int .i64 ((t + later) / 10000))) = w2 at oS oC oH bel ⊢
  obtain ⟨cS0, cS1, cS2, cS3, cS4, cS5, cS6, fS, zS⟩ := own7 oS
  obtain ⟨cC0, cC1, fC, zC⟩ := own2 oC
  obtain ⟨cH0, cH1, cH2, cH3, cH4, fH, zH⟩ := own5t oH
  skip
  refine (show_lit o d (((t + later) / 10000) * 10000 + off) A 0 _ Hhs.out).mono ?_
  rintro e w3 ⟨rfl, hb⟩
  replace oS := oS.below hb
  replace oC := oC.below hb
  replace oH := oH.below hb
  replace bel := belowTo bel hb (by exact bel.size)
  clear hb cS0 cS1 cS2 cS3 cS4 cS5 cS6 fS zS cC0 cC1 fC zC cH0 cH1 cH2 cH3 cH4 fH zH
  obtain ⟨cS0, cS1, cS2, cS3, cS4, cS5, cS6, fS, zS⟩ := own7 oS
  obtain ⟨cC0, cC1, fC, zC⟩ := own2 oC
  obtain ⟨cH0, cH1, cH2, cH3, cH4, fH, zH⟩ := own5t oH
  go_wp2_with fail
  replace oS := (oS.other (by first | (simp; done) | (simp; omega) | omega) (a := ⟨w.heap.size + 2, 4, none⟩) (.int .i64 A))
  replace oC := (oC.other (by first | (simp; done) | (simp; omega) | omega) (a := ⟨w.heap.size + 2, 4, none⟩) (.int .i64 A))
  replace bel := (bel.setCell (p := ⟨w.heap.size + 2, 4, none⟩) (by first | (simp; done) | (simp; omega) | omega) (.int .i64 A))
  replace oH : Own _ (w.heap.size + 2) [.int .i64 f, .int .i64 p, .int .i64 b, .int .i64 ((t + later) / 10000), .int .i64 A] 27 := (oH.set 4 (.int .i64 A))
  clear cS0 cS1 cS2 cS3 cS4 cS5 cS6 fS zS cC0 cC1 fC zC cH0 cH1 cH2 cH3 cH4 fH zH
  generalize (w3.setCell ⟨w.heap.size + 2, 4, none⟩ (.int .i64 A)) = w4 at oS oC oH bel ⊢
  obtain ⟨cS0, cS1, cS2, cS3, cS4, cS5, cS6, fS, zS⟩ := own7 oS
  obtain ⟨cC0, cC1, fC, zC⟩ := own2 oC
  obtain ⟨cH0, cH1, cH2, cH3, cH4, fH, zH⟩ := own5t oH
  go_wp2_with fail
  refine (rtvalid_lit false l h a k src he true _ Hv.out).mono ?_
  rintro e w5 ⟨rfl, hb⟩
  replace oS := oS.below hb
  replace oC := oC.below hb
  replace oH := oH.below hb
  replace bel := belowTo bel hb (by exact bel.size)
  clear hb cS0 cS1 cS2 cS3 cS4 cS5 cS6 fS zS cC0 cC1 fC zC cH0 cH1 cH2 cH3 cH4 fH zH
  obtain ⟨cS0, cS1, cS2, cS3, cS4, cS5, cS6, fS, zS⟩ := own7 oS
  obtain ⟨cC0, cC1, fC, zC⟩ := own2 oC
  obtain ⟨cH0, cH1, cH2, cH3, cH4, fH, zH⟩ := own5t oH
  go_wp2_with fail
  refine (rthint_lit f p b ((t + later) / 10000) A true _ Hhi.out).mono ?_
  rintro e w6 ⟨rfl, hb⟩
  replace oS := oS.below hb
  replace oC := oC.below hb
  replace oH := oH.below hb
  replace bel := belowTo bel hb (by exact bel.size)
  clear hb cS0 cS1 cS2 cS3 cS4 cS5 cS6 fS zS cC0 cC1 fC zC cH0 cH1 cH2 cH3 cH4 fH zH
  obtain ⟨cS0, cS1, cS2, cS3, cS4, cS5, cS6, fS, zS⟩ := own7 oS
  obtain ⟨cC0, cC1, fC, zC⟩ := own2 oC
  obtain ⟨cH0, cH1, cH2, cH3, cH4, fH, zH⟩ := own5t oH
  go_wp2_with fail
  refine (rroot_lit false l h a k src he false _ Hr.out).mono ?_
  rintro e w7 ⟨rfl, hb⟩
  replace oS := oS.below hb
  replace oC := oC.below hb
  replace oH := oH.below hb
  replace bel := belowTo bel hb (by exact bel.size)
  clear hb cS0 cS1 cS2 cS3 cS4 cS5 cS6 fS zS cC0 cC1 fC zC cH0 cH1 cH2 cH3 cH4 fH zH
  obtain ⟨cS0, cS1, cS2, cS3, cS4, cS5, cS6, fS, zS⟩ := own7 oS
  obtain ⟨cC0, cC1, fC, zC⟩ := own2 oC
  obtain ⟨cH0, cH1, cH2, cH3, cH4, fH, zH⟩ := own5t oH
  go_wp2_with fail
  refine (hear_lit false l h a k src he f p b ((t + later) / 10000) A Y X1 X2 X3 X4 X5 X6 0 _ Hhq.out).mono ?_
  rintro e w9 ⟨rfl, hb⟩
  replace oS := oS.below hb
  replace oC := oC.below hb
  replace oH := oH.below hb
  replace bel := belowTo bel hb (by exact bel.size)
  clear hb cS0 cS1 cS2 cS3 cS4 cS5 cS6 fS zS cC0 cC1 fC zC cH0 cH1 cH2 cH3 cH4 fH zH
  obtain ⟨cS0, cS1, cS2, cS3, cS4, cS5, cS6, fS, zS⟩ := own7 oS
  obtain ⟨cC0, cC1, fC, zC⟩ := own2 oC
  obtain ⟨cH0, cH1, cH2, cH3, cH4, fH, zH⟩ := own5t oH
  go_wp2_with fail
  have oX : Own (w9.alloc (Obj.cells #[.bool Y, .int .i64 X1, .int .i64 X2, .int .i64 X3, .int .i64 X4, .int .i64 X5, .int .i64 X6] 25)) w9.heap.size [.bool Y, .int .i64 X1, .int .i64 X2, .int .i64 X3, .int .i64 X4, .int .i64 X5, .int .i64 X6] 25 := own_at _ _ rfl
  replace oS := oS.alloc (Obj.cells #[.bool Y, .int .i64 X1, .int .i64 X2, .int .i64 X3, .int .i64 X4, .int .i64 X5, .int .i64 X6] 25)
  replace oC := oC.alloc (Obj.cells #[.bool Y, .int .i64 X1, .int .i64 X2, .int .i64 X3, .int .i64 X4, .int .i64 X5, .int .i64 X6] 25)
  replace oH := oH.alloc (Obj.cells #[.bool Y, .int .i64 X1, .int .i64 X2, .int .i64 X3, .int .i64 X4, .int .i64 X5, .int .i64 X6] 25)
  replace bel := bel.alloc bel.size (Obj.cells #[.bool Y, .int .i64 X1, .int .i64 X2, .int .i64 X3, .int .i64 X4, .int .i64 X5, .int .i64 X6] 25)
  clear cS0 cS1 cS2 cS3 cS4 cS5 cS6 fS zS cC0 cC1 fC zC cH0 cH1 cH2 cH3 cH4 fH zH
  generalize w9.alloc (Obj.cells #[.bool Y, .int .i64 X1, .int .i64 X2, .int .i64 X3, .int .i64 X4, .int .i64 X5, .int .i64 X6] 25) = w10 at oS oC oH oX bel ⊢
  obtain ⟨cS0, cS1, cS2, cS3, cS4, cS5, cS6, fS, zS⟩ := own7 oS
  obtain ⟨cC0, cC1, fC, zC⟩ := own2 oC
  obtain ⟨cH0, cH1, cH2, cH3, cH4, fH, zH⟩ := own5t oH
  obtain ⟨cX0, cX1, cX2, cX3, cX4, cX5, cX6, fX, zX⟩ := own7 oX
  go_wp2_with fail
  refine (rtakes_lit false l h a k src he f p b ((t + later) / 10000) A true _ Hhk.out).mono ?_
  rintro e w11 ⟨rfl, hb⟩
  replace oS := oS.below hb
  replace oC := oC.below hb
  replace oH := oH.below hb
  replace oX := oX.below hb
  replace bel := belowTo bel hb (by exact bel.size)
  clear hb cS0 cS1 cS2 cS3 cS4 cS5 cS6 fS zS cC0 cC1 fC zC cH0 cH1 cH2 cH3 cH4 fH zH cX0 cX1 cX2 cX3 cX4 cX5 cX6 fX zX
  obtain ⟨cS0, cS1, cS2, cS3, cS4, cS5, cS6, fS, zS⟩ := own7 oS
  obtain ⟨cC0, cC1, fC, zC⟩ := own2 oC
  obtain ⟨cH0, cH1, cH2, cH3, cH4, fH, zH⟩ := own5t oH
  obtain ⟨cX0, cX1, cX2, cX3, cX4, cX5, cX6, fX, zX⟩ := own7 oX
  go_wp2_with fail
  refine (holds_lit Y X1 X2 X3 X4 X5 X6 o d (((t + later) / 10000) * 10000 + off) true _ Hho2.out).mono ?_
  rintro e w12 ⟨rfl, hb⟩
  replace oS := oS.below hb
  replace oC := oC.below hb
  replace oH := oH.below hb
  replace oX := oX.below hb
  replace bel := belowTo bel hb (by exact bel.size)
  clear hb cS0 cS1 cS2 cS3 cS4 cS5 cS6 fS zS cC0 cC1 fC zC cH0 cH1 cH2 cH3 cH4 fH zH cX0 cX1 cX2 cX3 cX4 cX5 cX6 fX zX
  obtain ⟨cS0, cS1, cS2, cS3, cS4, cS5, cS6, fS, zS⟩ := own7 oS
  obtain ⟨cC0, cC1, fC, zC⟩ := own2 oC
  obtain ⟨cH0, cH1, cH2, cH3, cH4, fH, zH⟩ := own5t oH
  obtain ⟨cX0, cX1, cX2, cX3, cX4, cX5, cX6, fX, zX⟩ := own7 oX
  go_wp2
  all_goals (go_ret; exact ⟨by first | rfl | simp_all, (by repeat (first | exact bel | refine Below.alloc ?_ (by have := bel.size; simp; omega) _))⟩)


end Go.Proofs.Ytfclodgfifbfbaa

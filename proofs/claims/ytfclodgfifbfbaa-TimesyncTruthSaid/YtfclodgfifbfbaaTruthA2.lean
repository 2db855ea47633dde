/- TimesyncTruth: the ways out ahead of hearing. -/
import Derived.Test.YtfclodgfifbfbaaHead09
import Derived.Test.YtfclodgfifbfbaaIs09
import Derived.Test.YtfclodgfifbfbaaHolds09
import Derived.Test.YtfclodgfifbfbaaPlain09b
namespace Go.Proofs.Ytfclodgfifbfbaa
open Go.RowKit

set_option linter.unusedVariables false in
set_option maxRecDepth 100000 in
set_option maxHeartbeats 4000000 in
theorem timesyncTruth_show_true (l h a k src he o d f p b s c t later off : Int) (w : World) (p1 : 0 ≤ later) (p2 : later ≤ 10000000000) (p3 : -b ≤ off) (p4 : off ≤ b) (p5 : 0 ≤ b) (p6 : b ≤ 2000) (p7 : 0 ≤ t) (p8 : t ≤ 10000000000000 - later - 20000) (p9 : 0 ≤ s) (p10 : s ≤ 1000000000) (hs : shN o d (((t + later) / 10000) * 10000 + off) = 0 ∧ shE o d (((t + later) / 10000) * 10000 + off) = 1)  :
    Calls Try.prog 9 #[.agg #[.bool true, .int .i64 l, .int .i64 h, .int .i64 a, .int .i64 k, .int .i64 src, .int .i64 he], .agg #[.int .i64 o, .int .i64 d], .agg #[.int .i64 f, .int .i64 p, .int .i64 b, .int .i64 s, .int .i64 c], .int .i64 t, .int .i64 later, .int .i64 off] w fun e w' => e = .returned (.bool true) ∧ Below w.heap.size w w' := by
  have Hhs := Lib.hid hs
  clear hs
  go_enter Try.func9, Try.ntmps9
  go_wp2_with fail
  refine (head_any _).mono ?_
  rintro e w1 ⟨rfl, hb⟩
  have oS : Own w1 w.heap.size [.bool true, .int .i64 l, .int .i64 h, .int .i64 a, .int .i64 k, .int .i64 src, .int .i64 he] 25 := (((own_at _ _ rfl).alloc _).alloc _).below hb
  have oC : Own w1 (w.heap.size + 1) [.int .i64 o, .int .i64 d] 47 := ((own_at _ _ (by simp)).alloc _).below hb
  have oH : Own w1 (w.heap.size + 2) [.int .i64 f, .int .i64 p, .int .i64 b, .int .i64 s, .int .i64 c] 27 := (own_at _ _ (by simp)).below hb
  have bel := belowTo ((((Below.refl w.heap.size w).alloc (by simp) _).alloc (by simp) _).alloc (by simp; omega) _) hb (by simp; omega)
  clear hb 
  obtain ⟨cS0, cS1, cS2, cS3, cS4, cS5, cS6, fS, zS⟩ := own7 oS
  obtain ⟨cC0, cC1, fC, zC⟩ := own2 oC
  obtain ⟨cH0, cH1, cH2, cH3, cH4, fH, zH⟩ := own5t oH
  go_wp2_with fail
  replace oS := ((oS.other (by first | (simp; done) | (simp; omega) | omega) (a := ⟨w.heap.size + 2, 4, none⟩) (.int .i64 0)).other (by first | (simp; done) | (simp; omega) | omega) (a := ⟨w.heap.size + 2, 3, none⟩) (.int .i64 ((t + later) / 10000)))
  replace oC := ((oC.other (by first | (simp; done) | (simp; omega) | omega) (a := ⟨w.heap.size + 2, 4, none⟩) (.int .i64 0)).other (by first | (simp; done) | (simp; omega) | omega) (a := ⟨w.heap.size + 2, 3, none⟩) (.int .i64 ((t + later) / 10000)))
  replace bel := ((bel.setCell (p := ⟨w.heap.size + 2, 4, none⟩) (by first | (simp; done) | (simp; omega) | omega) (.int .i64 0)).setCell (p := ⟨w.heap.size + 2, 3, none⟩) (by first | (simp; done) | (simp; omega) | omega) (.int .i64 ((t + later) / 10000)))
  replace oH : Own _ (w.heap.size + 2) [.int .i64 f, .int .i64 p, .int .i64 b, .int .i64 ((t + later) / 10000), .int .i64 0] 27 := ((oH.set 4 (.int .i64 0)).set 3 (.int .i64 ((t + later) / 10000)))
  clear cS0 cS1 cS2 cS3 cS4 cS5 cS6 fS zS cC0 cC1 fC zC cH0 cH1 cH2 cH3 cH4 fH zH
  generalize ((w1.setCell ⟨w.heap.size + 2, 4, none⟩ (.int .i64 0)).setCell ⟨w.heap.size + 2, 3, none⟩ (.int .i64 ((t + later) / 10000))) = w2 at oS oC oH bel ⊢
  obtain ⟨cS0, cS1, cS2, cS3, cS4, cS5, cS6, fS, zS⟩ := own7 oS
  obtain ⟨cC0, cC1, fC, zC⟩ := own2 oC
  obtain ⟨cH0, cH1, cH2, cH3, cH4, fH, zH⟩ := own5t oH
  skip
  refine (show_lit o d (((t + later) / 10000) * 10000 + off) 0 1 _ Hhs.out).mono ?_
  rintro e w3 ⟨rfl, hb⟩
  replace oS := oS.below hb
  replace oC := oC.below hb
  replace oH := oH.below hb
  replace bel := belowTo bel hb (by exact bel.size)
  clear hb cS0 cS1 cS2 cS3 cS4 cS5 cS6 fS zS cC0 cC1 fC zC cH0 cH1 cH2 cH3 cH4 fH zH
  obtain ⟨cS0, cS1, cS2, cS3, cS4, cS5, cS6, fS, zS⟩ := own7 oS
  obtain ⟨cC0, cC1, fC, zC⟩ := own2 oC
  obtain ⟨cH0, cH1, cH2, cH3, cH4, fH, zH⟩ := own5t oH
  go_wp2_with fail
  replace oS := (oS.other (by first | (simp; done) | (simp; omega) | omega) (a := ⟨w.heap.size + 2, 4, none⟩) (.int .i64 0))
  replace oC := (oC.other (by first | (simp; done) | (simp; omega) | omega) (a := ⟨w.heap.size + 2, 4, none⟩) (.int .i64 0))
  replace bel := (bel.setCell (p := ⟨w.heap.size + 2, 4, none⟩) (by first | (simp; done) | (simp; omega) | omega) (.int .i64 0))
  replace oH : Own _ (w.heap.size + 2) [.int .i64 f, .int .i64 p, .int .i64 b, .int .i64 ((t + later) / 10000), .int .i64 0] 27 := (oH.set 4 (.int .i64 0))
  clear cS0 cS1 cS2 cS3 cS4 cS5 cS6 fS zS cC0 cC1 fC zC cH0 cH1 cH2 cH3 cH4 fH zH
  generalize (w3.setCell ⟨w.heap.size + 2, 4, none⟩ (.int .i64 0)) = w4 at oS oC oH bel ⊢
  obtain ⟨cS0, cS1, cS2, cS3, cS4, cS5, cS6, fS, zS⟩ := own7 oS
  obtain ⟨cC0, cC1, fC, zC⟩ := own2 oC
  obtain ⟨cH0, cH1, cH2, cH3, cH4, fH, zH⟩ := own5t oH
  go_wp2
  all_goals (go_ret; exact ⟨by first | rfl | simp_all, (by repeat (first | exact bel | refine Below.alloc ?_ (by have := bel.size; simp; omega) _))⟩)

set_option linter.unusedVariables false in
set_option maxRecDepth 100000 in
set_option maxHeartbeats 4000000 in
theorem timesyncTruth_early_true (l h a k src he o d f p b s c t later off A : Int) (w : World) (p1 : 0 ≤ later) (p2 : later ≤ 10000000000) (p3 : -b ≤ off) (p4 : off ≤ b) (p5 : 0 ≤ b) (p6 : b ≤ 2000) (p7 : 0 ≤ t) (p8 : t ≤ 10000000000000 - later - 20000) (p9 : 0 ≤ s) (p10 : s ≤ 1000000000) (hs : shN o d (((t + later) / 10000) * 10000 + off) = A ∧ shE o d (((t + later) / 10000) * 10000 + off) = 0) (q : ((t + later) / 10000) * 10000 + off < t) :
    Calls Try.prog 9 #[.agg #[.bool true, .int .i64 l, .int .i64 h, .int .i64 a, .int .i64 k, .int .i64 src, .int .i64 he], .agg #[.int .i64 o, .int .i64 d], .agg #[.int .i64 f, .int .i64 p, .int .i64 b, .int .i64 s, .int .i64 c], .int .i64 t, .int .i64 later, .int .i64 off] w fun e w' => e = .returned (.bool true) ∧ Below w.heap.size w w' := by
  have Hhs := Lib.hid hs
  clear hs
  go_enter Try.func9, Try.ntmps9
  go_wp2_with fail
  refine (head_any _).mono ?_
  rintro e w1 ⟨rfl, hb⟩
  have oS : Own w1 w.heap.size [.bool true, .int .i64 l, .int .i64 h, .int .i64 a, .int .i64 k, .int .i64 src, .int .i64 he] 25 := (((own_at _ _ rfl).alloc _).alloc _).below hb
  have oC : Own w1 (w.heap.size + 1) [.int .i64 o, .int .i64 d] 47 := ((own_at _ _ (by simp)).alloc _).below hb
  have oH : Own w1 (w.heap.size + 2) [.int .i64 f, .int .i64 p, .int .i64 b, .int .i64 s, .int .i64 c] 27 := (own_at _ _ (by simp)).below hb
  have bel := belowTo ((((Below.refl w.heap.size w).alloc (by simp) _).alloc (by simp) _).alloc (by simp; omega) _) hb (by simp; omega)
  clear hb 
  obtain ⟨cS0, cS1, cS2, cS3, cS4, cS5, cS6, fS, zS⟩ := own7 oS
  obtain ⟨cC0, cC1, fC, zC⟩ := own2 oC
  obtain ⟨cH0, cH1, cH2, cH3, cH4, fH, zH⟩ := own5t oH
  go_wp2_with fail
  replace oS := ((oS.other (by first | (simp; done) | (simp; omega) | omega) (a := ⟨w.heap.size + 2, 4, none⟩) (.int .i64 0)).other (by first | (simp; done) | (simp; omega) | omega) (a := ⟨w.heap.size + 2, 3, none⟩) (.int .i64 ((t + later) / 10000)))
  replace oC := ((oC.other (by first | (simp; done) | (simp; omega) | omega) (a := ⟨w.heap.size + 2, 4, none⟩) (.int .i64 0)).other (by first | (simp; done) | (simp; omega) | omega) (a := ⟨w.heap.size + 2, 3, none⟩) (.int .i64 ((t + later) / 10000)))
  replace bel := ((bel.setCell (p := ⟨w.heap.size + 2, 4, none⟩) (by first | (simp; done) | (simp; omega) | omega) (.int .i64 0)).setCell (p := ⟨w.heap.size + 2, 3, none⟩) (by first | (simp; done) | (simp; omega) | omega) (.int .i64 ((t + later) / 10000)))
  replace oH : Own _ (w.heap.size + 2) [.int .i64 f, .int .i64 p, .int .i64 b, .int .i64 ((t + later) / 10000), .int .i64 0] 27 := ((oH.set 4 (.int .i64 0)).set 3 (.int .i64 ((t + later) / 10000)))
  clear cS0 cS1 cS2 cS3 cS4 cS5 cS6 fS zS cC0 cC1 fC zC cH0 cH1 cH2 cH3 cH4 fH zH
  generalize ((w1.setCell ⟨w.heap.size + 2, 4, none⟩ (.int .i64 0)).setCell ⟨w.heap.size + 2, 3, none⟩ (.int .i64 ((t + later) / 10000))) = w2 at oS oC oH bel ⊢
  obtain ⟨cS0, cS1, cS2, cS3, cS4, cS5, cS6, fS, zS⟩ := own7 oS
  obtain ⟨cC0, cC1, fC, zC⟩ := own2 oC
  obtain ⟨cH0, cH1, cH2, cH3, cH4, fH, zH⟩ := own5t oH
  skip
  refine (show_lit o d (((t + later) / 10000) * 10000 + off) A 0 _ Hhs.out).mono ?_
  rintro e w3 ⟨rfl, hb⟩
  replace oS := oS.below hb
  replace oC := oC.below hb
  replace oH := oH.below hb
  replace bel := belowTo bel hb (by exact bel.size)
  clear hb cS0 cS1 cS2 cS3 cS4 cS5 cS6 fS zS cC0 cC1 fC zC cH0 cH1 cH2 cH3 cH4 fH zH
  obtain ⟨cS0, cS1, cS2, cS3, cS4, cS5, cS6, fS, zS⟩ := own7 oS
  obtain ⟨cC0, cC1, fC, zC⟩ := own2 oC
  obtain ⟨cH0, cH1, cH2, cH3, cH4, fH, zH⟩ := own5t oH
  go_wp2_with fail
  replace oS := (oS.other (by first | (simp; done) | (simp; omega) | omega) (a := ⟨w.heap.size + 2, 4, none⟩) (.int .i64 A))
  replace oC := (oC.other (by first | (simp; done) | (simp; omega) | omega) (a := ⟨w.heap.size + 2, 4, none⟩) (.int .i64 A))
  replace bel := (bel.setCell (p := ⟨w.heap.size + 2, 4, none⟩) (by first | (simp; done) | (simp; omega) | omega) (.int .i64 A))
  replace oH : Own _ (w.heap.size + 2) [.int .i64 f, .int .i64 p, .int .i64 b, .int .i64 ((t + later) / 10000), .int .i64 A] 27 := (oH.set 4 (.int .i64 A))
  clear cS0 cS1 cS2 cS3 cS4 cS5 cS6 fS zS cC0 cC1 fC zC cH0 cH1 cH2 cH3 cH4 fH zH
  generalize (w3.setCell ⟨w.heap.size + 2, 4, none⟩ (.int .i64 A)) = w4 at oS oC oH bel ⊢
  obtain ⟨cS0, cS1, cS2, cS3, cS4, cS5, cS6, fS, zS⟩ := own7 oS
  obtain ⟨cC0, cC1, fC, zC⟩ := own2 oC
  obtain ⟨cH0, cH1, cH2, cH3, cH4, fH, zH⟩ := own5t oH
  go_wp2
  all_goals (go_ret; exact ⟨by first | rfl | simp_all, (by repeat (first | exact bel | refine Below.alloc ?_ (by have := bel.size; simp; omega) _))⟩)

set_option linter.unusedVariables false in
set_option maxRecDepth 100000 in
set_option maxHeartbeats 4000000 in
theorem timesyncTruth_show_false (l h a k src he o d f p b s c t later off : Int) (w : World) (p1 : 0 ≤ later) (p2 : later ≤ 10000000000) (p3 : -b ≤ off) (p4 : off ≤ b) (p5 : 0 ≤ b) (p6 : b ≤ 2000) (p7 : 0 ≤ t) (p8 : t ≤ 10000000000000 - later - 20000) (p9 : 0 ≤ s) (p10 : s ≤ 1000000000) (hs : shN o d (((t + later) / 10000) * 10000 + off) = 0 ∧ shE o d (((t + later) / 10000) * 10000 + off) = 1)  :
    Calls Try.prog 9 #[.agg #[.bool false, .int .i64 l, .int .i64 h, .int .i64 a, .int .i64 k, .int .i64 src, .int .i64 he], .agg #[.int .i64 o, .int .i64 d], .agg #[.int .i64 f, .int .i64 p, .int .i64 b, .int .i64 s, .int .i64 c], .int .i64 t, .int .i64 later, .int .i64 off] w fun e w' => e = .returned (.bool true) ∧ Below w.heap.size w w' := by
  have Hhs := Lib.hid hs
  clear hs
  go_enter Try.func9, Try.ntmps9
  go_wp2_with fail
  refine (head_any _).mono ?_
  rintro e w1 ⟨rfl, hb⟩
  have oS : Own w1 w.heap.size [.bool false, .int .i64 l, .int .i64 h, .int .i64 a, .int .i64 k, .int .i64 src, .int .i64 he] 25 := (((own_at _ _ rfl).alloc _).alloc _).below hb
  have oC : Own w1 (w.heap.size + 1) [.int .i64 o, .int .i64 d] 47 := ((own_at _ _ (by simp)).alloc _).below hb
  have oH : Own w1 (w.heap.size + 2) [.int .i64 f, .int .i64 p, .int .i64 b, .int .i64 s, .int .i64 c] 27 := (own_at _ _ (by simp)).below hb
  have bel := belowTo ((((Below.refl w.heap.size w).alloc (by simp) _).alloc (by simp) _).alloc (by simp; omega) _) hb (by simp; omega)
  clear hb 
  obtain ⟨cS0, cS1, cS2, cS3, cS4, cS5, cS6, fS, zS⟩ := own7 oS
  obtain ⟨cC0, cC1, fC, zC⟩ := own2 oC
  obtain ⟨cH0, cH1, cH2, cH3, cH4, fH, zH⟩ := own5t oH
  go_wp2_with fail
  replace oS := ((oS.other (by first | (simp; done) | (simp; omega) | omega) (a := ⟨w.heap.size + 2, 4, none⟩) (.int .i64 0)).other (by first | (simp; done) | (simp; omega) | omega) (a := ⟨w.heap.size + 2, 3, none⟩) (.int .i64 ((t + later) / 10000)))
  replace oC := ((oC.other (by first | (simp; done) | (simp; omega) | omega) (a := ⟨w.heap.size + 2, 4, none⟩) (.int .i64 0)).other (by first | (simp; done) | (simp; omega) | omega) (a := ⟨w.heap.size + 2, 3, none⟩) (.int .i64 ((t + later) / 10000)))
  replace bel := ((bel.setCell (p := ⟨w.heap.size + 2, 4, none⟩) (by first | (simp; done) | (simp; omega) | omega) (.int .i64 0)).setCell (p := ⟨w.heap.size + 2, 3, none⟩) (by first | (simp; done) | (simp; omega) | omega) (.int .i64 ((t + later) / 10000)))
  replace oH : Own _ (w.heap.size + 2) [.int .i64 f, .int .i64 p, .int .i64 b, .int .i64 ((t + later) / 10000), .int .i64 0] 27 := ((oH.set 4 (.int .i64 0)).set 3 (.int .i64 ((t + later) / 10000)))
  clear cS0 cS1 cS2 cS3 cS4 cS5 cS6 fS zS cC0 cC1 fC zC cH0 cH1 cH2 cH3 cH4 fH zH
  generalize ((w1.setCell ⟨w.heap.size + 2, 4, none⟩ (.int .i64 0)).setCell ⟨w.heap.size + 2, 3, none⟩ (.int .i64 ((t + later) / 10000))) = w2 at oS oC oH bel ⊢
  obtain ⟨cS0, cS1, cS2, cS3, cS4, cS5, cS6, fS, zS⟩ := own7 oS
  obtain ⟨cC0, cC1, fC, zC⟩ := own2 oC
  obtain ⟨cH0, cH1, cH2, cH3, cH4, fH, zH⟩ := own5t oH
  skip
  refine (show_lit o d (((t + later) / 10000) * 10000 + off) 0 1 _ Hhs.out).mono ?_
  rintro e w3 ⟨rfl, hb⟩
  replace oS := oS.below hb
  replace oC := oC.below hb
  replace oH := oH.below hb
  replace bel := belowTo bel hb (by exact bel.size)
  clear hb cS0 cS1 cS2 cS3 cS4 cS5 cS6 fS zS cC0 cC1 fC zC cH0 cH1 cH2 cH3 cH4 fH zH
  obtain ⟨cS0, cS1, cS2, cS3, cS4, cS5, cS6, fS, zS⟩ := own7 oS
  obtain ⟨cC0, cC1, fC, zC⟩ := own2 oC
  obtain ⟨cH0, cH1, cH2, cH3, cH4, fH, zH⟩ := own5t oH
  go_wp2_with fail
  replace oS := (oS.other (by first | (simp; done) | (simp; omega) | omega) (a := ⟨w.heap.size + 2, 4, none⟩) (.int .i64 0))
  replace oC := (oC.other (by first | (simp; done) | (simp; omega) | omega) (a := ⟨w.heap.size + 2, 4, none⟩) (.int .i64 0))
  replace bel := (bel.setCell (p := ⟨w.heap.size + 2, 4, none⟩) (by first | (simp; done) | (simp; omega) | omega) (.int .i64 0))
  replace oH : Own _ (w.heap.size + 2) [.int .i64 f, .int .i64 p, .int .i64 b, .int .i64 ((t + later) / 10000), .int .i64 0] 27 := (oH.set 4 (.int .i64 0))
  clear cS0 cS1 cS2 cS3 cS4 cS5 cS6 fS zS cC0 cC1 fC zC cH0 cH1 cH2 cH3 cH4 fH zH
  generalize (w3.setCell ⟨w.heap.size + 2, 4, none⟩ (.int .i64 0)) = w4 at oS oC oH bel ⊢
  obtain ⟨cS0, cS1, cS2, cS3, cS4, cS5, cS6, fS, zS⟩ := own7 oS
  obtain ⟨cC0, cC1, fC, zC⟩ := own2 oC
  obtain ⟨cH0, cH1, cH2, cH3, cH4, fH, zH⟩ := own5t oH
  go_wp2
  all_goals (go_ret; exact ⟨by first | rfl | simp_all, (by repeat (first | exact bel | refine Below.alloc ?_ (by have := bel.size; simp; omega) _))⟩)

set_option linter.unusedVariables false in
set_option maxRecDepth 100000 in
set_option maxHeartbeats 4000000 in
theorem timesyncTruth_early_false (l h a k src he o d f p b s c t later off A : Int) (w : World) (p1 : 0 ≤ later) (p2 : later ≤ 10000000000) (p3 : -b ≤ off) (p4 : off ≤ b) (p5 : 0 ≤ b) (p6 : b ≤ 2000) (p7 : 0 ≤ t) (p8 : t ≤ 10000000000000 - later - 20000) (p9 : 0 ≤ s) (p10 : s ≤ 1000000000) (hs : shN o d (((t + later) / 10000) * 10000 + off) = A ∧ shE o d (((t + later) / 10000) * 10000 + off) = 0) (q : ((t + later) / 10000) * 10000 + off < t) :
    Calls Try.prog 9 #[.agg #[.bool false, .int .i64 l, .int .i64 h, .int .i64 a, .int .i64 k, .int .i64 src, .int .i64 he], .agg #[.int .i64 o, .int .i64 d], .agg #[.int .i64 f, .int .i64 p, .int .i64 b, .int .i64 s, .int .i64 c], .int .i64 t, .int .i64 later, .int .i64 off] w fun e w' => e = .returned (.bool true) ∧ Below w.heap.size w w' := by
  have Hhs := Lib.hid hs
  clear hs
  go_enter Try.func9, Try.ntmps9
  go_wp2_with fail
  refine (head_any _).mono ?_
  rintro e w1 ⟨rfl, hb⟩
  have oS : Own w1 w.heap.size [.bool false, .int .i64 l, .int .i64 h, .int .i64 a, .int .i64 k, .int .i64 src, .int .i64 he] 25 := (((own_at _ _ rfl).alloc _).alloc _).below hb
  have oC : Own w1 (w.heap.size + 1) [.int .i64 o, .int .i64 d] 47 := ((own_at _ _ (by simp)).alloc _).below hb
  have oH : Own w1 (w.heap.size + 2) [.int .i64 f, .int .i64 p, .int .i64 b, .int .i64 s, .int .i64 c] 27 := (own_at _ _ (by simp)).below hb
  have bel := belowTo ((((Below.refl w.heap.size w).alloc (by simp) _).alloc (by simp) _).alloc (by simp; omega) _) hb (by simp; omega)
  clear hb 
  obtain ⟨cS0, cS1, cS2, cS3, cS4, cS5, cS6, fS, zS⟩ := own7 oS
  obtain ⟨cC0, cC1, fC, zC⟩ := own2 oC
  obtain ⟨cH0, cH1, cH2, cH3, cH4, fH, zH⟩ := own5t oH
  go_wp2_with fail
  replace oS := ((oS.other (by first | (simp; done) | (simp; omega) | omega) (a := ⟨w.heap.size + 2, 4, none⟩) (.int .i64 0)).other (by first | (simp; done) | (simp; omega) | omega) (a := ⟨w.heap.size + 2, 3, none⟩) (.int .i64 ((t + later) / 10000)))
  replace oC := ((oC.other (by first | (simp; done) | (simp; omega) | omega) (a := ⟨w.heap.size + 2, 4, none⟩) (.int .i64 0)).other (by first | (simp; done) | (simp; omega) | omega) (a := ⟨w.heap.size + 2, 3, none⟩) (.int .i64 ((t + later) / 10000)))
  replace bel := ((bel.setCell (p := ⟨w.heap.size + 2, 4, none⟩) (by first | (simp; done) | (simp; omega) | omega) (.int .i64 0)).setCell (p := ⟨w.heap.size + 2, 3, none⟩) (by first | (simp; done) | (simp; omega) | omega) (.int .i64 ((t + later) / 10000)))
  replace oH : Own _ (w.heap.size + 2) [.int .i64 f, .int .i64 p, .int .i64 b, .int .i64 ((t + later) / 10000), .int .i64 0] 27 := ((oH.set 4 (.int .i64 0)).set 3 (.int .i64 ((t + later) / 10000)))
  clear cS0 cS1 cS2 cS3 cS4 cS5 cS6 fS zS cC0 cC1 fC zC cH0 cH1 cH2 cH3 cH4 fH zH
  generalize ((w1.setCell ⟨w.heap.size + 2, 4, none⟩ (.int .i64 0)).setCell ⟨w.heap.size + 2, 3, none⟩ (.int .i64 ((t + later) / 10000))) = w2 at oS oC oH bel ⊢
  obtain ⟨cS0, cS1, cS2, cS3, cS4, cS5, cS6, fS, zS⟩ := own7 oS
  obtain ⟨cC0, cC1, fC, zC⟩ := own2 oC
  obtain ⟨cH0, cH1, cH2, cH3, cH4, fH, zH⟩ := own5t oH
  skip
  refine (show_lit o d (((t + later) / 10000) * 10000 + off) A 0 _ Hhs.out).mono ?_
  rintro e w3 ⟨rfl, hb⟩
  replace oS := oS.below hb
  replace oC := oC.below hb
  replace oH := oH.below hb
  replace bel := belowTo bel hb (by exact bel.size)
  clear hb cS0 cS1 cS2 cS3 cS4 cS5 cS6 fS zS cC0 cC1 fC zC cH0 cH1 cH2 cH3 cH4 fH zH
  obtain ⟨cS0, cS1, cS2, cS3, cS4, cS5, cS6, fS, zS⟩ := own7 oS
  obtain ⟨cC0, cC1, fC, zC⟩ := own2 oC
  obtain ⟨cH0, cH1, cH2, cH3, cH4, fH, zH⟩ := own5t oH
  go_wp2_with fail
  replace oS := (oS.other (by first | (simp; done) | (simp; omega) | omega) (a := ⟨w.heap.size + 2, 4, none⟩) (.int .i64 A))
  replace oC := (oC.other (by first | (simp; done) | (simp; omega) | omega) (a := ⟨w.heap.size + 2, 4, none⟩) (.int .i64 A))
  replace bel := (bel.setCell (p := ⟨w.heap.size + 2, 4, none⟩) (by first | (simp; done) | (simp; omega) | omega) (.int .i64 A))
  replace oH : Own _ (w.heap.size + 2) [.int .i64 f, .int .i64 p, .int .i64 b, .int .i64 ((t + later) / 10000), .int .i64 A] 27 := (oH.set 4 (.int .i64 A))
  clear cS0 cS1 cS2 cS3 cS4 cS5 cS6 fS zS cC0 cC1 fC zC cH0 cH1 cH2 cH3 cH4 fH zH
  generalize (w3.setCell ⟨w.heap.size + 2, 4, none⟩ (.int .i64 A)) = w4 at oS oC oH bel ⊢
  obtain ⟨cS0, cS1, cS2, cS3, cS4, cS5, cS6, fS, zS⟩ := own7 oS
  obtain ⟨cC0, cC1, fC, zC⟩ := own2 oC
  obtain ⟨cH0, cH1, cH2, cH3, cH4, fH, zH⟩ := own5t oH
  go_wp2
  all_goals (go_ret; exact ⟨by first | rfl | simp_all, (by repeat (first | exact bel | refine Below.alloc ?_ (by have := bel.size; simp; omega) _))⟩)

set_option linter.unusedVariables false in
set_option maxRecDepth 100000 in
set_option maxHeartbeats 4000000 in
theorem timesyncTruth_bad_true (l h a k src he o d f p b s c t later off A : Int) (w : World) (p1 : 0 ≤ later) (p2 : later ≤ 10000000000) (p3 : -b ≤ off) (p4 : off ≤ b) (p5 : 0 ≤ b) (p6 : b ≤ 2000) (p7 : 0 ≤ t) (p8 : t ≤ 10000000000000 - later - 20000) (p9 : 0 ≤ s) (p10 : s ≤ 1000000000) (hs : shN o d (((t + later) / 10000) * 10000 + off) = A ∧ shE o d (((t + later) / 10000) * 10000 + off) = 0) (q : t ≤ ((t + later) / 10000) * 10000 + off) (v : vldT true l h a k src he = false)  :
    Calls Try.prog 9 #[.agg #[.bool true, .int .i64 l, .int .i64 h, .int .i64 a, .int .i64 k, .int .i64 src, .int .i64 he], .agg #[.int .i64 o, .int .i64 d], .agg #[.int .i64 f, .int .i64 p, .int .i64 b, .int .i64 s, .int .i64 c], .int .i64 t, .int .i64 later, .int .i64 off] w fun e w' => e = .returned (.bool true) ∧ Below w.heap.size w w' := by
  have Hhs := Lib.hid hs
  clear hs
  have Hv := Lib.hid v
  clear v
  go_enter Try.func9, Try.ntmps9
  go_wp2_with fail
  refine (head_any _).mono ?_
  rintro e w1 ⟨rfl, hb⟩
  have oS : Own w1 w.heap.size [.bool true, .int .i64 l, .int .i64 h, .int .i64 a, .int .i64 k, .int .i64 src, .int .i64 he] 25 := (((own_at _ _ rfl).alloc _).alloc _).below hb
  have oC : Own w1 (w.heap.size + 1) [.int .i64 o, .int .i64 d] 47 := ((own_at _ _ (by simp)).alloc _).below hb
  have oH : Own w1 (w.heap.size + 2) [.int .i64 f, .int .i64 p, .int .i64 b, .int .i64 s, .int .i64 c] 27 := (own_at _ _ (by simp)).below hb
  have bel := belowTo ((((Below.refl w.heap.size w).alloc (by simp) _).alloc (by simp) _).alloc (by simp; omega) _) hb (by simp; omega)
  clear hb 
  obtain ⟨cS0, cS1, cS2, cS3, cS4, cS5, cS6, fS, zS⟩ := own7 oS
  obtain ⟨cC0, cC1, fC, zC⟩ := own2 oC
  obtain ⟨cH0, cH1, cH2, cH3, cH4, fH, zH⟩ := own5t oH
  go_wp2_with fail
  replace oS := ((oS.other (by first | (simp; done) | (simp; omega) | omega) (a := ⟨w.heap.size + 2, 4, none⟩) (.int .i64 0)).other (by first | (simp; done) | (simp; omega) | omega) (a := ⟨w.heap.size + 2, 3, none⟩) (.int .i64 ((t + later) / 10000)))
  replace oC := ((oC.other (by first | (simp; done) | (simp; omega) | omega) (a := ⟨w.heap.size + 2, 4, none⟩) (.int .i64 0)).other (by first | (simp; done) | (simp; omega) | omega) (a := ⟨w.heap.size + 2, 3, none⟩) (.int .i64 ((t + later) / 10000)))
  replace bel := ((bel.setCell (p := ⟨w.heap.size + 2, 4, none⟩) (by first | (simp; done) | (simp; omega) | omega) (.int .i64 0)).setCell (p := ⟨w.heap.size + 2, 3, none⟩) (by first | (simp; done) | (simp; omega) | omega) (.int .i64 ((t + later) / 10000)))
  replace oH : Own _ (w.heap.size + 2) [.int .i64 f, .int .i64 p, .int .i64 b, .int .i64 ((t + later) / 10000), .int .i64 0] 27 := ((oH.set 4 (.int .i64 0)).set 3 (.int .i64 ((t + later) / 10000)))
  clear cS0 cS1 cS2 cS3 cS4 cS5 cS6 fS zS cC0 cC1 fC zC cH0 cH1 cH2 cH3 cH4 fH zH
  generalize ((w1.setCell ⟨w.heap.size + 2, 4, none⟩ (.int .i64 0)).setCell ⟨w.heap.size + 2, 3, none⟩ (.int .i64 ((t + later) / 10000))) = w2 at oS oC oH bel ⊢
  obtain ⟨cS0, cS1, cS2, cS3, cS4, cS5, cS6, fS, zS⟩ := own7 oS
  obtain ⟨cC0, cC1, fC, zC⟩ := own2 oC
  obtain ⟨cH0, cH1, cH2, cH3, cH4, fH, zH⟩ := own5t oH
  skip
  refine (show_lit o d (((t + later) / 10000) * 10000 + off) A 0 _ Hhs.out).mono ?_
  rintro e w3 ⟨rfl, hb⟩
  replace oS := oS.below hb
  replace oC := oC.below hb
  replace oH := oH.below hb
  replace bel := belowTo bel hb (by exact bel.size)
  clear hb cS0 cS1 cS2 cS3 cS4 cS5 cS6 fS zS cC0 cC1 fC zC cH0 cH1 cH2 cH3 cH4 fH zH
  obtain ⟨cS0, cS1, cS2, cS3, cS4, cS5, cS6, fS, zS⟩ := own7 oS
  obtain ⟨cC0, cC1, fC, zC⟩ := own2 oC
  obtain ⟨cH0, cH1, cH2, cH3, cH4, fH, zH⟩ := own5t oH
  go_wp2_with fail
  replace oS := (oS.other (by first | (simp; done) | (simp; omega) | omega) (a := ⟨w.heap.size + 2, 4, none⟩) (.int .i64 A))
  replace oC := (oC.other (by first | (simp; done) | (simp; omega) | omega) (a := ⟨w.heap.size + 2, 4, none⟩) (.int .i64 A))
  replace bel := (bel.setCell (p := ⟨w.heap.size + 2, 4, none⟩) (by first | (simp; done) | (simp; omega) | omega) (.int .i64 A))
  replace oH : Own _ (w.heap.size + 2) [.int .i64 f, .int .i64 p, .int .i64 b, .int .i64 ((t + later) / 10000), .int .i64 A] 27 := (oH.set 4 (.int .i64 A))
  clear cS0 cS1 cS2 cS3 cS4 cS5 cS6 fS zS cC0 cC1 fC zC cH0 cH1 cH2 cH3 cH4 fH zH
  generalize (w3.setCell ⟨w.heap.size + 2, 4, none⟩ (.int .i64 A)) = w4 at oS oC oH bel ⊢
  obtain ⟨cS0, cS1, cS2, cS3, cS4, cS5, cS6, fS, zS⟩ := own7 oS
  obtain ⟨cC0, cC1, fC, zC⟩ := own2 oC
  obtain ⟨cH0, cH1, cH2, cH3, cH4, fH, zH⟩ := own5t oH
  go_wp2_with fail
  refine (rtvalid_lit true l h a k src he false _ Hv.out).mono ?_
  rintro e w5 ⟨rfl, hb⟩
  replace oS := oS.below hb
  replace oC := oC.below hb
  replace oH := oH.below hb
  replace bel := belowTo bel hb (by exact bel.size)
  clear hb cS0 cS1 cS2 cS3 cS4 cS5 cS6 fS zS cC0 cC1 fC zC cH0 cH1 cH2 cH3 cH4 fH zH
  obtain ⟨cS0, cS1, cS2, cS3, cS4, cS5, cS6, fS, zS⟩ := own7 oS
  obtain ⟨cC0, cC1, fC, zC⟩ := own2 oC
  obtain ⟨cH0, cH1, cH2, cH3, cH4, fH, zH⟩ := own5t oH
  go_wp2
  all_goals (go_ret; exact ⟨by first | rfl | simp_all, (by repeat (first | exact bel | refine Below.alloc ?_ (by have := bel.size; simp; omega) _))⟩)

set_option linter.unusedVariables false in
set_option maxRecDepth 100000 in
set_option maxHeartbeats 4000000 in
theorem timesyncTruth_hint_true (l h a k src he o d f p b s c t later off A : Int) (w : World) (p1 : 0 ≤ later) (p2 : later ≤ 10000000000) (p3 : -b ≤ off) (p4 : off ≤ b) (p5 : 0 ≤ b) (p6 : b ≤ 2000) (p7 : 0 ≤ t) (p8 : t ≤ 10000000000000 - later - 20000) (p9 : 0 ≤ s) (p10 : s ≤ 1000000000) (hs : shN o d (((t + later) / 10000) * 10000 + off) = A ∧ shE o d (((t + later) / 10000) * 10000 + off) = 0) (q : t ≤ ((t + later) / 10000) * 10000 + off) (v : vldT true l h a k src he = true) (hi : (vldH ((t + later) / 10000) b A && decide (0 ≤ f ∧ f < 60 ∧ 0 ≤ p ∧ p < 60)) = false)  :
    Calls Try.prog 9 #[.agg #[.bool true, .int .i64 l, .int .i64 h, .int .i64 a, .int .i64 k, .int .i64 src, .int .i64 he], .agg #[.int .i64 o, .int .i64 d], .agg #[.int .i64 f, .int .i64 p, .int .i64 b, .int .i64 s, .int .i64 c], .int .i64 t, .int .i64 later, .int .i64 off] w fun e w' => e = .returned (.bool true) ∧ Below w.heap.size w w' := by
  have Hhs := Lib.hid hs
  clear hs
  have Hv := Lib.hid v
  clear v
  have Hhi := Lib.hid hi
  clear hi
  go_enter Try.func9, Try.ntmps9
  go_wp2_with fail
  refine (head_any _).mono ?_
  rintro e w1 ⟨rfl, hb⟩
  have oS : Own w1 w.heap.size [.bool true, .int .i64 l, .int .i64 h, .int .i64 a, .int .i64 k, .int .i64 src, .int .i64 he] 25 := (((own_at _ _ rfl).alloc _).alloc _).below hb
  have oC : Own w1 (w.heap.size + 1) [.int .i64 o, .int .i64 d] 47 := ((own_at _ _ (by simp)).alloc _).below hb
  have oH : Own w1 (w.heap.size + 2) [.int .i64 f, .int .i64 p, .int .i64 b, .int .i64 s, .int .i64 c] 27 := (own_at _ _ (by simp)).below hb
  have bel := belowTo ((((Below.refl w.heap.size w).alloc (by simp) _).alloc (by simp) _).alloc (by simp; omega) _) hb (by simp; omega)
  clear hb 
  obtain ⟨cS0, cS1, cS2, cS3, cS4, cS5, cS6, fS, zS⟩ := own7 oS
  obtain ⟨cC0, cC1, fC, zC⟩ := own2 oC
  obtain ⟨cH0, cH1, cH2, cH3, cH4, fH, zH⟩ := own5t oH
  go_wp2_with fail
  replace oS := ((oS.other (by first | (simp; done) | (simp; omega) | omega) (a := ⟨w.heap.size + 2, 4, none⟩) (.int .i64 0)).other (by first | (simp; done) | (simp; omega) | omega) (a := ⟨w.heap.size + 2, 3, none⟩) (.int .i64 ((t + later) / 10000)))
  replace oC := ((oC.other (by first | (simp; done) | (simp; omega) | omega) (a := ⟨w.heap.size + 2, 4, none⟩) (.int .i64 0)).other (by first | (simp; done) | (simp; omega) | omega) (a := ⟨w.heap.size + 2, 3, none⟩) (.int .i64 ((t + later) / 10000)))
  replace bel := ((bel.setCell (p := ⟨w.heap.size + 2, 4, none⟩) (by first | (simp; done) | (simp; omega) | omega) (.int .i64 0)).setCell (p := ⟨w.heap.size + 2, 3, none⟩) (by first | (simp; done) | (simp; omega) | omega) (.int .i64 ((t + later) / 10000)))
  replace oH : Own _ (w.heap.size + 2) [.int .i64 f, .int .i64 p, .int .i64 b, .int .i64 ((t + later) / 10000), .int .i64 0] 27 := ((oH.set 4 (.int .i64 0)).set 3 (.int .i64 ((t + later) / 10000)))
  clear cS0 cS1 cS2 cS3 cS4 cS5 cS6 fS zS cC0 cC1 fC zC cH0 cH1 cH2 cH3 cH4 fH zH
  generalize ((w1.setCell ⟨w.heap.size + 2, 4, none⟩ (.int .i64 0)).setCell ⟨w.heap.size + 2, 3, none⟩ (.int .i64 ((t + later) / 10000))) = w2 at oS oC oH bel ⊢
  obtain ⟨cS0, cS1, cS2, cS3, cS4, cS5, cS6, fS, zS⟩ := own7 oS
  obtain ⟨cC0, cC1, fC, zC⟩ := own2 oC
  obtain ⟨cH0, cH1, cH2, cH3, cH4, fH, zH⟩ := own5t oH
  skip
  refine (show_lit o d (((t + later) / 10000) * 10000 + off) A 0 _ Hhs.out).mono ?_
  rintro e w3 ⟨rfl, hb⟩
  replace oS := oS.below hb
  replace oC := oC.below hb
  replace oH := oH.below hb
  replace bel := belowTo bel hb (by exact bel.size)
  clear hb cS0 cS1 cS2 cS3 cS4 cS5 cS6 fS zS cC0 cC1 fC zC cH0 cH1 cH2 cH3 cH4 fH zH
  obtain ⟨cS0, cS1, cS2, cS3, cS4, cS5, cS6, fS, zS⟩ := own7 oS
  obtain ⟨cC0, cC1, fC, zC⟩ := own2 oC
  obtain ⟨cH0, cH1, cH2, cH3, cH4, fH, zH⟩ := own5t oH
  go_wp2_with fail
  replace oS := (oS.other (by first | (simp; done) | (simp; omega) | omega) (a := ⟨w.heap.size + 2, 4, none⟩) (.int .i64 A))
  replace oC := (oC.other (by first | (simp; done) | (simp; omega) | omega) (a := ⟨w.heap.size + 2, 4, none⟩) (.int .i64 A))
  replace bel := (bel.setCell (p := ⟨w.heap.size + 2, 4, none⟩) (by first | (simp; done) | (simp; omega) | omega) (.int .i64 A))
  replace oH : Own _ (w.heap.size + 2) [.int .i64 f, .int .i64 p, .int .i64 b, .int .i64 ((t + later) / 10000), .int .i64 A] 27 := (oH.set 4 (.int .i64 A))
  clear cS0 cS1 cS2 cS3 cS4 cS5 cS6 fS zS cC0 cC1 fC zC cH0 cH1 cH2 cH3 cH4 fH zH
  generalize (w3.setCell ⟨w.heap.size + 2, 4, none⟩ (.int .i64 A)) = w4 at oS oC oH bel ⊢
  obtain ⟨cS0, cS1, cS2, cS3, cS4, cS5, cS6, fS, zS⟩ := own7 oS
  obtain ⟨cC0, cC1, fC, zC⟩ := own2 oC
  obtain ⟨cH0, cH1, cH2, cH3, cH4, fH, zH⟩ := own5t oH
  go_wp2_with fail
  refine (rtvalid_lit true l h a k src he true _ Hv.out).mono ?_
  rintro e w5 ⟨rfl, hb⟩
  replace oS := oS.below hb
  replace oC := oC.below hb
  replace oH := oH.below hb
  replace bel := belowTo bel hb (by exact bel.size)
  clear hb cS0 cS1 cS2 cS3 cS4 cS5 cS6 fS zS cC0 cC1 fC zC cH0 cH1 cH2 cH3 cH4 fH zH
  obtain ⟨cS0, cS1, cS2, cS3, cS4, cS5, cS6, fS, zS⟩ := own7 oS
  obtain ⟨cC0, cC1, fC, zC⟩ := own2 oC
  obtain ⟨cH0, cH1, cH2, cH3, cH4, fH, zH⟩ := own5t oH
  go_wp2_with fail
  refine (rthint_lit f p b ((t + later) / 10000) A false _ Hhi.out).mono ?_
  rintro e w6 ⟨rfl, hb⟩
  replace oS := oS.below hb
  replace oC := oC.below hb
  replace oH := oH.below hb
  replace bel := belowTo bel hb (by exact bel.size)
  clear hb cS0 cS1 cS2 cS3 cS4 cS5 cS6 fS zS cC0 cC1 fC zC cH0 cH1 cH2 cH3 cH4 fH zH
  obtain ⟨cS0, cS1, cS2, cS3, cS4, cS5, cS6, fS, zS⟩ := own7 oS
  obtain ⟨cC0, cC1, fC, zC⟩ := own2 oC
  obtain ⟨cH0, cH1, cH2, cH3, cH4, fH, zH⟩ := own5t oH
  go_wp2
  all_goals (go_ret; exact ⟨by first | rfl | simp_all, (by repeat (first | exact bel | refine Below.alloc ?_ (by have := bel.size; simp; omega) _))⟩)

set_option linter.unusedVariables false in
set_option maxRecDepth 100000 in
set_option maxHeartbeats 4000000 in
theorem timesyncTruth_bad_false (l h a k src he o d f p b s c t later off A : Int) (w : World) (p1 : 0 ≤ later) (p2 : later ≤ 10000000000) (p3 : -b ≤ off) (p4 : off ≤ b) (p5 : 0 ≤ b) (p6 : b ≤ 2000) (p7 : 0 ≤ t) (p8 : t ≤ 10000000000000 - later - 20000) (p9 : 0 ≤ s) (p10 : s ≤ 1000000000) (hs : shN o d (((t + later) / 10000) * 10000 + off) = A ∧ shE o d (((t + later) / 10000) * 10000 + off) = 0) (q : t ≤ ((t + later) / 10000) * 10000 + off) (v : vldT false l h a k src he = false)  :
    Calls Try.prog 9 #[.agg #[.bool false, .int .i64 l, .int .i64 h, .int .i64 a, .int .i64 k, .int .i64 src, .int .i64 he], .agg #[.int .i64 o, .int .i64 d], .agg #[.int .i64 f, .int .i64 p, .int .i64 b, .int .i64 s, .int .i64 c], .int .i64 t, .int .i64 later, .int .i64 off] w fun e w' => e = .returned (.bool true) ∧ Below w.heap.size w w' := by
  have Hhs := Lib.hid hs
  clear hs
  have Hv := Lib.hid v
  clear v
  go_enter Try.func9, Try.ntmps9
  go_wp2_with fail
  refine (head_any _).mono ?_
  rintro e w1 ⟨rfl, hb⟩
  have oS : Own w1 w.heap.size [.bool false, .int .i64 l, .int .i64 h, .int .i64 a, .int .i64 k, .int .i64 src, .int .i64 he] 25 := (((own_at _ _ rfl).alloc _).alloc _).below hb
  have oC : Own w1 (w.heap.size + 1) [.int .i64 o, .int .i64 d] 47 := ((own_at _ _ (by simp)).alloc _).below hb
  have oH : Own w1 (w.heap.size + 2) [.int .i64 f, .int .i64 p, .int .i64 b, .int .i64 s, .int .i64 c] 27 := (own_at _ _ (by simp)).below hb
  have bel := belowTo ((((Below.refl w.heap.size w).alloc (by simp) _).alloc (by simp) _).alloc (by simp; omega) _) hb (by simp; omega)
  clear hb 
  obtain ⟨cS0, cS1, cS2, cS3, cS4, cS5, cS6, fS, zS⟩ := own7 oS
  obtain ⟨cC0, cC1, fC, zC⟩ := own2 oC
  obtain ⟨cH0, cH1, cH2, cH3, cH4, fH, zH⟩ := own5t oH
  go_wp2_with fail
  replace oS := ((oS.other (by first | (simp; done) | (simp; omega) | omega) (a := ⟨w.heap.size + 2, 4, none⟩) (.int .i64 0)).other (by first | (simp; done) | (simp; omega) | omega) (a := ⟨w.heap.size + 2, 3, none⟩) (.int .i64 ((t + later) / 10000)))
  replace oC := ((oC.other (by first | (simp; done) | (simp; omega) | omega) (a := ⟨w.heap.size + 2, 4, none⟩) (.int .i64 0)).other (by first | (simp; done) | (simp; omega) | omega) (a := ⟨w.heap.size + 2, 3, none⟩) (.int .i64 ((t + later) / 10000)))
  replace bel := ((bel.setCell (p := ⟨w.heap.size + 2, 4, none⟩) (by first | (simp; done) | (simp; omega) | omega) (.int .i64 0)).setCell (p := ⟨w.heap.size + 2, 3, none⟩) (by first | (simp; done) | (simp; omega) | omega) (.int .i64 ((t + later) / 10000)))
  replace oH : Own _ (w.heap.size + 2) [.int .i64 f, .int .i64 p, .int .i64 b, .int .i64 ((t + later) / 10000), .int .i64 0] 27 := ((oH.set 4 (.int .i64 0)).set 3 (.int .i64 ((t + later) / 10000)))
  clear cS0 cS1 cS2 cS3 cS4 cS5 cS6 fS zS cC0 cC1 fC zC cH0 cH1 cH2 cH3 cH4 fH zH
  generalize ((w1.setCell ⟨w.heap.size + 2, 4, none⟩ (.int .i64 0)).setCell ⟨w.heap.size + 2, 3, none⟩ (.int .i64 ((t + later) / 10000))) = w2 at oS oC oH bel ⊢
  obtain ⟨cS0, cS1, cS2, cS3, cS4, cS5, cS6, fS, zS⟩ := own7 oS
  obtain ⟨cC0, cC1, fC, zC⟩ := own2 oC
  obtain ⟨cH0, cH1, cH2, cH3, cH4, fH, zH⟩ := own5t oH
  skip
  refine (show_lit o d (((t + later) / 10000) * 10000 + off) A 0 _ Hhs.out).mono ?_
  rintro e w3 ⟨rfl, hb⟩
  replace oS := oS.below hb
  replace oC := oC.below hb
  replace oH := oH.below hb
  replace bel := belowTo bel hb (by exact bel.size)
  clear hb cS0 cS1 cS2 cS3 cS4 cS5 cS6 fS zS cC0 cC1 fC zC cH0 cH1 cH2 cH3 cH4 fH zH
  obtain ⟨cS0, cS1, cS2, cS3, cS4, cS5, cS6, fS, zS⟩ := own7 oS
  obtain ⟨cC0, cC1, fC, zC⟩ := own2 oC
  obtain ⟨cH0, cH1, cH2, cH3, cH4, fH, zH⟩ := own5t oH
  go_wp2_with fail
  replace oS := (oS.other (by first | (simp; done) | (simp; omega) | omega) (a := ⟨w.heap.size + 2, 4, none⟩) (.int .i64 A))
  replace oC := (oC.other (by first | (simp; done) | (simp; omega) | omega) (a := ⟨w.heap.size + 2, 4, none⟩) (.int .i64 A))
  replace bel := (bel.setCell (p := ⟨w.heap.size + 2, 4, none⟩) (by first | (simp; done) | (simp; omega) | omega) (.int .i64 A))
  replace oH : Own _ (w.heap.size + 2) [.int .i64 f, .int .i64 p, .int .i64 b, .int .i64 ((t + later) / 10000), .int .i64 A] 27 := (oH.set 4 (.int .i64 A))
  clear cS0 cS1 cS2 cS3 cS4 cS5 cS6 fS zS cC0 cC1 fC zC cH0 cH1 cH2 cH3 cH4 fH zH
  generalize (w3.setCell ⟨w.heap.size + 2, 4, none⟩ (.int .i64 A)) = w4 at oS oC oH bel ⊢
  obtain ⟨cS0, cS1, cS2, cS3, cS4, cS5, cS6, fS, zS⟩ := own7 oS
  obtain ⟨cC0, cC1, fC, zC⟩ := own2 oC
  obtain ⟨cH0, cH1, cH2, cH3, cH4, fH, zH⟩ := own5t oH
  go_wp2_with fail
  refine (rtvalid_lit false l h a k src he false _ Hv.out).mono ?_
  rintro e w5 ⟨rfl, hb⟩
  replace oS := oS.below hb
  replace oC := oC.below hb
  replace oH := oH.below hb
  replace bel := belowTo bel hb (by exact bel.size)
  clear hb cS0 cS1 cS2 cS3 cS4 cS5 cS6 fS zS cC0 cC1 fC zC cH0 cH1 cH2 cH3 cH4 fH zH
  obtain ⟨cS0, cS1, cS2, cS3, cS4, cS5, cS6, fS, zS⟩ := own7 oS
  obtain ⟨cC0, cC1, fC, zC⟩ := own2 oC
  obtain ⟨cH0, cH1, cH2, cH3, cH4, fH, zH⟩ := own5t oH
  go_wp2
  all_goals (go_ret; exact ⟨by first | rfl | simp_all, (by repeat (first | exact bel | refine Below.alloc ?_ (by have := bel.size; simp; omega) _))⟩)

set_option linter.unusedVariables false in
set_option maxRecDepth 100000 in
set_option maxHeartbeats 4000000 in
theorem timesyncTruth_hint_false (l h a k src he o d f p b s c t later off A : Int) (w : World) (p1 : 0 ≤ later) (p2 : later ≤ 10000000000) (p3 : -b ≤ off) (p4 : off ≤ b) (p5 : 0 ≤ b) (p6 : b ≤ 2000) (p7 : 0 ≤ t) (p8 : t ≤ 10000000000000 - later - 20000) (p9 : 0 ≤ s) (p10 : s ≤ 1000000000) (hs : shN o d (((t + later) / 10000) * 10000 + off) = A ∧ shE o d (((t + later) / 10000) * 10000 + off) = 0) (q : t ≤ ((t + later) / 10000) * 10000 + off) (v : vldT false l h a k src he = true) (hi : (vldH ((t + later) / 10000) b A && decide (0 ≤ f ∧ f < 60 ∧ 0 ≤ p ∧ p < 60)) = false)  :
    Calls Try.prog 9 #[.agg #[.bool false, .int .i64 l, .int .i64 h, .int .i64 a, .int .i64 k, .int .i64 src, .int .i64 he], .agg #[.int .i64 o, .int .i64 d], .agg #[.int .i64 f, .int .i64 p, .int .i64 b, .int .i64 s, .int .i64 c], .int .i64 t, .int .i64 later, .int .i64 off] w fun e w' => e = .returned (.bool true) ∧ Below w.heap.size w w' := by
  have Hhs := Lib.hid hs
  clear hs
  have Hv := Lib.hid v
  clear v
  have Hhi := Lib.hid hi
  clear hi
  go_enter Try.func9, Try.ntmps9
  go_wp2_with fail
  refine (head_any _).mono ?_
  rintro e w1 ⟨rfl, hb⟩
  have oS : Own w1 w.heap.size [.bool false, .int .i64 l, .int .i64 h, .int .i64 a, .int .i64 k, .int .i64 src, .int .i64 he] 25 := (((own_at _ _ rfl).alloc _).alloc _).below hb
  have oC : Own w1 (w.heap.size + 1) [.int .i64 o, .int .i64 d] 47 := ((own_at _ _ (by simp)).alloc _).below hb
  have oH : Own w1 (w.heap.size + 2) [.int .i64 f, .int .i64 p, .int .i64 b, .int .i64 s, .int .i64 c] 27 := (own_at _ _ (by simp)).below hb
  have bel := belowTo ((((Below.refl w.heap.size w).alloc (by simp) _).alloc (by simp) _).alloc (by simp; omega) _) hb (by simp; omega)
  clear hb 
  obtain ⟨cS0, cS1, cS2, cS3, cS4, cS5, cS6, fS, zS⟩ := own7 oS
  obtain ⟨cC0, cC1, fC, zC⟩ := own2 oC
  obtain ⟨cH0, cH1, cH2, cH3, cH4, fH, zH⟩ := own5t oH
  go_wp2_with fail
  replace oS := ((oS.other (by first | (simp; done) | (simp; omega) | omega) (a := ⟨w.heap.size + 2, 4, none⟩) (.int .i64 0)).other (by first | (simp; done) | (simp; omega) | omega) (a := ⟨w.heap.size + 2, 3, none⟩) (.int .i64 ((t + later) / 10000)))
  replace oC := ((oC.other (by first | (simp; done) | (simp; omega) | omega) (a := ⟨w.heap.size + 2, 4, none⟩) (.int .i64 0)).other (by first | (simp; done) | (simp; omega) | omega) (a := ⟨w.heap.size + 2, 3, none⟩) (.int .i64 ((t + later) / 10000)))
  replace bel := ((bel.setCell (p := ⟨w.heap.size + 2, 4, none⟩) (by first | (simp; done) | (simp; omega) | omega) (.int .i64 0)).setCell (p := ⟨w.heap.size + 2, 3, none⟩) (by first | (simp; done) | (simp; omega) | omega) (.int .i64 ((t + later) / 10000)))
  replace oH : Own _ (w.heap.size + 2) [.int .i64 f, .int .i64 p, .int .i64 b, .int .i64 ((t + later) / 10000), .int .i64 0] 27 := ((oH.set 4 (.int .i64 0)).set 3 (.int .i64 ((t + later) / 10000)))
  clear cS0 cS1 cS2 cS3 cS4 cS5 cS6 fS zS cC0 cC1 fC zC cH0 cH1 cH2 cH3 cH4 fH zH
  generalize ((w1.setCell ⟨w.heap.size + 2, 4, none⟩ (.int .i64 0)).setCell ⟨w.heap.size + 2, 3, none⟩ (.int .i64 ((t + later) / 10000))) = w2 at oS oC oH bel ⊢
  obtain ⟨cS0, cS1, cS2, cS3, cS4, cS5, cS6, fS, zS⟩ := own7 oS
  obtain ⟨cC0, cC1, fC, zC⟩ := own2 oC
  obtain ⟨cH0, cH1, cH2, cH3, cH4, fH, zH⟩ := own5t oH
  skip
  refine (show_lit o d (((t + later) / 10000) * 10000 + off) A 0 _ Hhs.out).mono ?_
  rintro e w3 ⟨rfl, hb⟩
  replace oS := oS.below hb
  replace oC := oC.below hb
  replace oH := oH.below hb
  replace bel := belowTo bel hb (by exact bel.size)
  clear hb cS0 cS1 cS2 cS3 cS4 cS5 cS6 fS zS cC0 cC1 fC zC cH0 cH1 cH2 cH3 cH4 fH zH
  obtain ⟨cS0, cS1, cS2, cS3, cS4, cS5, cS6, fS, zS⟩ := own7 oS
  obtain ⟨cC0, cC1, fC, zC⟩ := own2 oC
  obtain ⟨cH0, cH1, cH2, cH3, cH4, fH, zH⟩ := own5t oH
  go_wp2_with fail
  replace oS := (oS.other (by first | (simp; done) | (simp; omega) | omega) (a := ⟨w.heap.size + 2, 4, none⟩) (.int .i64 A))
  replace oC := (oC.other (by first | (simp; done) | (simp; omega) | omega) (a := ⟨w.heap.size + 2, 4, none⟩) (.int .i64 A))
  replace bel := (bel.setCell (p := ⟨w.heap.size + 2, 4, none⟩) (by first | (simp; done) | (simp; omega) | omega) (.int .i64 A))
  replace oH : Own _ (w.heap.size + 2) [.int .i64 f, .int .i64 p, .int .i64 b, .int .i64 ((t + later) / 10000), .int .i64 A] 27 := (oH.set 4 (.int .i64 A))
  clear cS0 cS1 cS2 cS3 cS4 cS5 cS6 fS zS cC0 cC1 fC zC cH0 cH1 cH2 cH3 cH4 fH zH
  generalize (w3.setCell ⟨w.heap.size + 2, 4, none⟩ (.int .i64 A)) = w4 at oS oC oH bel ⊢
  obtain ⟨cS0, cS1, cS2, cS3, cS4, cS5, cS6, fS, zS⟩ := own7 oS
  obtain ⟨cC0, cC1, fC, zC⟩ := own2 oC
  obtain ⟨cH0, cH1, cH2, cH3, cH4, fH, zH⟩ := own5t oH
  go_wp2_with fail
  refine (rtvalid_lit false l h a k src he true _ Hv.out).mono ?_
  rintro e w5 ⟨rfl, hb⟩
  replace oS := oS.below hb
  replace oC := oC.below hb
  replace oH := oH.below hb
  replace bel := belowTo bel hb (by exact bel.size)
  clear hb cS0 cS1 cS2 cS3 cS4 cS5 cS6 fS zS cC0 cC1 fC zC cH0 cH1 cH2 cH3 cH4 fH zH
  obtain ⟨cS0, cS1, cS2, cS3, cS4, cS5, cS6, fS, zS⟩ := own7 oS
  obtain ⟨cC0, cC1, fC, zC⟩ := own2 oC
  obtain ⟨cH0, cH1, cH2, cH3, cH4, fH, zH⟩ := own5t oH
  go_wp2_with fail
  refine (rthint_lit f p b ((t + later) / 10000) A false _ Hhi.out).mono ?_
  rintro e w6 ⟨rfl, hb⟩
  replace oS := oS.below hb
  replace oC := oC.below hb
  replace oH := oH.below hb
  replace bel := belowTo bel hb (by exact bel.size)
  clear hb cS0 cS1 cS2 cS3 cS4 cS5 cS6 fS zS cC0 cC1 fC zC cH0 cH1 cH2 cH3 cH4 fH zH
  obtain ⟨cS0, cS1, cS2, cS3, cS4, cS5, cS6, fS, zS⟩ := own7 oS
  obtain ⟨cC0, cC1, fC, zC⟩ := own2 oC
  obtain ⟨cH0, cH1, cH2, cH3, cH4, fH, zH⟩ := own5t oH
  go_wp2
  all_goals (go_ret; exact ⟨by first | rfl | simp_all, (by repeat (first | exact bel | refine Below.alloc ?_ (by have := bel.size; simp; omega) _))⟩)

set_option linter.unusedVariables false in
set_option maxRecDepth 100000 in
set_option maxHeartbeats 4000000 in
theorem timesyncTruth_root (l h a k src he o d f p b s c t later off A : Int) (w : World) (p1 : 0 ≤ later) (p2 : later ≤ 10000000000) (p3 : -b ≤ off) (p4 : off ≤ b) (p5 : 0 ≤ b) (p6 : b ≤ 2000) (p7 : 0 ≤ t) (p8 : t ≤ 10000000000000 - later - 20000) (p9 : 0 ≤ s) (p10 : s ≤ 1000000000) (hs : shN o d (((t + later) / 10000) * 10000 + off) = A ∧ shE o d (((t + later) / 10000) * 10000 + off) = 0) (q : t ≤ ((t + later) / 10000) * 10000 + off) (v : vldT true l h a k src he = true) (hi : (vldH ((t + later) / 10000) b A && decide (0 ≤ f ∧ f < 60 ∧ 0 ≤ p ∧ p < 60)) = true) (r : (true && (k == 0)) = true)  :
    Calls Try.prog 9 #[.agg #[.bool true, .int .i64 l, .int .i64 h, .int .i64 a, .int .i64 k, .int .i64 src, .int .i64 he], .agg #[.int .i64 o, .int .i64 d], .agg #[.int .i64 f, .int .i64 p, .int .i64 b, .int .i64 s, .int .i64 c], .int .i64 t, .int .i64 later, .int .i64 off] w fun e w' => e = .returned (.bool true) ∧ Below w.heap.size w w' := by
  have Hhs := Lib.hid hs
  clear hs
  have Hv := Lib.hid v
  clear v
  have Hhi := Lib.hid hi
  clear hi
  have Hr := Lib.hid r
  clear r
  go_enter Try.func9, Try.ntmps9
  go_wp2_with fail
  refine (head_any _).mono ?_
  rintro e w1 ⟨rfl, hb⟩
  have oS : Own w1 w.heap.size [.bool true, .int .i64 l, .int .i64 h, .int .i64 a, .int .i64 k, .int .i64 src, .int .i64 he] 25 := (((own_at _ _ rfl).alloc _).alloc _).below hb
  have oC : Own w1 (w.heap.size + 1) [.int .i64 o, .int .i64 d] 47 := ((own_at _ _ (by simp)).alloc _).below hb
  have oH : Own w1 (w.heap.size + 2) [.int .i64 f, .int .i64 p, .int .i64 b, .int .i64 s, .int .i64 c] 27 := (own_at _ _ (by simp)).below hb
  have bel := belowTo ((((Below.refl w.heap.size w).alloc (by simp) _).alloc (by simp) _).alloc (by simp; omega) _) hb (by simp; omega)
  clear hb 
  obtain ⟨cS0, cS1, cS2, cS3, cS4, cS5, cS6, fS, zS⟩ := own7 oS
  obtain ⟨cC0, cC1, fC, zC⟩ := own2 oC
  obtain ⟨cH0, cH1, cH2, cH3, cH4, fH, zH⟩ := own5t oH
  go_wp2_with fail
  replace oS := ((oS.other (by first | (simp; done) | (simp; omega) | omega) (a := ⟨w.heap.size + 2, 4, none⟩) (.int .i64 0)).other (by first | (simp; done) | (simp; omega) | omega) (a := ⟨w.heap.size + 2, 3, none⟩) (.int .i64 ((t + later) / 10000)))
  replace oC := ((oC.other (by first | (simp; done) | (simp; omega) | omega) (a := ⟨w.heap.size + 2, 4, none⟩) (.int .i64 0)).other (by first | (simp; done) | (simp; omega) | omega) (a := ⟨w.heap.size + 2, 3, none⟩) (.int .i64 ((t + later) / 10000)))
  replace bel := ((bel.setCell (p := ⟨w.heap.size + 2, 4, none⟩) (by first | (simp; done) | (simp; omega) | omega) (.int .i64 0)).setCell (p := ⟨w.heap.size + 2, 3, none⟩) (by first | (simp; done) | (simp; omega) | omega) (.int .i64 ((t + later) / 10000)))
  replace oH : Own _ (w.heap.size + 2) [.int .i64 f, .int .i64 p, .int .i64 b, .int .i64 ((t + later) / 10000), .int .i64 0] 27 := ((oH.set 4 (.int .i64 0)).set 3 (.int .i64 ((t + later) / 10000)))
  clear cS0 cS1 cS2 cS3 cS4 cS5 cS6 fS zS cC0 cC1 fC zC cH0 cH1 cH2 cH3 cH4 fH zH
  generalize ((w1.setCell ⟨w.heap.size + 2, 4, none⟩ (.int .i64 0)).setCell ⟨w.heap.size + 2, 3, none⟩ (.int .i64 ((t + later) / 10000))) = w2 at oS oC oH bel ⊢
  obtain ⟨cS0, cS1, cS2, cS3, cS4, cS5, cS6, fS, zS⟩ := own7 oS
  obtain ⟨cC0, cC1, fC, zC⟩ := own2 oC
  obtain ⟨cH0, cH1, cH2, cH3, cH4, fH, zH⟩ := own5t oH
  skip
  refine (show_lit o d (((t + later) / 10000) * 10000 + off) A 0 _ Hhs.out).mono ?_
  rintro e w3 ⟨rfl, hb⟩
  replace oS := oS.below hb
  replace oC := oC.below hb
  replace oH := oH.below hb
  replace bel := belowTo bel hb (by exact bel.size)
  clear hb cS0 cS1 cS2 cS3 cS4 cS5 cS6 fS zS cC0 cC1 fC zC cH0 cH1 cH2 cH3 cH4 fH zH
  obtain ⟨cS0, cS1, cS2, cS3, cS4, cS5, cS6, fS, zS⟩ := own7 oS
  obtain ⟨cC0, cC1, fC, zC⟩ := own2 oC
  obtain ⟨cH0, cH1, cH2, cH3, cH4, fH, zH⟩ := own5t oH
  go_wp2_with fail
  replace oS := (oS.other (by first | (simp; done) | (simp; omega) | omega) (a := ⟨w.heap.size + 2, 4, none⟩) (.int .i64 A))
  replace oC := (oC.other (by first | (simp; done) | (simp; omega) | omega) (a := ⟨w.heap.size + 2, 4, none⟩) (.int .i64 A))
  replace bel := (bel.setCell (p := ⟨w.heap.size + 2, 4, none⟩) (by first | (simp; done) | (simp; omega) | omega) (.int .i64 A))
  replace oH : Own _ (w.heap.size + 2) [.int .i64 f, .int .i64 p, .int .i64 b, .int .i64 ((t + later) / 10000), .int .i64 A] 27 := (oH.set 4 (.int .i64 A))
  clear cS0 cS1 cS2 cS3 cS4 cS5 cS6 fS zS cC0 cC1 fC zC cH0 cH1 cH2 cH3 cH4 fH zH
  generalize (w3.setCell ⟨w.heap.size + 2, 4, none⟩ (.int .i64 A)) = w4 at oS oC oH bel ⊢
  obtain ⟨cS0, cS1, cS2, cS3, cS4, cS5, cS6, fS, zS⟩ := own7 oS
  obtain ⟨cC0, cC1, fC, zC⟩ := own2 oC
  obtain ⟨cH0, cH1, cH2, cH3, cH4, fH, zH⟩ := own5t oH
  go_wp2_with fail
  refine (rtvalid_lit true l h a k src he true _ Hv.out).mono ?_
  rintro e w5 ⟨rfl, hb⟩
  replace oS := oS.below hb
  replace oC := oC.below hb
  replace oH := oH.below hb
  replace bel := belowTo bel hb (by exact bel.size)
  clear hb cS0 cS1 cS2 cS3 cS4 cS5 cS6 fS zS cC0 cC1 fC zC cH0 cH1 cH2 cH3 cH4 fH zH
  obtain ⟨cS0, cS1, cS2, cS3, cS4, cS5, cS6, fS, zS⟩ := own7 oS
  obtain ⟨cC0, cC1, fC, zC⟩ := own2 oC
  obtain ⟨cH0, cH1, cH2, cH3, cH4, fH, zH⟩ := own5t oH
  go_wp2_with fail
  refine (rthint_lit f p b ((t + later) / 10000) A true _ Hhi.out).mono ?_
  rintro e w6 ⟨rfl, hb⟩
  replace oS := oS.below hb
  replace oC := oC.below hb
  replace oH := oH.below hb
  replace bel := belowTo bel hb (by exact bel.size)
  clear hb cS0 cS1 cS2 cS3 cS4 cS5 cS6 fS zS cC0 cC1 fC zC cH0 cH1 cH2 cH3 cH4 fH zH
  obtain ⟨cS0, cS1, cS2, cS3, cS4, cS5, cS6, fS, zS⟩ := own7 oS
  obtain ⟨cC0, cC1, fC, zC⟩ := own2 oC
  obtain ⟨cH0, cH1, cH2, cH3, cH4, fH, zH⟩ := own5t oH
  go_wp2_with fail
  refine (rroot_lit true l h a k src he true _ Hr.out).mono ?_
  rintro e w7 ⟨rfl, hb⟩
  replace oS := oS.below hb
  replace oC := oC.below hb
  replace oH := oH.below hb
  replace bel := belowTo bel hb (by exact bel.size)
  clear hb cS0 cS1 cS2 cS3 cS4 cS5 cS6 fS zS cC0 cC1 fC zC cH0 cH1 cH2 cH3 cH4 fH zH
  obtain ⟨cS0, cS1, cS2, cS3, cS4, cS5, cS6, fS, zS⟩ := own7 oS
  obtain ⟨cC0, cC1, fC, zC⟩ := own2 oC
  obtain ⟨cH0, cH1, cH2, cH3, cH4, fH, zH⟩ := own5t oH
  go_wp2
  all_goals (go_ret; exact ⟨by first | rfl | simp_all, (by repeat (first | exact bel | refine Below.alloc ?_ (by have := bel.size; simp; omega) _))⟩)

set_option linter.unusedVariables false in
set_option maxRecDepth 100000 in
set_option maxHeartbeats 4000000 in
theorem timesyncTruth_not (l h a k src he o d f p b s c t later off A : Int) (w : World) (p1 : 0 ≤ later) (p2 : later ≤ 10000000000) (p3 : -b ≤ off) (p4 : off ≤ b) (p5 : 0 ≤ b) (p6 : b ≤ 2000) (p7 : 0 ≤ t) (p8 : t ≤ 10000000000000 - later - 20000) (p9 : 0 ≤ s) (p10 : s ≤ 1000000000) (hs : shN o d (((t + later) / 10000) * 10000 + off) = A ∧ shE o d (((t + later) / 10000) * 10000 + off) = 0) (q : t ≤ ((t + later) / 10000) * 10000 + off) (v : vldT true l h a k src he = true) (hi : (vldH ((t + later) / 10000) b A && decide (0 ≤ f ∧ f < 60 ∧ 0 ≤ p ∧ p < 60)) = true) (r : (true && (k == 0)) = false) (ho : hoB l h a o d t = false)  :
    Calls Try.prog 9 #[.agg #[.bool true, .int .i64 l, .int .i64 h, .int .i64 a, .int .i64 k, .int .i64 src, .int .i64 he], .agg #[.int .i64 o, .int .i64 d], .agg #[.int .i64 f, .int .i64 p, .int .i64 b, .int .i64 s, .int .i64 c], .int .i64 t, .int .i64 later, .int .i64 off] w fun e w' => e = .returned (.bool true) ∧ Below w.heap.size w w' := by
  have Hhs := Lib.hid hs
  clear hs
  have Hv := Lib.hid v
  clear v
  have Hhi := Lib.hid hi
  clear hi
  have Hr := Lib.hid r
  clear r
  have Hho := Lib.hid ho
  clear ho
  go_enter Try.func9, Try.ntmps9
  go_wp2_with fail
  refine (head_any _).mono ?_
  rintro e w1 ⟨rfl, hb⟩
  have oS : Own w1 w.heap.size [.bool true, .int .i64 l, .int .i64 h, .int .i64 a, .int .i64 k, .int .i64 src, .int .i64 he] 25 := (((own_at _ _ rfl).alloc _).alloc _).below hb
  have oC : Own w1 (w.heap.size + 1) [.int .i64 o, .int .i64 d] 47 := ((own_at _ _ (by simp)).alloc _).below hb
  have oH : Own w1 (w.heap.size + 2) [.int .i64 f, .int .i64 p, .int .i64 b, .int .i64 s, .int .i64 c] 27 := (own_at _ _ (by simp)).below hb
  have bel := belowTo ((((Below.refl w.heap.size w).alloc (by simp) _).alloc (by simp) _).alloc (by simp; omega) _) hb (by simp; omega)
  clear hb 
  obtain ⟨cS0, cS1, cS2, cS3, cS4, cS5, cS6, fS, zS⟩ := own7 oS
  obtain ⟨cC0, cC1, fC, zC⟩ := own2 oC
  obtain ⟨cH0, cH1, cH2, cH3, cH4, fH, zH⟩ := own5t oH
  go_wp2_with fail
  replace oS := ((oS.other (by first | (simp; done) | (simp; omega) | omega) (a := ⟨w.heap.size + 2, 4, none⟩) (.int .i64 0)).other (by first | (simp; done) | (simp; omega) | omega) (a := ⟨w.heap.size + 2, 3, none⟩) (.int .i64 ((t + later) / 10000)))
  replace oC := ((oC.other (by first | (simp; done) | (simp; omega) | omega) (a := ⟨w.heap.size + 2, 4, none⟩) (.int .i64 0)).other (by first | (simp; done) | (simp; omega) | omega) (a := ⟨w.heap.size + 2, 3, none⟩) (.int .i64 ((t + later) / 10000)))
  replace bel := ((bel.setCell (p := ⟨w.heap.size + 2, 4, none⟩) (by first | (simp; done) | (simp; omega) | omega) (.int .i64 0)).setCell (p := ⟨w.heap.size + 2, 3, none⟩) (by first | (simp; done) | (simp; omega) | omega) (.int .i64 ((t + later) / 10000)))
  replace oH : Own _ (w.heap.size + 2) [.int .i64 f, .int .i64 p, .int .i64 b, .int .i64 ((t + later) / 10000), .int .i64 0] 27 := ((oH.set 4 (.int .i64 0)).set 3 (.int .i64 ((t + later) / 10000)))
  clear cS0 cS1 cS2 cS3 cS4 cS5 cS6 fS zS cC0 cC1 fC zC cH0 cH1 cH2 cH3 cH4 fH zH
  generalize ((w1.setCell ⟨w.heap.size + 2, 4, none⟩ (.int .i64 0)).setCell ⟨w.heap.size + 2, 3, none⟩ (.int .i64 ((t + later) / 10000))) = w2 at oS oC oH bel ⊢
  obtain ⟨cS0, cS1, cS2, cS3, cS4, cS5, cS6, fS, zS⟩ := own7 oS
  obtain ⟨cC0, cC1, fC, zC⟩ := own2 oC
  obtain ⟨cH0, cH1, cH2, cH3, cH4, fH, zH⟩ := own5t oH
  skip
  refine (show_lit o d (((t + later) / 10000) * 10000 + off) A 0 _ Hhs.out).mono ?_
  rintro e w3 ⟨rfl, hb⟩
  replace oS := oS.below hb
  replace oC := oC.below hb
  replace oH := oH.below hb
  replace bel := belowTo bel hb (by exact bel.size)
  clear hb cS0 cS1 cS2 cS3 cS4 cS5 cS6 fS zS cC0 cC1 fC zC cH0 cH1 cH2 cH3 cH4 fH zH
  obtain ⟨cS0, cS1, cS2, cS3, cS4, cS5, cS6, fS, zS⟩ := own7 oS
  obtain ⟨cC0, cC1, fC, zC⟩ := own2 oC
  obtain ⟨cH0, cH1, cH2, cH3, cH4, fH, zH⟩ := own5t oH
  go_wp2_with fail
  replace oS := (oS.other (by first | (simp; done) | (simp; omega) | omega) (a := ⟨w.heap.size + 2, 4, none⟩) (.int .i64 A))
  replace oC := (oC.other (by first | (simp; done) | (simp; omega) | omega) (a := ⟨w.heap.size + 2, 4, none⟩) (.int .i64 A))
  replace bel := (bel.setCell (p := ⟨w.heap.size + 2, 4, none⟩) (by first | (simp; done) | (simp; omega) | omega) (.int .i64 A))
  replace oH : Own _ (w.heap.size + 2) [.int .i64 f, .int .i64 p, .int .i64 b, .int .i64 ((t + later) / 10000), .int .i64 A] 27 := (oH.set 4 (.int .i64 A))
  clear cS0 cS1 cS2 cS3 cS4 cS5 cS6 fS zS cC0 cC1 fC zC cH0 cH1 cH2 cH3 cH4 fH zH
  generalize (w3.setCell ⟨w.heap.size + 2, 4, none⟩ (.int .i64 A)) = w4 at oS oC oH bel ⊢
  obtain ⟨cS0, cS1, cS2, cS3, cS4, cS5, cS6, fS, zS⟩ := own7 oS
  obtain ⟨cC0, cC1, fC, zC⟩ := own2 oC
  obtain ⟨cH0, cH1, cH2, cH3, cH4, fH, zH⟩ := own5t oH
  go_wp2_with fail
  refine (rtvalid_lit true l h a k src he true _ Hv.out).mono ?_
  rintro e w5 ⟨rfl, hb⟩
  replace oS := oS.below hb
  replace oC := oC.below hb
  replace oH := oH.below hb
  replace bel := belowTo bel hb (by exact bel.size)
  clear hb cS0 cS1 cS2 cS3 cS4 cS5 cS6 fS zS cC0 cC1 fC zC cH0 cH1 cH2 cH3 cH4 fH zH
  obtain ⟨cS0, cS1, cS2, cS3, cS4, cS5, cS6, fS, zS⟩ := own7 oS
  obtain ⟨cC0, cC1, fC, zC⟩ := own2 oC
  obtain ⟨cH0, cH1, cH2, cH3, cH4, fH, zH⟩ := own5t oH
  go_wp2_with fail
  refine (rthint_lit f p b ((t + later) / 10000) A true _ Hhi.out).mono ?_
  rintro e w6 ⟨rfl, hb⟩
  replace oS := oS.below hb
  replace oC := oC.below hb
  replace oH := oH.below hb
  replace bel := belowTo bel hb (by exact bel.size)
  clear hb cS0 cS1 cS2 cS3 cS4 cS5 cS6 fS zS cC0 cC1 fC zC cH0 cH1 cH2 cH3 cH4 fH zH
  obtain ⟨cS0, cS1, cS2, cS3, cS4, cS5, cS6, fS, zS⟩ := own7 oS
  obtain ⟨cC0, cC1, fC, zC⟩ := own2 oC
  obtain ⟨cH0, cH1, cH2, cH3, cH4, fH, zH⟩ := own5t oH
  go_wp2_with fail
  refine (rroot_lit true l h a k src he false _ Hr.out).mono ?_
  rintro e w7 ⟨rfl, hb⟩
  replace oS := oS.below hb
  replace oC := oC.below hb
  replace oH := oH.below hb
  replace bel := belowTo bel hb (by exact bel.size)
  clear hb cS0 cS1 cS2 cS3 cS4 cS5 cS6 fS zS cC0 cC1 fC zC cH0 cH1 cH2 cH3 cH4 fH zH
  obtain ⟨cS0, cS1, cS2, cS3, cS4, cS5, cS6, fS, zS⟩ := own7 oS
  obtain ⟨cC0, cC1, fC, zC⟩ := own2 oC
  obtain ⟨cH0, cH1, cH2, cH3, cH4, fH, zH⟩ := own5t oH
  go_wp2_with fail
  refine (holds_lit true l h a k src he o d t false _ Hho.out).mono ?_
  rintro e w8 ⟨rfl, hb⟩
  replace oS := oS.below hb
  replace oC := oC.below hb
  replace oH := oH.below hb
  replace bel := belowTo bel hb (by exact bel.size)
  clear hb cS0 cS1 cS2 cS3 cS4 cS5 cS6 fS zS cC0 cC1 fC zC cH0 cH1 cH2 cH3 cH4 fH zH
  obtain ⟨cS0, cS1, cS2, cS3, cS4, cS5, cS6, fS, zS⟩ := own7 oS
  obtain ⟨cC0, cC1, fC, zC⟩ := own2 oC
  obtain ⟨cH0, cH1, cH2, cH3, cH4, fH, zH⟩ := own5t oH
  go_wp2
  all_goals (go_ret; exact ⟨by first | rfl | simp_all, (by repeat (first | exact bel | refine Below.alloc ?_ (by have := bel.size; simp; omega) _))⟩)


end Go.Proofs.Ytfclodgfifbfbaa

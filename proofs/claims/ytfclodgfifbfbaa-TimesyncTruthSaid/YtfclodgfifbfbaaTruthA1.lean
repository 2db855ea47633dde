/- TimesyncTruth: the ways out at once. -/
import Derived.Test.YtfclodgfifbfbaaHead09
import Derived.Test.YtfclodgfifbfbaaIs09
import Derived.Test.YtfclodgfifbfbaaHolds09
import Derived.Test.YtfclodgfifbfbaaPlain09b
namespace Go.Proofs.Ytfclodgfifbfbaa
open Go.RowKit

set_option linter.unusedVariables false in
set_option maxRecDepth 100000 in
set_option maxHeartbeats 4000000 in
theorem timesyncTruth_r1 (sy : Bool) (l h a k src he o d f p b s c t later off : Int) (w : World) (q : later < 0) :
    Calls Try.prog 9 #[.agg #[.bool sy, .int .i64 l, .int .i64 h, .int .i64 a, .int .i64 k, .int .i64 src, .int .i64 he], .agg #[.int .i64 o, .int .i64 d], .agg #[.int .i64 f, .int .i64 p, .int .i64 b, .int .i64 s, .int .i64 c], .int .i64 t, .int .i64 later, .int .i64 off] w fun e w' => e = .returned (.bool true) ∧ Below w.heap.size w w' := by
  go_enter Try.func9, Try.ntmps9
  go_wp2_with fail
  refine (head_any _).mono ?_
  rintro e w1 ⟨rfl, hb⟩
  have oS : Own w1 w.heap.size [.bool sy, .int .i64 l, .int .i64 h, .int .i64 a, .int .i64 k, .int .i64 src, .int .i64 he] 25 := (((own_at _ _ rfl).alloc _).alloc _).below hb
  have oC : Own w1 (w.heap.size + 1) [.int .i64 o, .int .i64 d] 47 := ((own_at _ _ (by simp)).alloc _).below hb
  have oH : Own w1 (w.heap.size + 2) [.int .i64 f, .int .i64 p, .int .i64 b, .int .i64 s, .int .i64 c] 27 := (own_at _ _ (by simp)).below hb
  have bel := belowTo ((((Below.refl w.heap.size w).alloc (by simp) _).alloc (by simp) _).alloc (by simp; omega) _) hb (by simp; omega)
  clear hb 
  obtain ⟨cS0, cS1, cS2, cS3, cS4, cS5, cS6, fS, zS⟩ := own7 oS
  obtain ⟨cC0, cC1, fC, zC⟩ := own2 oC
  obtain ⟨cH0, cH1, cH2, cH3, cH4, fH, zH⟩ := own5t oH
  go_wp2
  all_goals (go_ret; exact ⟨by first | rfl | simp_all, (by repeat (first | exact bel | refine belowSet ?_ _ _ _ (by omega) | refine Below.alloc ?_ (by have := bel.size; simp; omega) _))⟩)

set_option linter.unusedVariables false in
set_option maxRecDepth 100000 in
set_option maxHeartbeats 4000000 in
theorem timesyncTruth_r2 (sy : Bool) (l h a k src he o d f p b s c t later off : Int) (w : World) (p1 : 0 ≤ later) (q : 10000000000 < later) :
    Calls Try.prog 9 #[.agg #[.bool sy, .int .i64 l, .int .i64 h, .int .i64 a, .int .i64 k, .int .i64 src, .int .i64 he], .agg #[.int .i64 o, .int .i64 d], .agg #[.int .i64 f, .int .i64 p, .int .i64 b, .int .i64 s, .int .i64 c], .int .i64 t, .int .i64 later, .int .i64 off] w fun e w' => e = .returned (.bool true) ∧ Below w.heap.size w w' := by
  go_enter Try.func9, Try.ntmps9
  go_wp2_with fail
  refine (head_any _).mono ?_
  rintro e w1 ⟨rfl, hb⟩
  have oS : Own w1 w.heap.size [.bool sy, .int .i64 l, .int .i64 h, .int .i64 a, .int .i64 k, .int .i64 src, .int .i64 he] 25 := (((own_at _ _ rfl).alloc _).alloc _).below hb
  have oC : Own w1 (w.heap.size + 1) [.int .i64 o, .int .i64 d] 47 := ((own_at _ _ (by simp)).alloc _).below hb
  have oH : Own w1 (w.heap.size + 2) [.int .i64 f, .int .i64 p, .int .i64 b, .int .i64 s, .int .i64 c] 27 := (own_at _ _ (by simp)).below hb
  have bel := belowTo ((((Below.refl w.heap.size w).alloc (by simp) _).alloc (by simp) _).alloc (by simp; omega) _) hb (by simp; omega)
  clear hb 
  obtain ⟨cS0, cS1, cS2, cS3, cS4, cS5, cS6, fS, zS⟩ := own7 oS
  obtain ⟨cC0, cC1, fC, zC⟩ := own2 oC
  obtain ⟨cH0, cH1, cH2, cH3, cH4, fH, zH⟩ := own5t oH
  go_wp2
  all_goals (go_ret; exact ⟨by first | rfl | simp_all, (by repeat (first | exact bel | refine belowSet ?_ _ _ _ (by omega) | refine Below.alloc ?_ (by have := bel.size; simp; omega) _))⟩)

set_option linter.unusedVariables false in
set_option maxRecDepth 100000 in
set_option maxHeartbeats 4000000 in
theorem timesyncTruth_r5 (sy : Bool) (l h a k src he o d f p b s c t later off : Int) (w : World) (p1 : 0 ≤ later) (p2 : later ≤ 10000000000) (q : t < 0) :
    Calls Try.prog 9 #[.agg #[.bool sy, .int .i64 l, .int .i64 h, .int .i64 a, .int .i64 k, .int .i64 src, .int .i64 he], .agg #[.int .i64 o, .int .i64 d], .agg #[.int .i64 f, .int .i64 p, .int .i64 b, .int .i64 s, .int .i64 c], .int .i64 t, .int .i64 later, .int .i64 off] w fun e w' => e = .returned (.bool true) ∧ Below w.heap.size w w' := by
  go_enter Try.func9, Try.ntmps9
  go_wp2_with fail
  refine (head_any _).mono ?_
  rintro e w1 ⟨rfl, hb⟩
  have oS : Own w1 w.heap.size [.bool sy, .int .i64 l, .int .i64 h, .int .i64 a, .int .i64 k, .int .i64 src, .int .i64 he] 25 := (((own_at _ _ rfl).alloc _).alloc _).below hb
  have oC : Own w1 (w.heap.size + 1) [.int .i64 o, .int .i64 d] 47 := ((own_at _ _ (by simp)).alloc _).below hb
  have oH : Own w1 (w.heap.size + 2) [.int .i64 f, .int .i64 p, .int .i64 b, .int .i64 s, .int .i64 c] 27 := (own_at _ _ (by simp)).below hb
  have bel := belowTo ((((Below.refl w.heap.size w).alloc (by simp) _).alloc (by simp) _).alloc (by simp; omega) _) hb (by simp; omega)
  clear hb 
  obtain ⟨cS0, cS1, cS2, cS3, cS4, cS5, cS6, fS, zS⟩ := own7 oS
  obtain ⟨cC0, cC1, fC, zC⟩ := own2 oC
  obtain ⟨cH0, cH1, cH2, cH3, cH4, fH, zH⟩ := own5t oH
  go_wp2
  all_goals (go_ret; exact ⟨by first | rfl | simp_all, (by repeat (first | exact bel | refine belowSet ?_ _ _ _ (by omega) | refine Below.alloc ?_ (by have := bel.size; simp; omega) _))⟩)

set_option linter.unusedVariables false in
set_option maxRecDepth 100000 in
set_option maxHeartbeats 4000000 in
theorem timesyncTruth_r6 (sy : Bool) (l h a k src he o d f p b s c t later off : Int) (w : World) (p1 : 0 ≤ later) (p2 : later ≤ 10000000000) (p7 : 0 ≤ t) (q : 10000000000000 - later - 20000 < t) :
    Calls Try.prog 9 #[.agg #[.bool sy, .int .i64 l, .int .i64 h, .int .i64 a, .int .i64 k, .int .i64 src, .int .i64 he], .agg #[.int .i64 o, .int .i64 d], .agg #[.int .i64 f, .int .i64 p, .int .i64 b, .int .i64 s, .int .i64 c], .int .i64 t, .int .i64 later, .int .i64 off] w fun e w' => e = .returned (.bool true) ∧ Below w.heap.size w w' := by
  go_enter Try.func9, Try.ntmps9
  go_wp2_with fail
  refine (head_any _).mono ?_
  rintro e w1 ⟨rfl, hb⟩
  have oS : Own w1 w.heap.size [.bool sy, .int .i64 l, .int .i64 h, .int .i64 a, .int .i64 k, .int .i64 src, .int .i64 he] 25 := (((own_at _ _ rfl).alloc _).alloc _).below hb
  have oC : Own w1 (w.heap.size + 1) [.int .i64 o, .int .i64 d] 47 := ((own_at _ _ (by simp)).alloc _).below hb
  have oH : Own w1 (w.heap.size + 2) [.int .i64 f, .int .i64 p, .int .i64 b, .int .i64 s, .int .i64 c] 27 := (own_at _ _ (by simp)).below hb
  have bel := belowTo ((((Below.refl w.heap.size w).alloc (by simp) _).alloc (by simp) _).alloc (by simp; omega) _) hb (by simp; omega)
  clear hb 
  obtain ⟨cS0, cS1, cS2, cS3, cS4, cS5, cS6, fS, zS⟩ := own7 oS
  obtain ⟨cC0, cC1, fC, zC⟩ := own2 oC
  obtain ⟨cH0, cH1, cH2, cH3, cH4, fH, zH⟩ := own5t oH
  go_wp2
  all_goals (go_ret; exact ⟨by first | rfl | simp_all, (by repeat (first | exact bel | refine belowSet ?_ _ _ _ (by omega) | refine Below.alloc ?_ (by have := bel.size; simp; omega) _))⟩)

set_option linter.unusedVariables false in
set_option maxRecDepth 100000 in
set_option maxHeartbeats 4000000 in
theorem timesyncTruth_r7 (sy : Bool) (l h a k src he o d f p b s c t later off : Int) (w : World) (p1 : 0 ≤ later) (p2 : later ≤ 10000000000) (p7 : 0 ≤ t) (p8 : t ≤ 10000000000000 - later - 20000) (q : s < 0) :
    Calls Try.prog 9 #[.agg #[.bool sy, .int .i64 l, .int .i64 h, .int .i64 a, .int .i64 k, .int .i64 src, .int .i64 he], .agg #[.int .i64 o, .int .i64 d], .agg #[.int .i64 f, .int .i64 p, .int .i64 b, .int .i64 s, .int .i64 c], .int .i64 t, .int .i64 later, .int .i64 off] w fun e w' => e = .returned (.bool true) ∧ Below w.heap.size w w' := by
  go_enter Try.func9, Try.ntmps9
  go_wp2_with fail
  refine (head_any _).mono ?_
  rintro e w1 ⟨rfl, hb⟩
  have oS : Own w1 w.heap.size [.bool sy, .int .i64 l, .int .i64 h, .int .i64 a, .int .i64 k, .int .i64 src, .int .i64 he] 25 := (((own_at _ _ rfl).alloc _).alloc _).below hb
  have oC : Own w1 (w.heap.size + 1) [.int .i64 o, .int .i64 d] 47 := ((own_at _ _ (by simp)).alloc _).below hb
  have oH : Own w1 (w.heap.size + 2) [.int .i64 f, .int .i64 p, .int .i64 b, .int .i64 s, .int .i64 c] 27 := (own_at _ _ (by simp)).below hb
  have bel := belowTo ((((Below.refl w.heap.size w).alloc (by simp) _).alloc (by simp) _).alloc (by simp; omega) _) hb (by simp; omega)
  clear hb 
  obtain ⟨cS0, cS1, cS2, cS3, cS4, cS5, cS6, fS, zS⟩ := own7 oS
  obtain ⟨cC0, cC1, fC, zC⟩ := own2 oC
  obtain ⟨cH0, cH1, cH2, cH3, cH4, fH, zH⟩ := own5t oH
  go_wp2
  all_goals (go_ret; exact ⟨by first | rfl | simp_all, (by repeat (first | exact bel | refine belowSet ?_ _ _ _ (by omega) | refine Below.alloc ?_ (by have := bel.size; simp; omega) _))⟩)

set_option linter.unusedVariables false in
set_option maxRecDepth 100000 in
set_option maxHeartbeats 4000000 in
theorem timesyncTruth_r8 (sy : Bool) (l h a k src he o d f p b s c t later off : Int) (w : World) (p1 : 0 ≤ later) (p2 : later ≤ 10000000000) (p7 : 0 ≤ t) (p8 : t ≤ 10000000000000 - later - 20000) (p9 : 0 ≤ s) (q : 1000000000 < s) :
    Calls Try.prog 9 #[.agg #[.bool sy, .int .i64 l, .int .i64 h, .int .i64 a, .int .i64 k, .int .i64 src, .int .i64 he], .agg #[.int .i64 o, .int .i64 d], .agg #[.int .i64 f, .int .i64 p, .int .i64 b, .int .i64 s, .int .i64 c], .int .i64 t, .int .i64 later, .int .i64 off] w fun e w' => e = .returned (.bool true) ∧ Below w.heap.size w w' := by
  go_enter Try.func9, Try.ntmps9
  go_wp2_with fail
  refine (head_any _).mono ?_
  rintro e w1 ⟨rfl, hb⟩
  have oS : Own w1 w.heap.size [.bool sy, .int .i64 l, .int .i64 h, .int .i64 a, .int .i64 k, .int .i64 src, .int .i64 he] 25 := (((own_at _ _ rfl).alloc _).alloc _).below hb
  have oC : Own w1 (w.heap.size + 1) [.int .i64 o, .int .i64 d] 47 := ((own_at _ _ (by simp)).alloc _).below hb
  have oH : Own w1 (w.heap.size + 2) [.int .i64 f, .int .i64 p, .int .i64 b, .int .i64 s, .int .i64 c] 27 := (own_at _ _ (by simp)).below hb
  have bel := belowTo ((((Below.refl w.heap.size w).alloc (by simp) _).alloc (by simp) _).alloc (by simp; omega) _) hb (by simp; omega)
  clear hb 
  obtain ⟨cS0, cS1, cS2, cS3, cS4, cS5, cS6, fS, zS⟩ := own7 oS
  obtain ⟨cC0, cC1, fC, zC⟩ := own2 oC
  obtain ⟨cH0, cH1, cH2, cH3, cH4, fH, zH⟩ := own5t oH
  go_wp2
  all_goals (go_ret; exact ⟨by first | rfl | simp_all, (by repeat (first | exact bel | refine belowSet ?_ _ _ _ (by omega) | refine Below.alloc ?_ (by have := bel.size; simp; omega) _))⟩)

set_option linter.unusedVariables false in
set_option maxRecDepth 100000 in
set_option maxHeartbeats 4000000 in
theorem timesyncTruth_r9 (sy : Bool) (l h a k src he o d f p b s c t later off : Int) (w : World) (p1 : 0 ≤ later) (p2 : later ≤ 10000000000) (p7 : 0 ≤ t) (p8 : t ≤ 10000000000000 - later - 20000) (p9 : 0 ≤ s) (p10 : s ≤ 1000000000) (q : b < 0) :
    Calls Try.prog 9 #[.agg #[.bool sy, .int .i64 l, .int .i64 h, .int .i64 a, .int .i64 k, .int .i64 src, .int .i64 he], .agg #[.int .i64 o, .int .i64 d], .agg #[.int .i64 f, .int .i64 p, .int .i64 b, .int .i64 s, .int .i64 c], .int .i64 t, .int .i64 later, .int .i64 off] w fun e w' => e = .returned (.bool true) ∧ Below w.heap.size w w' := by
  go_enter Try.func9, Try.ntmps9
  go_wp2_with fail
  refine (head_any _).mono ?_
  rintro e w1 ⟨rfl, hb⟩
  have oS : Own w1 w.heap.size [.bool sy, .int .i64 l, .int .i64 h, .int .i64 a, .int .i64 k, .int .i64 src, .int .i64 he] 25 := (((own_at _ _ rfl).alloc _).alloc _).below hb
  have oC : Own w1 (w.heap.size + 1) [.int .i64 o, .int .i64 d] 47 := ((own_at _ _ (by simp)).alloc _).below hb
  have oH : Own w1 (w.heap.size + 2) [.int .i64 f, .int .i64 p, .int .i64 b, .int .i64 s, .int .i64 c] 27 := (own_at _ _ (by simp)).below hb
  have bel := belowTo ((((Below.refl w.heap.size w).alloc (by simp) _).alloc (by simp) _).alloc (by simp; omega) _) hb (by simp; omega)
  clear hb 
  obtain ⟨cS0, cS1, cS2, cS3, cS4, cS5, cS6, fS, zS⟩ := own7 oS
  obtain ⟨cC0, cC1, fC, zC⟩ := own2 oC
  obtain ⟨cH0, cH1, cH2, cH3, cH4, fH, zH⟩ := own5t oH
  go_wp2
  all_goals (go_ret; exact ⟨by first | rfl | simp_all, (by repeat (first | exact bel | refine belowSet ?_ _ _ _ (by omega) | refine Below.alloc ?_ (by have := bel.size; simp; omega) _))⟩)

set_option linter.unusedVariables false in
set_option maxRecDepth 100000 in
set_option maxHeartbeats 4000000 in
theorem timesyncTruth_r10 (sy : Bool) (l h a k src he o d f p b s c t later off : Int) (w : World) (p1 : 0 ≤ later) (p2 : later ≤ 10000000000) (p7 : 0 ≤ t) (p8 : t ≤ 10000000000000 - later - 20000) (p9 : 0 ≤ s) (p10 : s ≤ 1000000000) (p5 : 0 ≤ b) (q : 2000 < b) :
    Calls Try.prog 9 #[.agg #[.bool sy, .int .i64 l, .int .i64 h, .int .i64 a, .int .i64 k, .int .i64 src, .int .i64 he], .agg #[.int .i64 o, .int .i64 d], .agg #[.int .i64 f, .int .i64 p, .int .i64 b, .int .i64 s, .int .i64 c], .int .i64 t, .int .i64 later, .int .i64 off] w fun e w' => e = .returned (.bool true) ∧ Below w.heap.size w w' := by
  go_enter Try.func9, Try.ntmps9
  go_wp2_with fail
  refine (head_any _).mono ?_
  rintro e w1 ⟨rfl, hb⟩
  have oS : Own w1 w.heap.size [.bool sy, .int .i64 l, .int .i64 h, .int .i64 a, .int .i64 k, .int .i64 src, .int .i64 he] 25 := (((own_at _ _ rfl).alloc _).alloc _).below hb
  have oC : Own w1 (w.heap.size + 1) [.int .i64 o, .int .i64 d] 47 := ((own_at _ _ (by simp)).alloc _).below hb
  have oH : Own w1 (w.heap.size + 2) [.int .i64 f, .int .i64 p, .int .i64 b, .int .i64 s, .int .i64 c] 27 := (own_at _ _ (by simp)).below hb
  have bel := belowTo ((((Below.refl w.heap.size w).alloc (by simp) _).alloc (by simp) _).alloc (by simp; omega) _) hb (by simp; omega)
  clear hb 
  obtain ⟨cS0, cS1, cS2, cS3, cS4, cS5, cS6, fS, zS⟩ := own7 oS
  obtain ⟨cC0, cC1, fC, zC⟩ := own2 oC
  obtain ⟨cH0, cH1, cH2, cH3, cH4, fH, zH⟩ := own5t oH
  go_wp2
  all_goals (go_ret; exact ⟨by first | rfl | simp_all, (by repeat (first | exact bel | refine belowSet ?_ _ _ _ (by omega) | refine Below.alloc ?_ (by have := bel.size; simp; omega) _))⟩)

set_option linter.unusedVariables false in
set_option maxRecDepth 100000 in
set_option maxHeartbeats 4000000 in
theorem timesyncTruth_r3 (sy : Bool) (l h a k src he o d f p b s c t later off : Int) (w : World) (p1 : 0 ≤ later) (p2 : later ≤ 10000000000) (p7 : 0 ≤ t) (p8 : t ≤ 10000000000000 - later - 20000) (p9 : 0 ≤ s) (p10 : s ≤ 1000000000) (p5 : 0 ≤ b) (p6 : b ≤ 2000) (q : off < -b) :
    Calls Try.prog 9 #[.agg #[.bool sy, .int .i64 l, .int .i64 h, .int .i64 a, .int .i64 k, .int .i64 src, .int .i64 he], .agg #[.int .i64 o, .int .i64 d], .agg #[.int .i64 f, .int .i64 p, .int .i64 b, .int .i64 s, .int .i64 c], .int .i64 t, .int .i64 later, .int .i64 off] w fun e w' => e = .returned (.bool true) ∧ Below w.heap.size w w' := by
  go_enter Try.func9, Try.ntmps9
  go_wp2_with fail
  refine (head_any _).mono ?_
  rintro e w1 ⟨rfl, hb⟩
  have oS : Own w1 w.heap.size [.bool sy, .int .i64 l, .int .i64 h, .int .i64 a, .int .i64 k, .int .i64 src, .int .i64 he] 25 := (((own_at _ _ rfl).alloc _).alloc _).below hb
  have oC : Own w1 (w.heap.size + 1) [.int .i64 o, .int .i64 d] 47 := ((own_at _ _ (by simp)).alloc _).below hb
  have oH : Own w1 (w.heap.size + 2) [.int .i64 f, .int .i64 p, .int .i64 b, .int .i64 s, .int .i64 c] 27 := (own_at _ _ (by simp)).below hb
  have bel := belowTo ((((Below.refl w.heap.size w).alloc (by simp) _).alloc (by simp) _).alloc (by simp; omega) _) hb (by simp; omega)
  clear hb 
  obtain ⟨cS0, cS1, cS2, cS3, cS4, cS5, cS6, fS, zS⟩ := own7 oS
  obtain ⟨cC0, cC1, fC, zC⟩ := own2 oC
  obtain ⟨cH0, cH1, cH2, cH3, cH4, fH, zH⟩ := own5t oH
  go_wp2
  all_goals (go_ret; exact ⟨by first | rfl | simp_all, (by repeat (first | exact bel | refine belowSet ?_ _ _ _ (by omega) | refine Below.alloc ?_ (by have := bel.size; simp; omega) _))⟩)

set_option linter.unusedVariables false in
set_option maxRecDepth 100000 in
set_option maxHeartbeats 4000000 in
theorem timesyncTruth_r4 (sy : Bool) (l h a k src he o d f p b s c t later off : Int) (w : World) (p1 : 0 ≤ later) (p2 : later ≤ 10000000000) (p7 : 0 ≤ t) (p8 : t ≤ 10000000000000 - later - 20000) (p9 : 0 ≤ s) (p10 : s ≤ 1000000000) (p5 : 0 ≤ b) (p6 : b ≤ 2000) (q5 : -b ≤ off) (q : b < off) :
    Calls Try.prog 9 #[.agg #[.bool sy, .int .i64 l, .int .i64 h, .int .i64 a, .int .i64 k, .int .i64 src, .int .i64 he], .agg #[.int .i64 o, .int .i64 d], .agg #[.int .i64 f, .int .i64 p, .int .i64 b, .int .i64 s, .int .i64 c], .int .i64 t, .int .i64 later, .int .i64 off] w fun e w' => e = .returned (.bool true) ∧ Below w.heap.size w w' := by
  go_enter Try.func9, Try.ntmps9
  go_wp2_with fail
  refine (head_any _).mono ?_
  rintro e w1 ⟨rfl, hb⟩
  have oS : Own w1 w.heap.size [.bool sy, .int .i64 l, .int .i64 h, .int .i64 a, .int .i64 k, .int .i64 src, .int .i64 he] 25 := (((own_at _ _ rfl).alloc _).alloc _).below hb
  have oC : Own w1 (w.heap.size + 1) [.int .i64 o, .int .i64 d] 47 := ((own_at _ _ (by simp)).alloc _).below hb
  have oH : Own w1 (w.heap.size + 2) [.int .i64 f, .int .i64 p, .int .i64 b, .int .i64 s, .int .i64 c] 27 := (own_at _ _ (by simp)).below hb
  have bel := belowTo ((((Below.refl w.heap.size w).alloc (by simp) _).alloc (by simp) _).alloc (by simp; omega) _) hb (by simp; omega)
  clear hb 
  obtain ⟨cS0, cS1, cS2, cS3, cS4, cS5, cS6, fS, zS⟩ := own7 oS
  obtain ⟨cC0, cC1, fC, zC⟩ := own2 oC
  obtain ⟨cH0, cH1, cH2, cH3, cH4, fH, zH⟩ := own5t oH
  go_wp2
  all_goals (go_ret; exact ⟨by first | rfl | simp_all, (by repeat (first | exact bel | refine belowSet ?_ _ _ _ (by omega) | refine Below.alloc ?_ (by have := bel.size; simp; omega) _))⟩)


end Go.Proofs.Ytfclodgfifbfbaa

/- The contract of timesync.Tick. -/
import Derived.Test.YtfclodgfifbfbaaTime2
import Derived.Test.YtfclodgfifbfbaaTime3
namespace Go.Proofs.Ytfclodgfifbfbaa
open Go.RowKit

set_option linter.unusedVariables false in
set_option maxRecDepth 100000 in
set_option maxHeartbeats 2000000 in
theorem tick_off (l h a k src he n N E : Int) (w : World) (hb : bdN false l h a k src he n = N ∧ bdE false l h a k src he n = E) (hv : vldT false l h a k src he = vldT false l h a k src he) :
    Calls Try.prog 16 #[.agg #[.bool false, .int .i64 l, .int .i64 h, .int .i64 a, .int .i64 k, .int .i64 src, .int .i64 he], .int .i64 n] w
      fun e w' => e = .returned (.agg #[.bool false, .int .i64 l, .int .i64 h, .int .i64 a, .int .i64 k, .int .i64 src, .int .i64 he]) ∧ Below w.heap.size w w' := by
  have Hhb := Lib.hid hb
  clear hb
  have Hhv := Lib.hid hv
  clear hv
  go_enter Try.func16, Try.ntmps16
  go_wp2_with fail
  refine (tbound_lit false l h a k src he n N E _ Hhb.out).mono ?_
  rintro e w1 ⟨rfl, hb⟩
  have oS : Own w1 w.heap.size [.bool false, .int .i64 l, .int .i64 h, .int .i64 a, .int .i64 k, .int .i64 src, .int .i64 he] 25 := ((own_at _ _ rfl).alloc _).below hb
  have oR : Own w1 (w.heap.size + 1) [.bool false, .int .i64 0, .int .i64 0, .int .i64 0, .int .i64 0, .int .i64 0, .int .i64 0] 25 := (own_at _ _ (by simp)).below hb
  have bel := belowTo (((Below.refl w.heap.size w).alloc (by simp) _).alloc (by simp) _) hb (by simp; omega)
  clear hb 
  obtain ⟨cS0, cS1, cS2, cS3, cS4, cS5, cS6, fS, zS⟩ := own7 oS
  obtain ⟨cR0, cR1, cR2, cR3, cR4, cR5, cR6, fR, zR⟩ := own7 oR
  go_wp2
  refine bodyPost_ret (v := .agg #[.bool false, .int .i64 l, .int .i64 h, .int .i64 a, .int .i64 k, .int .i64 src, .int .i64 he]) (by simp [results, Try.results16, go_sem, *]) rfl ⟨rfl, ?_⟩
  repeat (first | (with_reducible exact bel) | (with_reducible refine belowSet ?_ _ _ _ ?_) | (with_reducible refine Below.drew ?_) | (with_reducible refine belowN ?_) | (with_reducible refine Below.alloc ?_ ?_ _))
  all_goals (first | omega | (simp; omega) | (simp; done) | (have := bel.size; simp; omega))

set_option linter.unusedVariables false in
set_option maxRecDepth 100000 in
set_option maxHeartbeats 2000000 in
theorem tick_bad (l h a k src he n N E : Int) (w : World) (hb : bdN true l h a k src he n = N ∧ bdE true l h a k src he n = E) (hv : vldT true l h a k src he = false) :
    Calls Try.prog 16 #[.agg #[.bool true, .int .i64 l, .int .i64 h, .int .i64 a, .int .i64 k, .int .i64 src, .int .i64 he], .int .i64 n] w
      fun e w' => e = .returned (.agg #[.bool true, .int .i64 l, .int .i64 h, .int .i64 a, .int .i64 k, .int .i64 src, .int .i64 he]) ∧ Below w.heap.size w w' := by
  have Hhb := Lib.hid hb
  clear hb
  have Hhv := Lib.hid hv
  clear hv
  go_enter Try.func16, Try.ntmps16
  go_wp2_with fail
  refine (tbound_lit true l h a k src he n N E _ Hhb.out).mono ?_
  rintro e w1 ⟨rfl, hb⟩
  have oS : Own w1 w.heap.size [.bool true, .int .i64 l, .int .i64 h, .int .i64 a, .int .i64 k, .int .i64 src, .int .i64 he] 25 := ((own_at _ _ rfl).alloc _).below hb
  have oR : Own w1 (w.heap.size + 1) [.bool false, .int .i64 0, .int .i64 0, .int .i64 0, .int .i64 0, .int .i64 0, .int .i64 0] 25 := (own_at _ _ (by simp)).below hb
  have bel := belowTo (((Below.refl w.heap.size w).alloc (by simp) _).alloc (by simp) _) hb (by simp; omega)
  clear hb 
  obtain ⟨cS0, cS1, cS2, cS3, cS4, cS5, cS6, fS, zS⟩ := own7 oS
  obtain ⟨cR0, cR1, cR2, cR3, cR4, cR5, cR6, fR, zR⟩ := own7 oR
  go_wp2_with fail
  refine (tvalid_lit true l h a k src he false _ Hhv.out).mono ?_
  rintro e w2 ⟨rfl, hb⟩
  replace oS := oS.below hb
  replace oR := oR.below hb
  replace bel := belowTo bel hb (by exact bel.size)
  clear hb cS0 cS1 cS2 cS3 cS4 cS5 cS6 fS zS cR0 cR1 cR2 cR3 cR4 cR5 cR6 fR zR
  obtain ⟨cS0, cS1, cS2, cS3, cS4, cS5, cS6, fS, zS⟩ := own7 oS
  obtain ⟨cR0, cR1, cR2, cR3, cR4, cR5, cR6, fR, zR⟩ := own7 oR
  go_wp2
  refine bodyPost_ret (v := .agg #[.bool true, .int .i64 l, .int .i64 h, .int .i64 a, .int .i64 k, .int .i64 src, .int .i64 he]) (by simp [results, Try.results16, go_sem, *]) rfl ⟨rfl, ?_⟩
  repeat (first | (with_reducible exact bel) | (with_reducible refine belowSet ?_ _ _ _ ?_) | (with_reducible refine Below.drew ?_) | (with_reducible refine belowN ?_) | (with_reducible refine Below.alloc ?_ ?_ _))
  all_goals (first | omega | (simp; omega) | (simp; done) | (have := bel.size; simp; omega))

set_option linter.unusedVariables false in
set_option maxRecDepth 100000 in
set_option maxHeartbeats 2000000 in
theorem tick_kept (l h a k src he n N : Int) (w : World) (hb : bdN true l h a k src he n = N ∧ bdE true l h a k src he n = 0) (hv : vldT true l h a k src he = true) :
    Calls Try.prog 16 #[.agg #[.bool true, .int .i64 l, .int .i64 h, .int .i64 a, .int .i64 k, .int .i64 src, .int .i64 he], .int .i64 n] w
      fun e w' => e = .returned (.agg #[.bool true, .int .i64 l, .int .i64 h, .int .i64 a, .int .i64 k, .int .i64 src, .int .i64 he]) ∧ Below w.heap.size w w' := by
  have Hhb := Lib.hid hb
  clear hb
  have Hhv := Lib.hid hv
  clear hv
  go_enter Try.func16, Try.ntmps16
  go_wp2_with fail
  refine (tbound_lit true l h a k src he n N 0 _ Hhb.out).mono ?_
  rintro e w1 ⟨rfl, hb⟩
  have oS : Own w1 w.heap.size [.bool true, .int .i64 l, .int .i64 h, .int .i64 a, .int .i64 k, .int .i64 src, .int .i64 he] 25 := ((own_at _ _ rfl).alloc _).below hb
  have oR : Own w1 (w.heap.size + 1) [.bool false, .int .i64 0, .int .i64 0, .int .i64 0, .int .i64 0, .int .i64 0, .int .i64 0] 25 := (own_at _ _ (by simp)).below hb
  have bel := belowTo (((Below.refl w.heap.size w).alloc (by simp) _).alloc (by simp) _) hb (by simp; omega)
  clear hb 
  obtain ⟨cS0, cS1, cS2, cS3, cS4, cS5, cS6, fS, zS⟩ := own7 oS
  obtain ⟨cR0, cR1, cR2, cR3, cR4, cR5, cR6, fR, zR⟩ := own7 oR
  go_wp2_with fail
  refine (tvalid_lit true l h a k src he true _ Hhv.out).mono ?_
  rintro e w2 ⟨rfl, hb⟩
  replace oS := oS.below hb
  replace oR := oR.below hb
  replace bel := belowTo bel hb (by exact bel.size)
  clear hb cS0 cS1 cS2 cS3 cS4 cS5 cS6 fS zS cR0 cR1 cR2 cR3 cR4 cR5 cR6 fR zR
  obtain ⟨cS0, cS1, cS2, cS3, cS4, cS5, cS6, fS, zS⟩ := own7 oS
  obtain ⟨cR0, cR1, cR2, cR3, cR4, cR5, cR6, fR, zR⟩ := own7 oR
  go_wp2
  refine bodyPost_ret (v := .agg #[.bool true, .int .i64 l, .int .i64 h, .int .i64 a, .int .i64 k, .int .i64 src, .int .i64 he]) (by simp [results, Try.results16, go_sem, *]) rfl ⟨rfl, ?_⟩
  repeat (first | (with_reducible exact bel) | (with_reducible refine belowSet ?_ _ _ _ ?_) | (with_reducible refine Below.drew ?_) | (with_reducible refine belowN ?_) | (with_reducible refine Below.alloc ?_ ?_ _))
  all_goals (first | omega | (simp; omega) | (simp; done) | (have := bel.size; simp; omega))

set_option linter.unusedVariables false in
set_option maxRecDepth 100000 in
set_option maxHeartbeats 2000000 in
theorem tick_lost (l h a k src he n N E : Int) (w : World) (hb : bdN true l h a k src he n = N ∧ bdE true l h a k src he n = E) (hv : vldT true l h a k src he = true) (hE : (E == 0) = false) :
    Calls Try.prog 16 #[.agg #[.bool true, .int .i64 l, .int .i64 h, .int .i64 a, .int .i64 k, .int .i64 src, .int .i64 he], .int .i64 n] w
      fun e w' => e = .returned (.agg #[.bool false, .int .i64 0, .int .i64 0, .int .i64 0, .int .i64 60, .int .i64 (-1), .int .i64 0]) ∧ Below w.heap.size w w' := by
  have Hhb := Lib.hid hb
  clear hb
  have Hhv := Lib.hid hv
  clear hv
  go_enter Try.func16, Try.ntmps16
  go_wp2_with fail
  refine (tbound_lit true l h a k src he n N E _ Hhb.out).mono ?_
  rintro e w1 ⟨rfl, hb⟩
  have oS : Own w1 w.heap.size [.bool true, .int .i64 l, .int .i64 h, .int .i64 a, .int .i64 k, .int .i64 src, .int .i64 he] 25 := ((own_at _ _ rfl).alloc _).below hb
  have oR : Own w1 (w.heap.size + 1) [.bool false, .int .i64 0, .int .i64 0, .int .i64 0, .int .i64 0, .int .i64 0, .int .i64 0] 25 := (own_at _ _ (by simp)).below hb
  have bel := belowTo (((Below.refl w.heap.size w).alloc (by simp) _).alloc (by simp) _) hb (by simp; omega)
  clear hb 
  obtain ⟨cS0, cS1, cS2, cS3, cS4, cS5, cS6, fS, zS⟩ := own7 oS
  obtain ⟨cR0, cR1, cR2, cR3, cR4, cR5, cR6, fR, zR⟩ := own7 oR
  go_wp2_with fail
  refine (tvalid_lit true l h a k src he true _ Hhv.out).mono ?_
  rintro e w2 ⟨rfl, hb⟩
  replace oS := oS.below hb
  replace oR := oR.below hb
  replace bel := belowTo bel hb (by exact bel.size)
  clear hb cS0 cS1 cS2 cS3 cS4 cS5 cS6 fS zS cR0 cR1 cR2 cR3 cR4 cR5 cR6 fR zR
  obtain ⟨cS0, cS1, cS2, cS3, cS4, cS5, cS6, fS, zS⟩ := own7 oS
  obtain ⟨cR0, cR1, cR2, cR3, cR4, cR5, cR6, fR, zR⟩ := own7 oR
  go_wp2_with fail
  refine (start_any false _).mono ?_
  rintro e w3 ⟨rfl, hb⟩
  replace oS := oS.below hb
  replace oR := oR.below hb
  replace bel := belowTo bel hb (by exact bel.size)
  clear hb cS0 cS1 cS2 cS3 cS4 cS5 cS6 fS zS cR0 cR1 cR2 cR3 cR4 cR5 cR6 fR zR
  obtain ⟨cS0, cS1, cS2, cS3, cS4, cS5, cS6, fS, zS⟩ := own7 oS
  obtain ⟨cR0, cR1, cR2, cR3, cR4, cR5, cR6, fR, zR⟩ := own7 oR
  go_wp2
  refine bodyPost_ret (v := .agg #[.bool false, .int .i64 0, .int .i64 0, .int .i64 0, .int .i64 60, .int .i64 (-1), .int .i64 0]) (by simp [results, Try.results16, go_sem, *]) rfl ⟨rfl, ?_⟩
  repeat (first | (with_reducible exact bel) | (with_reducible refine belowSet ?_ _ _ _ ?_) | (with_reducible refine Below.drew ?_) | (with_reducible refine belowN ?_) | (with_reducible refine Below.alloc ?_ ?_ _))
  all_goals (first | omega | (simp; omega) | (simp; done) | (have := bel.size; simp; omega))

/-- A tick loses the time. -/
def tkL (sy : Bool) (l h a k src he n : Int) : Bool := sy && vldT sy l h a k src he && !(bdE sy l h a k src he n == 0)

theorem tick_same (sy : Bool) (l h a k src he n : Int) (w : World) (hk : tkL sy l h a k src he n = false) :
    Calls Try.prog 16 #[.agg #[.bool sy, .int .i64 l, .int .i64 h, .int .i64 a, .int .i64 k, .int .i64 src, .int .i64 he], .int .i64 n] w
      fun e w' => e = .returned (.agg #[.bool sy, .int .i64 l, .int .i64 h, .int .i64 a, .int .i64 k, .int .i64 src, .int .i64 he]) ∧ Below w.heap.size w w' := by
  cases sy with
  | false => exact tick_off l h a k src he n _ _ w ⟨rfl, rfl⟩ rfl
  | true =>
    cases hv : vldT true l h a k src he with
    | false => exact tick_bad l h a k src he n _ _ w ⟨rfl, rfl⟩ hv
    | true =>
      have : bdE true l h a k src he n = 0 := by simpa [tkL, hv] using hk
      exact tick_kept l h a k src he n _ w ⟨rfl, this⟩ hv

theorem tick_gone (sy : Bool) (l h a k src he n : Int) (w : World) (hk : tkL sy l h a k src he n = true) :
    Calls Try.prog 16 #[.agg #[.bool sy, .int .i64 l, .int .i64 h, .int .i64 a, .int .i64 k, .int .i64 src, .int .i64 he], .int .i64 n] w
      fun e w' => e = .returned (.agg #[.bool false, .int .i64 0, .int .i64 0, .int .i64 0, .int .i64 60, .int .i64 (-1), .int .i64 0]) ∧ Below w.heap.size w w' := by
  simp only [tkL, Bool.and_eq_true] at hk
  obtain ⟨⟨rfl, hv⟩, hE⟩ := hk
  exact tick_lost l h a k src he n _ _ w ⟨rfl, rfl⟩ hv (by simpa using hE)

end Go.Proofs.Ytfclodgfifbfbaa

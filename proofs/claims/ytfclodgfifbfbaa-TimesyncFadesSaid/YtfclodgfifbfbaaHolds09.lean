/- What the helper 'holds' of the statements of layer 9 returns. -/
import Derived.Test.YtfclodgfifbfbaaClockLit
import Derived.Test.YtfclodgfifbfbaaTrue08
import Derived.Test.YtfclodgfifbfbaaTime
namespace Go.Proofs.Ytfclodgfifbfbaa
open Go.RowKit

set_option linter.unusedVariables false in
set_option maxRecDepth 100000 in
set_option maxHeartbeats 4000000 in
theorem holds_no (sy : Bool) (l h a k src he o d t : Int) (w : World) (hs : shN o d t = 0 ∧ shE o d t = 1) :
    Calls Try.prog 26 #[.agg #[.bool sy, .int .i64 l, .int .i64 h, .int .i64 a, .int .i64 k, .int .i64 src, .int .i64 he], .agg #[.int .i64 o, .int .i64 d], .int .i64 t] w
      fun e w' => e = .returned (.bool false) ∧ Below w.heap.size w w' := by
  have Hhs := Lib.hid hs
  clear hs
  go_enter Try.func26, Try.ntmps26
  go_wp2_with fail
  refine (show_lit o d t 0 1 _ Hhs.out).mono ?_
  rintro e w1 ⟨rfl, hb⟩
  have oS : Own w1 w.heap.size [.bool sy, .int .i64 l, .int .i64 h, .int .i64 a, .int .i64 k, .int .i64 src, .int .i64 he] 25 := ((own_at _ _ rfl).alloc _).below hb
  have oC : Own w1 (w.heap.size + 1) [.int .i64 o, .int .i64 d] 47 := (own_at _ _ (by simp)).below hb
  have bel := belowTo (((Below.refl w.heap.size w).alloc (by simp) _).alloc (by simp) _) hb (by simp; omega)
  clear hb 
  obtain ⟨cS0, cS1, cS2, cS3, cS4, cS5, cS6, fS, zS⟩ := own7 oS
  obtain ⟨cC0, cC1, fC, zC⟩ := own2 oC
  go_wp2
  go_ret
  exact ⟨rfl, bel⟩

set_option linter.unusedVariables false in
set_option maxRecDepth 100000 in
set_option maxHeartbeats 4000000 in
theorem holds_yes (sy : Bool) (l h a k src he o d t A : Int) (r : Bool) (w : World) (hs : shN o d t = A ∧ shE o d t = 0) (b1 : 0 ≤ t) (b2 : t ≤ 10000000000000) (b3 : -30000000000000 ≤ A) (b4 : A ≤ 30000000000000) (hr : truB l h a t A = r) :
    Calls Try.prog 26 #[.agg #[.bool sy, .int .i64 l, .int .i64 h, .int .i64 a, .int .i64 k, .int .i64 src, .int .i64 he], .agg #[.int .i64 o, .int .i64 d], .int .i64 t] w
      fun e w' => e = .returned (.bool r) ∧ Below w.heap.size w w' := by
  have Hhs := Lib.hid hs
  clear hs
  have Hhr := Lib.hid hr
  clear hr
  go_enter Try.func26, Try.ntmps26
  go_wp2_with fail
  refine (show_lit o d t A 0 _ Hhs.out).mono ?_
  rintro e w1 ⟨rfl, hb⟩
  have oS : Own w1 w.heap.size [.bool sy, .int .i64 l, .int .i64 h, .int .i64 a, .int .i64 k, .int .i64 src, .int .i64 he] 25 := ((own_at _ _ rfl).alloc _).below hb
  have oC : Own w1 (w.heap.size + 1) [.int .i64 o, .int .i64 d] 47 := (own_at _ _ (by simp)).below hb
  have bel := belowTo (((Below.refl w.heap.size w).alloc (by simp) _).alloc (by simp) _) hb (by simp; omega)
  clear hb 
  obtain ⟨cS0, cS1, cS2, cS3, cS4, cS5, cS6, fS, zS⟩ := own7 oS
  obtain ⟨cC0, cC1, fC, zC⟩ := own2 oC
  go_wp2_with fail
  refine (true_lit l h a t A r _ (by omega) (by omega) (by omega) (by omega) Hhr.out).mono ?_
  rintro e w2 ⟨rfl, hb⟩
  replace oS := oS.below hb
  replace oC := oC.below hb
  replace bel := belowTo bel hb (by exact bel.size)
  clear hb cS0 cS1 cS2 cS3 cS4 cS5 cS6 fS zS cC0 cC1 fC zC
  obtain ⟨cS0, cS1, cS2, cS3, cS4, cS5, cS6, fS, zS⟩ := own7 oS
  obtain ⟨cC0, cC1, fC, zC⟩ := own2 oC
  go_wp2
  go_ret
  exact ⟨rfl, bel⟩

/-- The span is true for the clock at the true time. -/
def hoB (l h a o d t : Int) : Bool := okS o d t && truB l h a t (atI o d t)
theorem holds_lit (sy : Bool) (l h a k src he o d t : Int) (r : Bool) (w : World) (hr : hoB l h a o d t = r) :
    Calls Try.prog 26 #[.agg #[.bool sy, .int .i64 l, .int .i64 h, .int .i64 a, .int .i64 k, .int .i64 src, .int .i64 he], .agg #[.int .i64 o, .int .i64 d], .int .i64 t] w
      fun e w' => e = .returned (.bool r) ∧ Below w.heap.size w w' := by
  subst hr
  cases q : okS o d t with
  | false =>
    obtain ⟨e1, e2⟩ := sh_no q
    rw [show hoB l h a o d t = false from by simp [hoB, q]]
    exact holds_no sy l h a k src he o d t w ⟨e2, e1⟩
  | true =>
    obtain ⟨e1, e2⟩ := sh_yes q
    obtain ⟨⟨v1, v2, v3, v4⟩, b1, b2⟩ := okS_iff.1 q
    have hb := at_bd (o := o) (d := d) v1 v2 v3 v4 (show -1 ≤ t by omega) (by omega)
    rw [show hoB l h a o d t = truB l h a t (atI o d t) from by simp [hoB, q]]
    exact holds_yes sy l h a k src he o d t _ _ w ⟨e2, e1⟩ b1 b2 (by omega) (by omega) rfl

end Go.Proofs.Ytfclodgfifbfbaa

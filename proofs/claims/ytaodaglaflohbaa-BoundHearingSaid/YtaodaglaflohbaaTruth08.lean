/- What the helper of the bound's laws returns that makes a true span. -/
import Derived.Test.YtaodaglaflohbaaClockLit
import Derived.Test.YtaodaglaflohbaaLaw08
import Derived.Test.YtaodaglaflohbaaRef08
import Derived.Test.YtaodaglaflohbaaTup
namespace Go.Proofs.Ytaodaglaflohbaa
open Go.RowKit

set_option maxRecDepth 100000 in
set_option maxHeartbeats 2000000 in
theorem truth_ok (o d t le mo A : Int) (r : Bool) (w : World) (hs : shN o d t = A ∧ shE o d t = 0) (b1 : 0 ≤ t) (b2 : t ≤ 10000000000000) (b3 : -2000000000 ≤ A) (b4 : A ≤ 20000000000000)
    (u1 : 0 ≤ le) (u2 : le ≤ 4294967295) (u3 : 0 ≤ mo) (u4 : mo ≤ 4294967295) (hv : vldS (t - A - le) (t - A + mo) A = r) :
    Calls Try.prog 24 #[.agg #[.int .i64 o, .int .i64 d], .int .i64 t, .int .u32 le, .int .u32 mo] w
      fun e w' => e = .returned (.tuple #[.agg #[.int .i64 (t - A - le), .int .i64 (t - A + mo), .int .i64 A], .bool r]) ∧ Below w.heap.size w w' := by
  have HV := Lib.hid hv
  clear hv
  go_enter Try.func24, Try.ntmps24
  go_wp2_with fail
  refine (show_lit o d t A 0 _ hs).mono ?_
  rintro e w1 ⟨rfl, hb⟩
  have oR : Own w1 (w.heap.size + 1) [.int .i64 0, .int .i64 0, .int .i64 0] 23 := (own_at _ _ (by simp)).below hb
  have bel := belowTo ((belowNew w _).alloc (by simp) _) hb (by simp; omega)
  clear hb
  obtain ⟨cR0, cR1, cR2, fR, zR⟩ := own3 oR
  go_wp2_with fail
  have oS : Own (w1.alloc (Obj.cells #[Value.int IntKind.i64 (t - A - le), Value.int IntKind.i64 (t - A + mo), Value.int IntKind.i64 A] 23)) w1.heap.size [.int .i64 (t - A - le), .int .i64 (t - A + mo), .int .i64 A] 23 := own_at _ _ rfl
  replace oR := oR.alloc (Obj.cells #[Value.int IntKind.i64 (t - A - le), Value.int IntKind.i64 (t - A + mo), Value.int IntKind.i64 A] 23)
  replace bel := bel.alloc bel.size (Obj.cells #[Value.int IntKind.i64 (t - A - le), Value.int IntKind.i64 (t - A + mo), Value.int IntKind.i64 A] 23)
  clear cR0 cR1 cR2 fR zR
  generalize w1.alloc (Obj.cells #[Value.int IntKind.i64 (t - A - le), Value.int IntKind.i64 (t - A + mo), Value.int IntKind.i64 A] 23) = wz at oR oS bel ⊢
  obtain ⟨cR0, cR1, cR2, fR, zR⟩ := own3 oR
  obtain ⟨cS0, cS1, cS2, fS, zS⟩ := own3 oS
  go_region_with (go_at_call 19; refine (rsvalid_lit _ _ _ r _ HV.out).mono ?_; rintro e w3 ⟨rfl, hb⟩; have oR3 := oR.drew.below hb; have oS3 := oS.drew.below hb; obtain ⟨dR0, dR1, dR2, gR, yR⟩ := own3 oR3; obtain ⟨dS0, dS1, dS2, gS, yS⟩ := own3 oS3; replace bel := belowTo bel.drew hb bel.drew.size)
  all_goals
    go_wp2
    exact bodyPost_ret (v := .tuple #[.agg #[.int .i64 (t - A - le), .int .i64 (t - A + mo), .int .i64 A], .bool r]) (by simp [results, Try.results24, go_sem, *]) rfl
      ⟨rfl, ((bel.setCell (by simp) _).setCell (by simp) _).setCell (by simp) _⟩

set_option maxRecDepth 100000 in
set_option maxHeartbeats 2000000 in
theorem truth_no (o d t le mo : Int) (w : World) (hs : shN o d t = 0 ∧ shE o d t = 1) (b1 : 0 ≤ t) (b2 : t ≤ 10000000000000)
    (u1 : 0 ≤ le) (u2 : le ≤ 4294967295) (u3 : 0 ≤ mo) (u4 : mo ≤ 4294967295) :
    Calls Try.prog 24 #[.agg #[.int .i64 o, .int .i64 d], .int .i64 t, .int .u32 le, .int .u32 mo] w
      fun e w' => e = .returned (.tuple #[.agg #[.int .i64 (t - le), .int .i64 (t + mo), .int .i64 0], .bool false]) ∧ Below w.heap.size w w' := by
  go_enter Try.func24, Try.ntmps24
  go_wp2_with fail
  refine (show_lit o d t 0 1 _ hs).mono ?_
  rintro e w1 ⟨rfl, hb⟩
  have oR : Own w1 (w.heap.size + 1) [.int .i64 0, .int .i64 0, .int .i64 0] 23 := (own_at _ _ (by simp)).below hb
  have bel := belowTo ((belowNew w _).alloc (by simp) _) hb (by simp; omega)
  clear hb
  obtain ⟨cR0, cR1, cR2, fR, zR⟩ := own3 oR
  go_wp2_with fail
  have oS : Own (w1.alloc (Obj.cells #[Value.int IntKind.i64 (t - le), Value.int IntKind.i64 (t + mo), Value.int IntKind.i64 0] 23)) w1.heap.size [.int .i64 (t - le), .int .i64 (t + mo), .int .i64 0] 23 := own_at _ _ rfl
  replace oR := oR.alloc (Obj.cells #[Value.int IntKind.i64 (t - le), Value.int IntKind.i64 (t + mo), Value.int IntKind.i64 0] 23)
  replace bel := bel.alloc bel.size (Obj.cells #[Value.int IntKind.i64 (t - le), Value.int IntKind.i64 (t + mo), Value.int IntKind.i64 0] 23)
  clear cR0 cR1 cR2 fR zR
  generalize w1.alloc (Obj.cells #[Value.int IntKind.i64 (t - le), Value.int IntKind.i64 (t + mo), Value.int IntKind.i64 0] 23) = wz at oR oS bel ⊢
  obtain ⟨cR0, cR1, cR2, fR, zR⟩ := own3 oR
  obtain ⟨cS0, cS1, cS2, fS, zS⟩ := own3 oS
  go_region_with fail
  all_goals
    go_wp2
    exact bodyPost_ret (v := .tuple #[.agg #[.int .i64 (t - le), .int .i64 (t + mo), .int .i64 0], .bool false]) (by simp [results, Try.results24, go_sem, *]) rfl
      ⟨rfl, ((bel.drew.setCell (by simp) _).setCell (by simp) _).setCell (by simp) _⟩

end Go.Proofs.Ytaodaglaflohbaa

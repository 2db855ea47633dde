/- BoundWidths: the walk of the law. It returns true for every input, and leaves old memory alone. -/
import Derived.Test.YtaodaglaflohbaaHead08
import Derived.IntWalk
namespace Go.Proofs.Ytaodaglaflohbaa
open Go.RowKit
set_option linter.unusedVariables false

set_option maxHeartbeats 2000000 in
theorem boundWidths_no (l h a n E : Int) (w : World) (e0 : (E == 0) = false) (h1 : grL l h a n = 0 ∧ grH l h a n = 0 ∧ grA l h a n = 0 ∧ grE l h a n = E) :
    Calls Try.prog 6 #[.agg #[.int .i64 l, .int .i64 h, .int .i64 a], .int .i64 n] w fun e w' => e = .returned (.bool true) ∧ Below w.heap.size w w' := by
  go_enter Try.func6, Try.ntmps6
  go_wp2_with fail
  refine (head_any _).mono ?_
  rintro e w1 ⟨rfl, hb⟩
  have oS : Own w1 w.heap.size [.int .i64 l, .int .i64 h, .int .i64 a] 23 := (own_at _ _ rfl).below hb
  have bel := belowTo ((Below.refl w.heap.size w).alloc (by simp) _) hb (by simp)
  clear hb 
  obtain ⟨cS0, cS1, cS2, fS, zS⟩ := own3 oS
  go_wp2_with fail
  refine (bgrow_lit l h a n 0 0 0 E _ h1).mono ?_
  rintro e w2 ⟨rfl, hb⟩
  replace oS := oS.below hb
  replace bel := belowTo bel hb (by exact bel.size)
  clear hb cS0 cS1 cS2 fS zS
  obtain ⟨cS0, cS1, cS2, fS, zS⟩ := own3 oS
  go_wp2_with fail
  refine (bwidth_lit 0 0 0 0 _ (by decide +kernel)).mono ?_
  rintro e w3 ⟨rfl, hb⟩
  replace oS := (oS.alloc _).below hb
  replace bel := belowTo (bel.alloc (by have := bel.size; simp; omega) _) hb (by have := bel.size; simp; omega)
  clear hb cS0 cS1 cS2 fS zS
  obtain ⟨cS0, cS1, cS2, fS, zS⟩ := own3 oS
  go_wp2
  go_ret
  exact ⟨rfl, bel⟩

set_option maxHeartbeats 4000000 in
theorem boundWidths_ok (l h a n L H : Int) (w : World) (h1 : grL l h a n = L ∧ grH l h a n = H ∧ grA l h a n = n ∧ grE l h a n = 0) (W1 : widS L H n = H - L) (W2 : widS l h a = h - l)
    (b1 : -20000000000000 ≤ l) (b2 : h ≤ 20000000000000) (b3 : -20000000000000 ≤ L) (b4 : H ≤ 20000000000000) (b5 : l ≤ h) (b6 : -2000000000 ≤ a) (b7 : a ≤ n) (b8 : n ≤ 20000000000000)
    (k2 : 1 ≤ l - L) (k3 : H - h = l - L) (k4 : 51 * (n - a) ≤ (l - L - 1) * 1000000) (k5 : (l - L - 2) * 1000000 < 51 * (n - a)) :
    Calls Try.prog 6 #[.agg #[.int .i64 l, .int .i64 h, .int .i64 a], .int .i64 n] w fun e w' => e = .returned (.bool true) ∧ Below w.heap.size w w' := by
  go_enter Try.func6, Try.ntmps6
  go_wp2_with fail
  refine (head_any _).mono ?_
  rintro e w1 ⟨rfl, hb⟩
  have oS : Own w1 w.heap.size [.int .i64 l, .int .i64 h, .int .i64 a] 23 := (own_at _ _ rfl).below hb
  have bel := belowTo ((Below.refl w.heap.size w).alloc (by simp) _) hb (by simp)
  clear hb 
  obtain ⟨cS0, cS1, cS2, fS, zS⟩ := own3 oS
  go_wp2_with fail
  refine (bgrow_lit l h a n L H n 0 _ h1).mono ?_
  rintro e w2 ⟨rfl, hb⟩
  replace oS := oS.below hb
  replace bel := belowTo bel hb (by exact bel.size)
  clear hb cS0 cS1 cS2 fS zS
  obtain ⟨cS0, cS1, cS2, fS, zS⟩ := own3 oS
  go_wp2_with fail
  have oX : Own (w2.alloc (Obj.cells #[Value.int IntKind.i64 L, Value.int IntKind.i64 H, Value.int IntKind.i64 n] 23)) w2.heap.size [.int .i64 L, .int .i64 H, .int .i64 n] 23 := own_at _ _ rfl
  replace oS := oS.alloc (Obj.cells #[Value.int IntKind.i64 L, Value.int IntKind.i64 H, Value.int IntKind.i64 n] 23)
  replace bel := bel.alloc bel.size (Obj.cells #[Value.int IntKind.i64 L, Value.int IntKind.i64 H, Value.int IntKind.i64 n] 23)
  generalize w2.alloc (Obj.cells #[Value.int IntKind.i64 L, Value.int IntKind.i64 H, Value.int IntKind.i64 n] 23) = wz at oS oX bel ⊢
  clear cS0 cS1 cS2 fS zS
  have pS0 := fun x : Past wz => (oS.past x).cell (i := 0) rfl
  have pS1 := fun x : Past wz => (oS.past x).cell (i := 1) rfl
  have pS2 := fun x : Past wz => (oS.past x).cell (i := 2) rfl
  have pX0 := fun x : Past wz => (oX.past x).cell (i := 0) rfl
  have pX1 := fun x : Past wz => (oX.past x).cell (i := 1) rfl
  have pX2 := fun x : Past wz => (oX.past x).cell (i := 2) rfl
  have e1 : IntKind.i64.wrap (2 * (l - L)) = 2 * (l - L) := IntWalk.i64_in _ (by omega)
  have e2 : IntKind.i64.wrap (h - l + 2 * (l - L)) = H - L := (IntWalk.i64_in _ (by omega)).trans (by omega)
  have e3 : IntKind.i64.wrap (l - L - 1) = l - L - 1 := IntWalk.i64_in _ (by omega)
  have e4 : IntKind.i64.wrap ((l - L - 1) * 1000000) = (l - L - 1) * 1000000 := IntWalk.i64_in _ (by omega)
  have e5 : IntKind.i64.wrap (51 * (n - a)) = 51 * (n - a) := IntWalk.i64_in _ (by omega)
  have e6 : IntKind.i64.wrap (l - L - 2) = l - L - 2 := IntWalk.i64_in _ (by omega)
  have e7 : IntKind.i64.wrap ((l - L - 2) * 1000000) = (l - L - 2) * 1000000 := IntWalk.i64_in _ (by omega)
  refine wp_region_past (by kernel_rfl) (by kernel_rfl) ?_
  repeat (go_big_quiet_step ((first | (go_at_call_of 20 L; exact calls_past (bwidth_lit L H n (H - L) _ W1)) | (go_at_call_of 20 l; exact calls_past (bwidth_lit l h a (h - l) _ W2)))))
  refine wpQuiet_nil ?_
  rintro _ ⟨x, rfl⟩
  have bel2 := bel.trans (x.h.mono bel.size)
  go_wp2
  go_ret
  exact ⟨by first | rfl | (simp; done) | (simp; omega), bel2⟩

theorem boundWidths_walk (l h a n : Int) (w : World) (_1 : IntKind.i64.has l) (_2 : IntKind.i64.has h) (_3 : IntKind.i64.has a) (_4 : IntKind.i64.has n) :
    Calls Try.prog 6 #[.agg #[.int .i64 l, .int .i64 h, .int .i64 a], .int .i64 n] w fun e w' => e = .returned (.bool true) ∧ Below w.heap.size w w' := by
  by_cases e1 : grE l h a n = 0
  · obtain ⟨ka, kr, f1, f2, f3⟩ := gr_zero e1
    obtain ⟨u1, u2, u3⟩ := okA_iff.1 ka
    unfold okR at kr
    have u1' := vldS_iff.1 u1
    have kr' := vldS_iff.1 kr
    refine boundWidths_ok l h a n _ _ w ⟨f1, f2, f3, e1⟩ ?_ ?_ ?_ ?_ ?_ ?_ ?_ ?_ ?_ ?_ ?_ ?_ ?_ ?_
    · simp only [widS, kr, if_true]
    · simp only [widS, u1, if_true]
    all_goals (unfold gm at *; omega)
  · obtain ⟨f1, f2, f3⟩ := gr_err e1
    exact boundWidths_no l h a n _ w (by simpa using e1) ⟨f1, f2, f3, rfl⟩

end Go.Proofs.Ytaodaglaflohbaa

/- The contracts of the reference's functions of layer 9: Valid, Root, Hint, Takes, Half, Start, Bound, Tick. -/
import Derived.Test.YtfclodgfifbfbaaPlain09
import Derived.Test.YtfclodgfifbfbaaRef08b
import Derived.Test.YtfclodgfifbfbaaTime2
namespace Go.Proofs.Ytfclodgfifbfbaa
open Go.RowKit

set_option linter.unusedVariables false in
set_option maxRecDepth 100000 in
set_option maxHeartbeats 2000000 in
theorem rtvalid_out (sy : Bool) (l h a k src he : Int) (w : World) (hn : okN src he = false) :
    Calls Try.prog 20 #[.agg #[.bool sy, .int .i64 l, .int .i64 h, .int .i64 a, .int .i64 k, .int .i64 src, .int .i64 he]] w
      fun e w' => e = .returned (.bool false) ∧ Below w.heap.size w w' := by
  have hc : src < -1 ∨ (-1 ≤ src ∧ 60 ≤ src) ∨ (-1 ≤ src ∧ src < 60 ∧ he < 0) ∨ (-1 ≤ src ∧ src < 60 ∧ 0 ≤ he ∧ 1000000000 < he) := by
    rw [okN_no] at hn; omega
  clear hn
  rcases hc with h1 | ⟨h1, h2⟩ | ⟨h1, h2, h3⟩ | ⟨h1, h2, h3, h4⟩
  all_goals
    go_enter Try.func20, Try.ntmps20
    go_wp2
    go_ret
    exact ⟨rfl, belowNew w _⟩

set_option linter.unusedVariables false in
set_option maxRecDepth 100000 in
set_option maxHeartbeats 2000000 in
theorem rtvalid_off (l h a k src he : Int) (r : Bool) (w : World) (h1 : -1 ≤ src) (h2 : src < 60) (h3 : 0 ≤ he) (h4 : he ≤ 1000000000) (hr : (k == 60) = r) :
    Calls Try.prog 20 #[.agg #[.bool false, .int .i64 l, .int .i64 h, .int .i64 a, .int .i64 k, .int .i64 src, .int .i64 he]] w
      fun e w' => e = .returned (.bool r) ∧ Below w.heap.size w w' := by
  cases r
  all_goals
    go_enter Try.func20, Try.ntmps20
    go_wp2
    all_goals (go_ret; exact ⟨by simp_all, belowNew w _⟩)

set_option linter.unusedVariables false in
set_option maxRecDepth 100000 in
set_option maxHeartbeats 2000000 in
theorem rtvalid_root (l h a k src he : Int) (w : World) (h1 : -1 ≤ src) (h2 : src < 60) (h3 : 0 ≤ he) (h4 : he ≤ 1000000000) (hr : (k == 0) = true) :
    Calls Try.prog 20 #[.agg #[.bool true, .int .i64 l, .int .i64 h, .int .i64 a, .int .i64 k, .int .i64 src, .int .i64 he]] w
      fun e w' => e = .returned (.bool true) ∧ Below w.heap.size w w' := by
  go_enter Try.func20, Try.ntmps20
  go_wp2
  go_ret
  exact ⟨rfl, belowNew w _⟩

set_option linter.unusedVariables false in
set_option maxRecDepth 100000 in
set_option maxHeartbeats 2000000 in
theorem rtvalid_on (l h a k src he : Int) (r : Bool) (w : World) (h1 : -1 ≤ src) (h2 : src < 60) (h3 : 0 ≤ he) (h4 : he ≤ 1000000000) (hk : (k == 0) = false) (h5 : 1 ≤ k) (h6 : k ≤ 60) (hr : vldS l h a = r) :
    Calls Try.prog 20 #[.agg #[.bool true, .int .i64 l, .int .i64 h, .int .i64 a, .int .i64 k, .int .i64 src, .int .i64 he]] w
      fun e w' => e = .returned (.bool r) ∧ Below w.heap.size w w' := by
  have Hhr := Lib.hid hr
  clear hr
  go_enter Try.func20, Try.ntmps20
  go_wp2_with fail
  refine (rsvalid_lit l h a r _ Hhr.out).mono ?_
  rintro e w2 ⟨rfl, hb⟩
  have bel := belowTo (belowNew w _) hb (by simp)
  go_wp2
  all_goals (go_ret; exact ⟨by simp_all, bel⟩)

set_option linter.unusedVariables false in
set_option maxRecDepth 100000 in
set_option maxHeartbeats 2000000 in
theorem rtvalid_far (l h a k src he : Int) (w : World) (h1 : -1 ≤ src) (h2 : src < 60) (h3 : 0 ≤ he) (h4 : he ≤ 1000000000) (hk : (k == 0) = false) (h5 : k < 1 ∨ (1 ≤ k ∧ 60 < k)) :
    Calls Try.prog 20 #[.agg #[.bool true, .int .i64 l, .int .i64 h, .int .i64 a, .int .i64 k, .int .i64 src, .int .i64 he]] w
      fun e w' => e = .returned (.bool false) ∧ Below w.heap.size w w' := by
  rcases h5 with h5 | ⟨h5, h6⟩
  all_goals
    go_enter Try.func20, Try.ntmps20
    go_wp2
    go_ret
    exact ⟨rfl, belowNew w _⟩

theorem rtvalid_lit (sy : Bool) (l h a k src he : Int) (r : Bool) (w : World) (hr : vldT sy l h a k src he = r) :
    Calls Try.prog 20 #[.agg #[.bool sy, .int .i64 l, .int .i64 h, .int .i64 a, .int .i64 k, .int .i64 src, .int .i64 he]] w
      fun e w' => e = .returned (.bool r) ∧ Below w.heap.size w w' := by
  subst hr
  cases hn : okN src he with
  | false =>
    rw [show vldT sy l h a k src he = false from by simp [vldT, hn]]
    exact rtvalid_out sy l h a k src he w hn
  | true =>
    obtain ⟨h1, h2, h3, h4⟩ := okN_iff.1 hn
    cases sy with
    | false =>
      rw [show vldT false l h a k src he = (k == 60) from by simp [vldT, hn]]
      exact rtvalid_off l h a k src he _ w h1 h2 h3 h4 rfl
    | true =>
      cases hk : (k == 0) with
      | true =>
        rw [show vldT true l h a k src he = true from by simp [vldT, hn, hk]]
        exact rtvalid_root l h a k src he w h1 h2 h3 h4 hk
      | false =>
        by_cases h5 : 1 ≤ k ∧ k ≤ 60
        · rw [show vldT true l h a k src he = vldS l h a from by simp [vldT, hn, hk, h5]]
          exact rtvalid_on l h a k src he _ w h1 h2 h3 h4 hk h5.1 h5.2 rfl
        · rw [show vldT true l h a k src he = false from by simp [vldT, hn, hk, h5]]
          exact rtvalid_far l h a k src he w h1 h2 h3 h4 hk (by omega)

set_option maxHeartbeats 1000000 in
theorem rroot_lit (sy : Bool) (l h a k src he : Int) (r : Bool) (w : World) (hr : (sy && (k == 0)) = r) :
    Calls Try.prog 21 #[.agg #[.bool sy, .int .i64 l, .int .i64 h, .int .i64 a, .int .i64 k, .int .i64 src, .int .i64 he]] w
      fun e w' => e = .returned (.bool r) ∧ Below w.heap.size w w' := by
  subst hr
  cases sy
  all_goals
    go_enter Try.func21, Try.ntmps21
    go_wp2
    all_goals (go_ret; exact ⟨by simp_all, belowNew w _⟩)

set_option linter.unusedVariables false in
set_option maxRecDepth 100000 in
set_option maxHeartbeats 2000000 in
theorem rthint_lit (f p b s c : Int) (r : Bool) (w : World) (hr : (vldH s b c && decide (0 ≤ f ∧ f < 60 ∧ 0 ≤ p ∧ p < 60)) = r) :
    Calls Try.prog 25 #[.agg #[.int .i64 f, .int .i64 p, .int .i64 b, .int .i64 s, .int .i64 c]] w
      fun e w' => e = .returned (.bool r) ∧ Below w.heap.size w w' := by
  subst hr
  cases hv : vldH s b c with
  | false =>
    have HV := Lib.hid hv
    clear hv
    go_enter Try.func25, Try.ntmps25
    go_wp2_with fail
    refine (rhint_lit f p b s c false _ HV.out).mono ?_
    rintro e w1 ⟨rfl, hb⟩
    go_wp2
    go_ret
    exact ⟨by simp, belowTo (belowNew w _) hb (by simp)⟩
  | true =>
    have HV := Lib.hid hv
    clear hv
    go_enter Try.func25, Try.ntmps25
    go_wp2_with fail
    refine (rhint_lit f p b s c true _ HV.out).mono ?_
    rintro e w1 ⟨rfl, hb⟩
    have oH : Own w1 w.heap.size [.int .i64 f, .int .i64 p, .int .i64 b, .int .i64 s, .int .i64 c] 27 := (own_at _ _ rfl).below hb
    have bel := belowTo (belowNew w _) hb (by simp)
    clear hb
    obtain ⟨cH0, cH1, cH2, cH3, cH4, fH, zH⟩ := own5t oH
    go_wp2
    all_goals (go_ret; refine ⟨ret_bool ?_, bel⟩; first | (simp; omega) | (simp; done) | (simp_all; done) | (simp_all; omega))

set_option linter.unusedVariables false in
set_option maxRecDepth 100000 in
set_option maxHeartbeats 2000000 in
theorem rtakes_false_false (l h a k src he f p b s c : Int) (r : Bool) (w : World) (hq : (false && (k == 0)) = false) (hr : tkB false k src f p = r) :
    Calls Try.prog 27 #[.agg #[.bool false, .int .i64 l, .int .i64 h, .int .i64 a, .int .i64 k, .int .i64 src, .int .i64 he], .agg #[.int .i64 f, .int .i64 p, .int .i64 b, .int .i64 s, .int .i64 c]] w
      fun e w' => e = .returned (.bool r) ∧ Below w.heap.size w w' := by
  obtain rfl : true = r := by rw [← hr]; simp [tkB]
  clear hr
  have Hhq := Lib.hid hq
  clear hq
  go_enter Try.func27, Try.ntmps27
  go_wp2_with fail
  refine (rroot_lit false l h a k src he false _ Hhq.out).mono ?_
  rintro e w1 ⟨rfl, hb⟩
  have oS : Own w1 w.heap.size [.bool false, .int .i64 l, .int .i64 h, .int .i64 a, .int .i64 k, .int .i64 src, .int .i64 he] 25 := ((own_at _ _ rfl).alloc _).below hb
  have oH : Own w1 (w.heap.size + 1) [.int .i64 f, .int .i64 p, .int .i64 b, .int .i64 s, .int .i64 c] 27 := (own_at _ _ (by simp)).below hb
  have bel := belowTo (((Below.refl w.heap.size w).alloc (by simp) _).alloc (by simp) _) hb (by simp; omega)
  clear hb 
  obtain ⟨cS0, cS1, cS2, cS3, cS4, cS5, cS6, fS, zS⟩ := own7 oS
  obtain ⟨cH0, cH1, cH2, cH3, cH4, fH, zH⟩ := own5t oH
  go_wp2
  all_goals (go_ret; exact ⟨by first | rfl | simp_all, bel⟩)

set_option linter.unusedVariables false in
set_option maxRecDepth 100000 in
set_option maxHeartbeats 2000000 in
theorem rtakes_true_true (l h a k src he f p b s c : Int) (r : Bool) (w : World) (hq : (true && (k == 0)) = true) (hr : tkB true k src f p = r) :
    Calls Try.prog 27 #[.agg #[.bool true, .int .i64 l, .int .i64 h, .int .i64 a, .int .i64 k, .int .i64 src, .int .i64 he], .agg #[.int .i64 f, .int .i64 p, .int .i64 b, .int .i64 s, .int .i64 c]] w
      fun e w' => e = .returned (.bool r) ∧ Below w.heap.size w w' := by
  obtain rfl : false = r := by rw [← hr]; simp_all [tkB]
  clear hr
  have Hhq := Lib.hid hq
  clear hq
  go_enter Try.func27, Try.ntmps27
  go_wp2_with fail
  refine (rroot_lit true l h a k src he true _ Hhq.out).mono ?_
  rintro e w1 ⟨rfl, hb⟩
  have oS : Own w1 w.heap.size [.bool true, .int .i64 l, .int .i64 h, .int .i64 a, .int .i64 k, .int .i64 src, .int .i64 he] 25 := ((own_at _ _ rfl).alloc _).below hb
  have oH : Own w1 (w.heap.size + 1) [.int .i64 f, .int .i64 p, .int .i64 b, .int .i64 s, .int .i64 c] 27 := (own_at _ _ (by simp)).below hb
  have bel := belowTo (((Below.refl w.heap.size w).alloc (by simp) _).alloc (by simp) _) hb (by simp; omega)
  clear hb 
  obtain ⟨cS0, cS1, cS2, cS3, cS4, cS5, cS6, fS, zS⟩ := own7 oS
  obtain ⟨cH0, cH1, cH2, cH3, cH4, fH, zH⟩ := own5t oH
  go_wp2
  all_goals (go_ret; exact ⟨by first | rfl | simp_all, bel⟩)

set_option linter.unusedVariables false in
set_option maxRecDepth 100000 in
set_option maxHeartbeats 2000000 in
theorem rtakes_true_false (l h a k src he f p b s c : Int) (r : Bool) (w : World) (hq : (true && (k == 0)) = false) (hr : tkB true k src f p = r) :
    Calls Try.prog 27 #[.agg #[.bool true, .int .i64 l, .int .i64 h, .int .i64 a, .int .i64 k, .int .i64 src, .int .i64 he], .agg #[.int .i64 f, .int .i64 p, .int .i64 b, .int .i64 s, .int .i64 c]] w
      fun e w' => e = .returned (.bool r) ∧ Below w.heap.size w w' := by
  have hk0 : (k == 0) = false := by simpa using hq
  obtain rfl : (decide (p < k) || (f == src)) = r := by rw [← hr]; simp [tkB, hk0]
  clear hr hk0
  have Hhq := Lib.hid hq
  clear hq
  go_enter Try.func27, Try.ntmps27
  go_wp2_with fail
  refine (rroot_lit true l h a k src he false _ Hhq.out).mono ?_
  rintro e w1 ⟨rfl, hb⟩
  have oS : Own w1 w.heap.size [.bool true, .int .i64 l, .int .i64 h, .int .i64 a, .int .i64 k, .int .i64 src, .int .i64 he] 25 := ((own_at _ _ rfl).alloc _).below hb
  have oH : Own w1 (w.heap.size + 1) [.int .i64 f, .int .i64 p, .int .i64 b, .int .i64 s, .int .i64 c] 27 := (own_at _ _ (by simp)).below hb
  have bel := belowTo (((Below.refl w.heap.size w).alloc (by simp) _).alloc (by simp) _) hb (by simp; omega)
  clear hb 
  obtain ⟨cS0, cS1, cS2, cS3, cS4, cS5, cS6, fS, zS⟩ := own7 oS
  obtain ⟨cH0, cH1, cH2, cH3, cH4, fH, zH⟩ := own5t oH
  go_wp2
  all_goals (go_ret; exact ⟨by first | rfl | simp_all, bel⟩)

theorem rtakes_lit (sy : Bool) (l h a k src he f p b s c : Int) (r : Bool) (w : World) (hr : tkB sy k src f p = r) :
    Calls Try.prog 27 #[.agg #[.bool sy, .int .i64 l, .int .i64 h, .int .i64 a, .int .i64 k, .int .i64 src, .int .i64 he], .agg #[.int .i64 f, .int .i64 p, .int .i64 b, .int .i64 s, .int .i64 c]] w
      fun e w' => e = .returned (.bool r) ∧ Below w.heap.size w w' := by
  cases sy with
  | false => exact rtakes_false_false l h a k src he f p b s c r w (by simp) hr
  | true =>
    cases hk : (k == 0) with
    | true => exact rtakes_true_true l h a k src he f p b s c r w (by simp [hk]) hr
    | false => exact rtakes_true_false l h a k src he f p b s c r w (by simp [hk]) hr


set_option maxHeartbeats 400000 in
theorem rhalf_lit (l h a x : Int) (w : World) (b1 : -30000000000000 ≤ l) (b2 : l ≤ 30000000000000) (b3 : -30000000000000 ≤ h) (b4 : h ≤ 30000000000000) (b5 : l ≤ h) (hx : (h - l + 1) / 2 = x) :
    Calls Try.prog 37 #[.agg #[.int .i64 l, .int .i64 h, .int .i64 a]] w
      fun e w' => e = .returned (.int .i64 x) ∧ Below w.heap.size w w' := by
  subst hx
  go_enter Try.func37, Try.ntmps37
  go_wp2
  go_ret
  exact ⟨rfl, belowNew w _⟩

set_option maxHeartbeats 1000000 in
theorem rstart_any (root : Bool) (w : World) :
    Calls Try.prog 19 #[.bool root] w
      fun e w' => e = .returned (.agg #[.bool root, .int .i64 0, .int .i64 0, .int .i64 0, .int .i64 (if root = true then 0 else 60), .int .i64 (-1), .int .i64 0]) ∧ Below w.heap.size w w' := by
  cases root
  · go_enter Try.func19, Try.ntmps19
    go_wp2
    refine bodyPost_ret (v := .agg #[.bool false, .int .i64 0, .int .i64 0, .int .i64 0, .int .i64 60, .int .i64 (-1), .int .i64 0]) (by simp [results, Try.results19, go_sem, *]) rfl ⟨rfl, ?_⟩
    repeat (first | exact Below.refl _ _ | exact belowNew _ _ | refine Below.setCell ?_ (by simp) _ | refine Below.alloc ?_ (by simp) _)
  · go_enter Try.func19, Try.ntmps19
    go_wp2
    refine bodyPost_ret (v := .agg #[.bool true, .int .i64 0, .int .i64 0, .int .i64 0, .int .i64 0, .int .i64 (-1), .int .i64 0]) (by simp [results, Try.results19, go_sem, *]) rfl ⟨rfl, ?_⟩
    repeat (first | exact Below.refl _ _ | exact belowNew _ _ | refine Below.setCell ?_ (by simp) _ | refine Below.alloc ?_ (by simp) _)

set_option linter.unusedVariables false in
set_option maxRecDepth 100000 in
set_option maxHeartbeats 2000000 in
theorem rbound_bad1 (l h a k src he n : Int) (w : World) (hv : vldT true l h a k src he = false) :
    Calls Try.prog 15 #[.agg #[.bool true, .int .i64 l, .int .i64 h, .int .i64 a, .int .i64 k, .int .i64 src, .int .i64 he], .int .i64 n] w
      fun e w' => e = .returned (.tuple #[.int .i64 0, .int .i64 1]) ∧ Below w.heap.size w w' := by
  have Hhv := Lib.hid hv
  clear hv
  go_enter Try.func15, Try.ntmps15
  go_wp2_with fail
  refine (rtvalid_lit true l h a k src he false _ Hhv.out).mono ?_
  rintro e w1 ⟨rfl, hb⟩
  have oS : Own w1 w.heap.size [.bool true, .int .i64 l, .int .i64 h, .int .i64 a, .int .i64 k, .int .i64 src, .int .i64 he] 25 := (own_at _ _ rfl).below hb
  have bel := belowTo ((Below.refl w.heap.size w).alloc (by simp) _) hb (by simp)
  clear hb 
  obtain ⟨cS0, cS1, cS2, cS3, cS4, cS5, cS6, fS, zS⟩ := own7 oS
  go_wp2
  go_ret2
  exact ⟨rfl, bel⟩

set_option linter.unusedVariables false in
set_option maxRecDepth 100000 in
set_option maxHeartbeats 2000000 in
theorem rbound_bad0 (l h a k src he n : Int) (w : World) (hv : vldT false l h a k src he = false) :
    Calls Try.prog 15 #[.agg #[.bool false, .int .i64 l, .int .i64 h, .int .i64 a, .int .i64 k, .int .i64 src, .int .i64 he], .int .i64 n] w
      fun e w' => e = .returned (.tuple #[.int .i64 0, .int .i64 1]) ∧ Below w.heap.size w w' := by
  have Hhv := Lib.hid hv
  clear hv
  go_enter Try.func15, Try.ntmps15
  go_wp2_with fail
  refine (rtvalid_lit false l h a k src he false _ Hhv.out).mono ?_
  rintro e w1 ⟨rfl, hb⟩
  have oS : Own w1 w.heap.size [.bool false, .int .i64 l, .int .i64 h, .int .i64 a, .int .i64 k, .int .i64 src, .int .i64 he] 25 := (own_at _ _ rfl).below hb
  have bel := belowTo ((Below.refl w.heap.size w).alloc (by simp) _) hb (by simp)
  clear hb 
  obtain ⟨cS0, cS1, cS2, cS3, cS4, cS5, cS6, fS, zS⟩ := own7 oS
  go_wp2
  go_ret2
  exact ⟨rfl, bel⟩

set_option linter.unusedVariables false in
set_option maxRecDepth 100000 in
set_option maxHeartbeats 2000000 in
theorem rbound_off (l h a k src he n : Int) (w : World) (hv : vldT false l h a k src he = true) :
    Calls Try.prog 15 #[.agg #[.bool false, .int .i64 l, .int .i64 h, .int .i64 a, .int .i64 k, .int .i64 src, .int .i64 he], .int .i64 n] w
      fun e w' => e = .returned (.tuple #[.int .i64 0, .int .i64 16]) ∧ Below w.heap.size w w' := by
  have Hhv := Lib.hid hv
  clear hv
  go_enter Try.func15, Try.ntmps15
  go_wp2_with fail
  refine (rtvalid_lit false l h a k src he true _ Hhv.out).mono ?_
  rintro e w1 ⟨rfl, hb⟩
  have oS : Own w1 w.heap.size [.bool false, .int .i64 l, .int .i64 h, .int .i64 a, .int .i64 k, .int .i64 src, .int .i64 he] 25 := (own_at _ _ rfl).below hb
  have bel := belowTo ((Below.refl w.heap.size w).alloc (by simp) _) hb (by simp)
  clear hb 
  obtain ⟨cS0, cS1, cS2, cS3, cS4, cS5, cS6, fS, zS⟩ := own7 oS
  go_wp2
  go_ret2
  exact ⟨rfl, bel⟩

set_option linter.unusedVariables false in
set_option maxRecDepth 100000 in
set_option maxHeartbeats 2000000 in
theorem rbound_root (l h a k src he n : Int) (w : World) (hv : vldT true l h a k src he = true) (hk : (k == 0) = true) :
    Calls Try.prog 15 #[.agg #[.bool true, .int .i64 l, .int .i64 h, .int .i64 a, .int .i64 k, .int .i64 src, .int .i64 he], .int .i64 n] w
      fun e w' => e = .returned (.tuple #[.int .i64 0, .int .i64 0]) ∧ Below w.heap.size w w' := by
  have Hhv := Lib.hid hv
  clear hv
  have Hhk := Lib.hid hk
  clear hk
  go_enter Try.func15, Try.ntmps15
  go_wp2_with fail
  refine (rtvalid_lit true l h a k src he true _ Hhv.out).mono ?_
  rintro e w1 ⟨rfl, hb⟩
  have oS : Own w1 w.heap.size [.bool true, .int .i64 l, .int .i64 h, .int .i64 a, .int .i64 k, .int .i64 src, .int .i64 he] 25 := (own_at _ _ rfl).below hb
  have bel := belowTo ((Below.refl w.heap.size w).alloc (by simp) _) hb (by simp)
  clear hb 
  obtain ⟨cS0, cS1, cS2, cS3, cS4, cS5, cS6, fS, zS⟩ := own7 oS
  go_wp2_with fail
  refine (rroot_lit true l h a k src he true _ (by rw [Hhk.out]; rfl)).mono ?_
  rintro e w2 ⟨rfl, hb⟩
  replace oS := oS.below hb
  replace bel := belowTo bel hb (by exact bel.size)
  clear hb cS0 cS1 cS2 cS3 cS4 cS5 cS6 fS zS
  obtain ⟨cS0, cS1, cS2, cS3, cS4, cS5, cS6, fS, zS⟩ := own7 oS
  go_wp2
  go_ret2
  exact ⟨rfl, bel⟩

set_option linter.unusedVariables false in
set_option maxRecDepth 100000 in
set_option maxHeartbeats 2000000 in
theorem rbound_err (l h a k src he n L H A E : Int) (w : World) (hv : vldT true l h a k src he = true) (hk : (k == 0) = false) (hg : grL l h a n = L ∧ grH l h a n = H ∧ grA l h a n = A ∧ grE l h a n = E) (hE : (E == 0) = false) :
    Calls Try.prog 15 #[.agg #[.bool true, .int .i64 l, .int .i64 h, .int .i64 a, .int .i64 k, .int .i64 src, .int .i64 he], .int .i64 n] w
      fun e w' => e = .returned (.tuple #[.int .i64 0, .int .i64 E]) ∧ Below w.heap.size w w' := by
  have Hhv := Lib.hid hv
  clear hv
  have Hhk := Lib.hid hk
  clear hk
  have Hhg := Lib.hid hg
  clear hg
  go_enter Try.func15, Try.ntmps15
  go_wp2_with fail
  refine (rtvalid_lit true l h a k src he true _ Hhv.out).mono ?_
  rintro e w1 ⟨rfl, hb⟩
  have oS : Own w1 w.heap.size [.bool true, .int .i64 l, .int .i64 h, .int .i64 a, .int .i64 k, .int .i64 src, .int .i64 he] 25 := (own_at _ _ rfl).below hb
  have bel := belowTo ((Below.refl w.heap.size w).alloc (by simp) _) hb (by simp)
  clear hb 
  obtain ⟨cS0, cS1, cS2, cS3, cS4, cS5, cS6, fS, zS⟩ := own7 oS
  go_wp2_with fail
  refine (rroot_lit true l h a k src he false _ (by rw [Hhk.out]; rfl)).mono ?_
  rintro e w2 ⟨rfl, hb⟩
  replace oS := oS.below hb
  replace bel := belowTo bel hb (by exact bel.size)
  clear hb cS0 cS1 cS2 cS3 cS4 cS5 cS6 fS zS
  obtain ⟨cS0, cS1, cS2, cS3, cS4, cS5, cS6, fS, zS⟩ := own7 oS
  go_wp2_with fail
  refine (rgrow_lit l h a n L H A E _ Hhg.out).mono ?_
  rintro e w3 ⟨rfl, hb⟩
  replace oS := oS.below hb
  replace bel := belowTo bel hb (by exact bel.size)
  clear hb cS0 cS1 cS2 cS3 cS4 cS5 cS6 fS zS
  obtain ⟨cS0, cS1, cS2, cS3, cS4, cS5, cS6, fS, zS⟩ := own7 oS
  go_wp2
  go_ret2
  exact ⟨rfl, by repeat (first | exact bel | refine Below.alloc ?_ (by have := bel.size; simp; omega) _)⟩

set_option linter.unusedVariables false in
set_option maxRecDepth 100000 in
set_option maxHeartbeats 2000000 in
theorem rbound_late (l h a k src he n L H D : Int) (w : World) (hv : vldT true l h a k src he = true) (hk : (k == 0) = false) (hg : grL l h a n = L ∧ grH l h a n = H ∧ grA l h a n = n ∧ grE l h a n = 0) (b1 : -20000000000000 ≤ L) (b2 : L ≤ 20000000000000) (b3 : -20000000000000 ≤ H) (b4 : H ≤ 20000000000000) (b5 : L ≤ H) (hx : (H - L + 1) / 2 = D) (hd : 2000 < D) :
    Calls Try.prog 15 #[.agg #[.bool true, .int .i64 l, .int .i64 h, .int .i64 a, .int .i64 k, .int .i64 src, .int .i64 he], .int .i64 n] w
      fun e w' => e = .returned (.tuple #[.int .i64 0, .int .i64 16]) ∧ Below w.heap.size w w' := by
  have Hhv := Lib.hid hv
  clear hv
  have Hhk := Lib.hid hk
  clear hk
  have Hhg := Lib.hid hg
  clear hg
  have Hhx := Lib.hid hx
  clear hx
  go_enter Try.func15, Try.ntmps15
  go_wp2_with fail
  refine (rtvalid_lit true l h a k src he true _ Hhv.out).mono ?_
  rintro e w1 ⟨rfl, hb⟩
  have oS : Own w1 w.heap.size [.bool true, .int .i64 l, .int .i64 h, .int .i64 a, .int .i64 k, .int .i64 src, .int .i64 he] 25 := (own_at _ _ rfl).below hb
  have bel := belowTo ((Below.refl w.heap.size w).alloc (by simp) _) hb (by simp)
  clear hb 
  obtain ⟨cS0, cS1, cS2, cS3, cS4, cS5, cS6, fS, zS⟩ := own7 oS
  go_wp2_with fail
  refine (rroot_lit true l h a k src he false _ (by rw [Hhk.out]; rfl)).mono ?_
  rintro e w2 ⟨rfl, hb⟩
  replace oS := oS.below hb
  replace bel := belowTo bel hb (by exact bel.size)
  clear hb cS0 cS1 cS2 cS3 cS4 cS5 cS6 fS zS
  obtain ⟨cS0, cS1, cS2, cS3, cS4, cS5, cS6, fS, zS⟩ := own7 oS
  go_wp2_with fail
  refine (rgrow_lit l h a n L H n 0 _ Hhg.out).mono ?_
  rintro e w3 ⟨rfl, hb⟩
  replace oS := oS.below hb
  replace bel := belowTo bel hb (by exact bel.size)
  clear hb cS0 cS1 cS2 cS3 cS4 cS5 cS6 fS zS
  obtain ⟨cS0, cS1, cS2, cS3, cS4, cS5, cS6, fS, zS⟩ := own7 oS
  go_wp2_with fail
  refine (rhalf_lit L H n D _ (by omega) (by omega) (by omega) (by omega) b5 Hhx.out).mono ?_
  rintro e w4 ⟨rfl, hb⟩
  replace oS := (oS.alloc _).below hb
  have oG : Own w4 w3.heap.size [.int .i64 L, .int .i64 H, .int .i64 n] 23 := (own_at _ _ rfl).below hb
  replace bel := belowTo (bel.alloc (by have := bel.size; simp; omega) _) hb (by have := bel.size; simp; omega)
  clear hb cS0 cS1 cS2 cS3 cS4 cS5 cS6 fS zS
  obtain ⟨cS0, cS1, cS2, cS3, cS4, cS5, cS6, fS, zS⟩ := own7 oS
  obtain ⟨cG0, cG1, cG2, fG, zG⟩ := own3 oG
  go_wp2
  go_ret2
  exact ⟨rfl, bel⟩

set_option linter.unusedVariables false in
set_option maxRecDepth 100000 in
set_option maxHeartbeats 2000000 in
theorem rbound_ok (l h a k src he n L H D : Int) (w : World) (hv : vldT true l h a k src he = true) (hk : (k == 0) = false) (hg : grL l h a n = L ∧ grH l h a n = H ∧ grA l h a n = n ∧ grE l h a n = 0) (b1 : -20000000000000 ≤ L) (b2 : L ≤ 20000000000000) (b3 : -20000000000000 ≤ H) (b4 : H ≤ 20000000000000) (b5 : L ≤ H) (hx : (H - L + 1) / 2 = D) (hd : D ≤ 2000) :
    Calls Try.prog 15 #[.agg #[.bool true, .int .i64 l, .int .i64 h, .int .i64 a, .int .i64 k, .int .i64 src, .int .i64 he], .int .i64 n] w
      fun e w' => e = .returned (.tuple #[.int .i64 D, .int .i64 0]) ∧ Below w.heap.size w w' := by
  have Hhv := Lib.hid hv
  clear hv
  have Hhk := Lib.hid hk
  clear hk
  have Hhg := Lib.hid hg
  clear hg
  have Hhx := Lib.hid hx
  clear hx
  go_enter Try.func15, Try.ntmps15
  go_wp2_with fail
  refine (rtvalid_lit true l h a k src he true _ Hhv.out).mono ?_
  rintro e w1 ⟨rfl, hb⟩
  have oS : Own w1 w.heap.size [.bool true, .int .i64 l, .int .i64 h, .int .i64 a, .int .i64 k, .int .i64 src, .int .i64 he] 25 := (own_at _ _ rfl).below hb
  have bel := belowTo ((Below.refl w.heap.size w).alloc (by simp) _) hb (by simp)
  clear hb 
  obtain ⟨cS0, cS1, cS2, cS3, cS4, cS5, cS6, fS, zS⟩ := own7 oS
  go_wp2_with fail
  refine (rroot_lit true l h a k src he false _ (by rw [Hhk.out]; rfl)).mono ?_
  rintro e w2 ⟨rfl, hb⟩
  replace oS := oS.below hb
  replace bel := belowTo bel hb (by exact bel.size)
  clear hb cS0 cS1 cS2 cS3 cS4 cS5 cS6 fS zS
  obtain ⟨cS0, cS1, cS2, cS3, cS4, cS5, cS6, fS, zS⟩ := own7 oS
  go_wp2_with fail
  refine (rgrow_lit l h a n L H n 0 _ Hhg.out).mono ?_
  rintro e w3 ⟨rfl, hb⟩
  replace oS := oS.below hb
  replace bel := belowTo bel hb (by exact bel.size)
  clear hb cS0 cS1 cS2 cS3 cS4 cS5 cS6 fS zS
  obtain ⟨cS0, cS1, cS2, cS3, cS4, cS5, cS6, fS, zS⟩ := own7 oS
  go_wp2_with fail
  refine (rhalf_lit L H n D _ (by omega) (by omega) (by omega) (by omega) b5 Hhx.out).mono ?_
  rintro e w4 ⟨rfl, hb⟩
  replace oS := (oS.alloc _).below hb
  have oG : Own w4 w3.heap.size [.int .i64 L, .int .i64 H, .int .i64 n] 23 := (own_at _ _ rfl).below hb
  replace bel := belowTo (bel.alloc (by have := bel.size; simp; omega) _) hb (by have := bel.size; simp; omega)
  clear hb cS0 cS1 cS2 cS3 cS4 cS5 cS6 fS zS
  obtain ⟨cS0, cS1, cS2, cS3, cS4, cS5, cS6, fS, zS⟩ := own7 oS
  obtain ⟨cG0, cG1, cG2, fG, zG⟩ := own3 oG
  go_wp2_with fail
  refine (rhalf_lit L H n D _ (by omega) (by omega) (by omega) (by omega) b5 Hhx.out).mono ?_
  rintro e w5 ⟨rfl, hb⟩
  replace oS := oS.below hb
  replace oG := oG.below hb
  replace bel := belowTo bel hb (by exact bel.size)
  clear hb cS0 cS1 cS2 cS3 cS4 cS5 cS6 fS zS cG0 cG1 cG2 fG zG
  obtain ⟨cS0, cS1, cS2, cS3, cS4, cS5, cS6, fS, zS⟩ := own7 oS
  obtain ⟨cG0, cG1, cG2, fG, zG⟩ := own3 oG
  go_wp2
  go_ret2
  exact ⟨rfl, bel⟩

theorem rbound_lit (sy : Bool) (l h a k src he n N E : Int) (w : World) (hr : bdN sy l h a k src he n = N ∧ bdE sy l h a k src he n = E) :
    Calls Try.prog 15 #[.agg #[.bool sy, .int .i64 l, .int .i64 h, .int .i64 a, .int .i64 k, .int .i64 src, .int .i64 he], .int .i64 n] w
      fun e w' => e = .returned (.tuple #[.int .i64 N, .int .i64 E]) ∧ Below w.heap.size w w' := by
  obtain ⟨rfl, rfl⟩ := hr
  cases hv : vldT sy l h a k src he with
  | false =>
    have e1 : bdE sy l h a k src he n = 1 := by simp [bdE, hv]
    rw [show bdN sy l h a k src he n = 0 from by simp [bdN, e1], e1]
    cases sy
    · exact rbound_bad0 l h a k src he n w hv
    · exact rbound_bad1 l h a k src he n w hv
  | true =>
    cases sy with
    | false =>
      have e1 : bdE false l h a k src he n = 16 := by simp [bdE, hv]
      rw [show bdN false l h a k src he n = 0 from by simp [bdN, e1], e1]
      exact rbound_off l h a k src he n w hv
    | true =>
      by_cases hk : k = 0
      · subst hk
        have e1 : bdE true l h a 0 src he n = 0 := by simp [bdE, hv]
        rw [show bdN true l h a 0 src he n = 0 from by simp [bdN], e1]
        exact rbound_root l h a 0 src he n w hv (by decide)
      · by_cases hg : grE l h a n = 0
        · obtain ⟨ka, kr, f1, f2, f3⟩ := gr_zero hg
          obtain ⟨u1, u2, u3⟩ := okA_iff.1 ka
          unfold okR at kr
          have kr' := vldS_iff.1 kr
          have hh : hafT l h a n = (h + gm (n - a) - (l - gm (n - a)) + 1) / 2 := by unfold hafT; omega
          by_cases hq : 2000 < hafT l h a n
          · have e1 : bdE true l h a k src he n = 16 := by simp [bdE, hv, hk, hg, hq]
            rw [show bdN true l h a k src he n = 0 from by simp [bdN, e1], e1]
            exact rbound_late l h a k src he n _ _ _ w hv (by simpa using hk) ⟨f1, f2, f3, hg⟩ (by omega) (by omega) (by omega) (by omega) (by omega) rfl (by omega)
          · have e1 : bdE true l h a k src he n = 0 := by simp [bdE, hv, hk, hg, hq]
            rw [show bdN true l h a k src he n = hafT l h a n from by simp [bdN, e1, hk], e1]
            exact rbound_ok l h a k src he n _ _ _ w hv (by simpa using hk) ⟨f1, f2, f3, hg⟩ (by omega) (by omega) (by omega) (by omega) (by omega) hh.symm (by omega)
        · have e1 : bdE true l h a k src he n = grE l h a n := by simp [bdE, hv, hk, hg]
          rw [show bdN true l h a k src he n = 0 from by simp [bdN, e1, hg], e1]
          exact rbound_err l h a k src he n _ _ _ _ w hv (by simpa using hk) ⟨rfl, rfl, rfl, rfl⟩ (by simpa using hg)

end Go.Proofs.Ytfclodgfifbfbaa

/- The contracts of package timesync: root, valid, takes. -/
import Derived.Test.YtfclodgfifbfbaaPlain09
import Derived.Test.YtfclodgfifbfbaaGrow
import Derived.Test.YtfclodgfifbfbaaTup
namespace Go.Proofs.Ytfclodgfifbfbaa
open Go.RowKit

theorem own7 {w : World} {b : Nat} {t : TypeId} {x0 x1 x2 x3 x4 x5 x6 : Value} (h : Own w b [x0, x1, x2, x3, x4, x5, x6] t) :
    w.cell? ⟨b, 0, none⟩ = some x0 ∧ w.cell? ⟨b, 1, none⟩ = some x1 ∧ w.cell? ⟨b, 2, none⟩ = some x2 ∧ w.cell? ⟨b, 3, none⟩ = some x3 ∧ w.cell? ⟨b, 4, none⟩ = some x4 ∧ w.cell? ⟨b, 5, none⟩ = some x5 ∧ w.cell? ⟨b, 6, none⟩ = some x6 ∧
    (∀ o, w.frozen? ⟨b, o, none⟩ = false) ∧ b < w.heap.size := ⟨h.cell rfl, h.cell rfl, h.cell rfl, h.cell rfl, h.cell rfl, h.cell rfl, h.cell rfl, h.frozen, h.lt⟩

set_option maxHeartbeats 1000000 in
theorem troot_any (sy : Bool) (l h a k src he : Int) (w : World) :
    Calls Try.prog 34 #[.agg #[.bool sy, .int .i64 l, .int .i64 h, .int .i64 a, .int .i64 k, .int .i64 src, .int .i64 he]] w fun e w' => e = .returned (.bool (sy && (k == 0))) ∧ Below w.heap.size w w' := by
  cases sy
  all_goals
    go_enter Try.func34, Try.ntmps34
    go_wp2
    all_goals (go_ret; exact ⟨by simp_all, belowNew w _⟩)

theorem troot_lit (sy : Bool) (l h a k src he : Int) (r : Bool) (w : World) (hr : (sy && (k == 0)) = r) :
    Calls Try.prog 34 #[.agg #[.bool sy, .int .i64 l, .int .i64 h, .int .i64 a, .int .i64 k, .int .i64 src, .int .i64 he]] w fun e w' => e = .returned (.bool r) ∧ Below w.heap.size w w' := by
  have := troot_any sy l h a k src he w
  rwa [hr] at this

set_option maxRecDepth 100000 in
set_option maxHeartbeats 2000000 in
theorem tvalid_out (sy : Bool) (l h a k src he : Int) (w : World) (hn : okN src he = false) :
    Calls Try.prog 28 #[.agg #[.bool sy, .int .i64 l, .int .i64 h, .int .i64 a, .int .i64 k, .int .i64 src, .int .i64 he]] w fun e w' => e = .returned (.bool false) ∧ Below w.heap.size w w' := by
  have hc : src < -1 ∨ (-1 ≤ src ∧ 60 ≤ src) ∨ (-1 ≤ src ∧ src < 60 ∧ he < 0) ∨ (-1 ≤ src ∧ src < 60 ∧ 0 ≤ he ∧ 1000000000 < he) := by
    rw [okN_no] at hn; omega
  clear hn
  rcases hc with h1 | ⟨h1, h2⟩ | ⟨h1, h2, h3⟩ | ⟨h1, h2, h3, h4⟩
  all_goals
    go_enter Try.func28, Try.ntmps28
    go_wp2
    go_ret
    exact ⟨rfl, belowNew w _⟩

set_option maxRecDepth 100000 in
set_option maxHeartbeats 2000000 in
theorem tvalid_off (l h a k src he : Int) (r : Bool) (w : World) (h1 : -1 ≤ src) (h2 : src < 60) (h3 : 0 ≤ he) (h4 : he ≤ 1000000000) (hr : (k == 60) = r) :
    Calls Try.prog 28 #[.agg #[.bool false, .int .i64 l, .int .i64 h, .int .i64 a, .int .i64 k, .int .i64 src, .int .i64 he]] w fun e w' => e = .returned (.bool r) ∧ Below w.heap.size w w' := by
  cases r
  all_goals
    go_enter Try.func28, Try.ntmps28
    go_wp2
    all_goals (go_ret; exact ⟨by simp_all, belowNew w _⟩)

set_option maxRecDepth 100000 in
set_option maxHeartbeats 2000000 in
theorem tvalid_root (l h a k src he : Int) (w : World) (h1 : -1 ≤ src) (h2 : src < 60) (h3 : 0 ≤ he) (h4 : he ≤ 1000000000) (hr : (k == 0) = true) :
    Calls Try.prog 28 #[.agg #[.bool true, .int .i64 l, .int .i64 h, .int .i64 a, .int .i64 k, .int .i64 src, .int .i64 he]] w fun e w' => e = .returned (.bool true) ∧ Below w.heap.size w w' := by
  have HR := Lib.hid hr
  clear hr
  go_enter Try.func28, Try.ntmps28
  go_wp2_with fail
  refine (troot_lit true l h a k src he true _ (by rw [HR.out]; rfl)).mono ?_
  rintro e w1 ⟨rfl, hb⟩
  go_wp2
  go_ret
  exact ⟨rfl, belowTo (belowNew w _) hb (by simp)⟩

set_option maxRecDepth 100000 in
set_option maxHeartbeats 2000000 in
theorem tvalid_on (l h a k src he : Int) (r : Bool) (w : World) (h1 : -1 ≤ src) (h2 : src < 60) (h3 : 0 ≤ he) (h4 : he ≤ 1000000000) (hk : (k == 0) = false) (h5 : 1 ≤ k) (h6 : k ≤ 60) (hr : vldS l h a = r) :
    Calls Try.prog 28 #[.agg #[.bool true, .int .i64 l, .int .i64 h, .int .i64 a, .int .i64 k, .int .i64 src, .int .i64 he]] w fun e w' => e = .returned (.bool r) ∧ Below w.heap.size w w' := by
  have HR := Lib.hid hr
  have HK := Lib.hid hk
  clear hr hk
  go_enter Try.func28, Try.ntmps28
  go_wp2_with fail
  refine (troot_lit true l h a k src he false _ (by rw [HK.out]; rfl)).mono ?_
  rintro e w1 ⟨rfl, hb⟩
  have oS : Own w1 w.heap.size [.bool true, .int .i64 l, .int .i64 h, .int .i64 a, .int .i64 k, .int .i64 src, .int .i64 he] 54 := (own_at _ _ rfl).below hb
  have bel := belowTo (belowNew w _) hb (by simp)
  clear hb
  obtain ⟨cS0, cS1, cS2, cS3, cS4, cS5, cS6, fS, zS⟩ := own7 oS
  go_wp2_with fail
  refine (bvalid_lit l h a r _ HR.out).mono ?_
  rintro e w2 ⟨rfl, hb⟩
  replace bel := belowTo bel hb bel.size
  go_wp2
  all_goals (go_ret; exact ⟨by simp_all, bel⟩)

set_option maxRecDepth 100000 in
set_option maxHeartbeats 2000000 in
theorem tvalid_far (l h a k src he : Int) (w : World) (h1 : -1 ≤ src) (h2 : src < 60) (h3 : 0 ≤ he) (h4 : he ≤ 1000000000) (hk : (k == 0) = false) (h5 : k < 1 ∨ (1 ≤ k ∧ 60 < k)) :
    Calls Try.prog 28 #[.agg #[.bool true, .int .i64 l, .int .i64 h, .int .i64 a, .int .i64 k, .int .i64 src, .int .i64 he]] w fun e w' => e = .returned (.bool false) ∧ Below w.heap.size w w' := by
  have HK := Lib.hid hk
  clear hk
  rcases h5 with h5 | ⟨h5, h6⟩
  all_goals
    go_enter Try.func28, Try.ntmps28
    go_wp2_with fail
    refine (troot_lit true l h a k src he false _ (by rw [HK.out]; rfl)).mono ?_
    rintro e w1 ⟨rfl, hb⟩
    have oS : Own w1 w.heap.size [.bool true, .int .i64 l, .int .i64 h, .int .i64 a, .int .i64 k, .int .i64 src, .int .i64 he] 54 := (own_at _ _ rfl).below hb
    have bel := belowTo (belowNew w _) hb (by simp)
    clear hb
    obtain ⟨cS0, cS1, cS2, cS3, cS4, cS5, cS6, fS, zS⟩ := own7 oS
    go_wp2
    go_ret
    exact ⟨rfl, bel⟩

theorem tvalid_lit (sy : Bool) (l h a k src he : Int) (r : Bool) (w : World) (hr : vldT sy l h a k src he = r) :
    Calls Try.prog 28 #[.agg #[.bool sy, .int .i64 l, .int .i64 h, .int .i64 a, .int .i64 k, .int .i64 src, .int .i64 he]] w fun e w' => e = .returned (.bool r) ∧ Below w.heap.size w w' := by
  subst hr
  cases hn : okN src he with
  | false =>
    rw [show vldT sy l h a k src he = false from by simp [vldT, hn]]
    exact tvalid_out sy l h a k src he w hn
  | true =>
    obtain ⟨h1, h2, h3, h4⟩ := okN_iff.1 hn
    cases sy with
    | false =>
      rw [show vldT false l h a k src he = (k == 60) from by simp [vldT, hn]]
      exact tvalid_off l h a k src he _ w h1 h2 h3 h4 rfl
    | true =>
      cases hk : (k == 0) with
      | true =>
        rw [show vldT true l h a k src he = true from by simp [vldT, hn, hk]]
        exact tvalid_root l h a k src he w h1 h2 h3 h4 hk
      | false =>
        by_cases h5 : 1 ≤ k ∧ k ≤ 60
        · rw [show vldT true l h a k src he = vldS l h a from by simp [vldT, hn, hk, h5]]
          exact tvalid_on l h a k src he _ w h1 h2 h3 h4 hk h5.1 h5.2 rfl
        · rw [show vldT true l h a k src he = false from by simp [vldT, hn, hk, h5]]
          exact tvalid_far l h a k src he w h1 h2 h3 h4 hk (by omega)

end Go.Proofs.Ytfclodgfifbfbaa

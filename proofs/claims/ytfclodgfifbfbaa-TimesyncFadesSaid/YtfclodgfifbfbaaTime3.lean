/- The contract of timesync.Bound. -/
import Derived.Test.YtfclodgfifbfbaaTime
namespace Go.Proofs.Ytfclodgfifbfbaa
open Go.RowKit

set_option maxRecDepth 100000 in
set_option maxHeartbeats 2000000 in
theorem tbound_bad (sy : Bool) (l h a k src he n : Int) (w : World) (hv : vldT sy l h a k src he = false) :
    Calls Try.prog 14 #[.agg #[.bool sy, .int .i64 l, .int .i64 h, .int .i64 a, .int .i64 k, .int .i64 src, .int .i64 he], .int .i64 n] w
      fun e w' => e = .returned (.tuple #[.int .i64 0, .int .i64 1]) ∧ Below w.heap.size w w' := by
  have HV := Lib.hid hv
  clear hv
  go_enter Try.func14, Try.ntmps14
  go_wp2_with fail
  refine (tvalid_lit sy l h a k src he false _ HV.out).mono ?_
  rintro e w1 ⟨rfl, hb⟩
  go_wp2
  go_ret2
  exact ⟨rfl, belowTo ((belowNew w _).alloc (by simp) _) hb (by simp; omega)⟩

set_option maxRecDepth 100000 in
set_option maxHeartbeats 2000000 in
theorem tbound_off (l h a k src he n : Int) (w : World) (hv : vldT false l h a k src he = true) :
    Calls Try.prog 14 #[.agg #[.bool false, .int .i64 l, .int .i64 h, .int .i64 a, .int .i64 k, .int .i64 src, .int .i64 he], .int .i64 n] w
      fun e w' => e = .returned (.tuple #[.int .i64 0, .int .i64 16]) ∧ Below w.heap.size w w' := by
  have HV := Lib.hid hv
  clear hv
  go_enter Try.func14, Try.ntmps14
  go_wp2_with fail
  refine (tvalid_lit false l h a k src he true _ HV.out).mono ?_
  rintro e w1 ⟨rfl, hb⟩
  have oX : Own w1 (w.heap.size + 1) [.bool false, .int .i64 l, .int .i64 h, .int .i64 a, .int .i64 k, .int .i64 src, .int .i64 he] 54 := (own_at _ _ (by simp)).below hb
  have bel := belowTo ((belowNew w _).alloc (by simp) _) hb (by simp; omega)
  clear hb
  obtain ⟨cX0, cX1, cX2, cX3, cX4, cX5, cX6, fX, zX⟩ := own7 oX
  go_wp2
  go_ret2
  exact ⟨rfl, bel⟩

set_option maxRecDepth 100000 in
set_option maxHeartbeats 2000000 in
theorem tbound_root (l h a k src he n : Int) (w : World) (hv : vldT true l h a k src he = true) (hk : (k == 0) = true) :
    Calls Try.prog 14 #[.agg #[.bool true, .int .i64 l, .int .i64 h, .int .i64 a, .int .i64 k, .int .i64 src, .int .i64 he], .int .i64 n] w
      fun e w' => e = .returned (.tuple #[.int .i64 0, .int .i64 0]) ∧ Below w.heap.size w w' := by
  have HV := Lib.hid hv
  have HK := Lib.hid hk
  clear hv hk
  go_enter Try.func14, Try.ntmps14
  go_wp2_with fail
  refine (tvalid_lit true l h a k src he true _ HV.out).mono ?_
  rintro e w1 ⟨rfl, hb⟩
  have oX : Own w1 (w.heap.size + 1) [.bool true, .int .i64 l, .int .i64 h, .int .i64 a, .int .i64 k, .int .i64 src, .int .i64 he] 54 := (own_at _ _ (by simp)).below hb
  have bel := belowTo ((belowNew w _).alloc (by simp) _) hb (by simp; omega)
  clear hb
  obtain ⟨cX0, cX1, cX2, cX3, cX4, cX5, cX6, fX, zX⟩ := own7 oX
  go_wp2_with fail
  refine (troot_lit true l h a k src he true _ (by rw [HK.out]; rfl)).mono ?_
  rintro e w2 ⟨rfl, hb⟩
  replace bel := belowTo bel hb bel.size
  go_wp2
  go_ret2
  exact ⟨rfl, bel⟩

set_option maxRecDepth 100000 in
set_option maxHeartbeats 2000000 in
theorem tbound_err (l h a k src he n L H A E : Int) (w : World) (hv : vldT true l h a k src he = true) (hk : (k == 0) = false) (hg : grL l h a n = L ∧ grH l h a n = H ∧ grA l h a n = A ∧ grE l h a n = E) (hE : (E == 0) = false) :
    Calls Try.prog 14 #[.agg #[.bool true, .int .i64 l, .int .i64 h, .int .i64 a, .int .i64 k, .int .i64 src, .int .i64 he], .int .i64 n] w
      fun e w' => e = .returned (.tuple #[.int .i64 0, .int .i64 E]) ∧ Below w.heap.size w w' := by
  have HV := Lib.hid hv
  have HK := Lib.hid hk
  clear hv hk
  go_enter Try.func14, Try.ntmps14
  go_wp2_with fail
  refine (tvalid_lit true l h a k src he true _ HV.out).mono ?_
  rintro e w1 ⟨rfl, hb⟩
  have oX : Own w1 (w.heap.size + 1) [.bool true, .int .i64 l, .int .i64 h, .int .i64 a, .int .i64 k, .int .i64 src, .int .i64 he] 54 := (own_at _ _ (by simp)).below hb
  have bel := belowTo ((belowNew w _).alloc (by simp) _) hb (by simp; omega)
  clear hb
  obtain ⟨cX0, cX1, cX2, cX3, cX4, cX5, cX6, fX, zX⟩ := own7 oX
  go_wp2_with fail
  refine (troot_lit true l h a k src he false _ (by rw [HK.out]; rfl)).mono ?_
  rintro e w2 ⟨rfl, hb⟩
  replace oX := oX.below hb
  replace bel := belowTo bel hb bel.size
  clear hb cX0 cX1 cX2 cX3 cX4 cX5 cX6 fX zX
  obtain ⟨cX0, cX1, cX2, cX3, cX4, cX5, cX6, fX, zX⟩ := own7 oX
  go_wp2_with fail
  refine (bgrow_lit l h a n L H A E _ hg).mono ?_
  rintro e w3 ⟨rfl, hb⟩
  replace bel := belowTo bel hb bel.size
  clear cX0 cX1 cX2 cX3 cX4 cX5 cX6 fX zX
  go_wp2
  go_ret2
  exact ⟨rfl, bel.alloc bel.size _⟩

set_option maxRecDepth 100000 in
set_option maxHeartbeats 2000000 in
theorem tbound_ok (l h a k src he n L H D Q E : Int) (w : World) (hv : vldT true l h a k src he = true) (hk : (k == 0) = false) (hg : grL l h a n = L ∧ grH l h a n = H ∧ grA l h a n = n ∧ grE l h a n = 0) (hw : widS L H n = D)
    (d1 : 0 ≤ D) (d2 : D ≤ 40000000000000) (hq : ((D + 1) / 2 ≤ 2000 ∧ Q = (D + 1) / 2 ∧ E = 0) ∨ (2000 < (D + 1) / 2 ∧ Q = 0 ∧ E = 16)) :
    Calls Try.prog 14 #[.agg #[.bool true, .int .i64 l, .int .i64 h, .int .i64 a, .int .i64 k, .int .i64 src, .int .i64 he], .int .i64 n] w
      fun e w' => e = .returned (.tuple #[.int .i64 Q, .int .i64 E]) ∧ Below w.heap.size w w' := by
  have HV := Lib.hid hv
  have HK := Lib.hid hk
  clear hv hk
  rcases hq with ⟨q1, rfl, rfl⟩ | ⟨q1, rfl, rfl⟩
  all_goals
    go_enter Try.func14, Try.ntmps14
    go_wp2_with fail
    refine (tvalid_lit true l h a k src he true _ HV.out).mono ?_
    rintro e w1 ⟨rfl, hb⟩
    have oX : Own w1 (w.heap.size + 1) [.bool true, .int .i64 l, .int .i64 h, .int .i64 a, .int .i64 k, .int .i64 src, .int .i64 he] 54 := (own_at _ _ (by simp)).below hb
    have bel := belowTo ((belowNew w _).alloc (by simp) _) hb (by simp; omega)
    clear hb
    obtain ⟨cX0, cX1, cX2, cX3, cX4, cX5, cX6, fX, zX⟩ := own7 oX
    go_wp2_with fail
    refine (troot_lit true l h a k src he false _ (by rw [HK.out]; rfl)).mono ?_
    rintro e w2 ⟨rfl, hb⟩
    replace oX := oX.below hb
    replace bel := belowTo bel hb bel.size
    clear hb cX0 cX1 cX2 cX3 cX4 cX5 cX6 fX zX
    obtain ⟨cX0, cX1, cX2, cX3, cX4, cX5, cX6, fX, zX⟩ := own7 oX
    go_wp2_with fail
    refine (bgrow_lit l h a n L H n 0 _ hg).mono ?_
    rintro e w3 ⟨rfl, hb⟩
    replace bel := belowTo bel hb bel.size
    clear hb cX0 cX1 cX2 cX3 cX4 cX5 cX6 fX zX
    go_wp2_with fail
    refine (bwidth_lit L H n D _ hw).mono ?_
    rintro e w4 ⟨rfl, hb⟩
    replace bel := belowTo (bel.alloc bel.size _) hb (by have := bel.size; simp; omega)
    go_wp2
    go_ret2
    exact ⟨by first | rfl | (simp; omega), bel⟩

/-- Bound, whole. -/
theorem tbound_any (sy : Bool) (l h a k src he n : Int) (w : World) :
    Calls Try.prog 14 #[.agg #[.bool sy, .int .i64 l, .int .i64 h, .int .i64 a, .int .i64 k, .int .i64 src, .int .i64 he], .int .i64 n] w
      fun e w' => e = .returned (.tuple #[.int .i64 (bdN sy l h a k src he n), .int .i64 (bdE sy l h a k src he n)]) ∧ Below w.heap.size w w' := by
  cases hv : vldT sy l h a k src he with
  | false =>
    have e1 : bdE sy l h a k src he n = 1 := by simp [bdE, hv]
    rw [show bdN sy l h a k src he n = 0 from by simp [bdN, e1], e1]
    exact tbound_bad sy l h a k src he n w hv
  | true =>
    cases sy with
    | false =>
      have e1 : bdE false l h a k src he n = 16 := by simp [bdE, hv]
      rw [show bdN false l h a k src he n = 0 from by simp [bdN, e1], e1]
      exact tbound_off l h a k src he n w hv
    | true =>
      by_cases hk : k = 0
      · subst hk
        have e1 : bdE true l h a 0 src he n = 0 := by simp [bdE, hv]
        rw [show bdN true l h a 0 src he n = 0 from by simp [bdN, e1], e1]
        exact tbound_root l h a 0 src he n w hv (by decide)
      · by_cases hg : grE l h a n = 0
        · obtain ⟨ka, kr, f1, f2, f3⟩ := gr_zero hg
          obtain ⟨u1, u2, u3⟩ := okA_iff.1 ka
          unfold okR at kr
          have kr' := vldS_iff.1 kr
          have u1' := vldS_iff.1 u1
          have hh : hafT l h a n = (h - l + 2 * gm (n - a) + 1) / 2 := rfl
          have hw : widS (l - gm (n - a)) (h + gm (n - a)) n = h - l + 2 * gm (n - a) := by simp only [widS, kr, if_true]; omega
          refine tbound_ok l h a k src he n _ _ _ _ _ w hv (by simpa using hk) ⟨f1, f2, f3, hg⟩ hw (by omega) (by omega) ?_
          by_cases hq : 2000 < hafT l h a n
          · have e1 : bdE true l h a k src he n = 16 := by simp [bdE, hv, hk, hg, hq]
            exact .inr ⟨by omega, by simp [bdN, e1], e1⟩
          · have e1 : bdE true l h a k src he n = 0 := by simp [bdE, hv, hk, hg, hq]
            exact .inl ⟨by omega, by simp [bdN, e1, hk, hh], e1⟩
        · have e1 : bdE true l h a k src he n = grE l h a n := by simp [bdE, hv, hk, hg]
          rw [show bdN true l h a k src he n = 0 from by simp [bdN, e1, hg], e1]
          exact tbound_err l h a k src he n _ _ _ _ w hv (by simpa using hk) ⟨rfl, rfl, rfl, rfl⟩ (by simpa using hg)

theorem tbound_lit (sy : Bool) (l h a k src he n N E : Int) (w : World) (hr : bdN sy l h a k src he n = N ∧ bdE sy l h a k src he n = E) :
    Calls Try.prog 14 #[.agg #[.bool sy, .int .i64 l, .int .i64 h, .int .i64 a, .int .i64 k, .int .i64 src, .int .i64 he], .int .i64 n] w
      fun e w' => e = .returned (.tuple #[.int .i64 N, .int .i64 E]) ∧ Below w.heap.size w w' := by
  have := tbound_any sy l h a k src he n w
  rwa [hr.1, hr.2] at this

end Go.Proofs.Ytfclodgfifbfbaa

/- The contracts of package timesync: takes, Start, Bound. -/
import Derived.Test.YtfclodgfifbfbaaTime
namespace Go.Proofs.Ytfclodgfifbfbaa
open Go.RowKit

theorem own5t {w : World} {b : Nat} {t : TypeId} {x0 x1 x2 x3 x4 : Value} (h : Own w b [x0, x1, x2, x3, x4] t) : w.cell? ⟨b, 0, none⟩ = some x0 ∧ w.cell? ⟨b, 1, none⟩ = some x1 ∧ w.cell? ⟨b, 2, none⟩ = some x2 ∧ w.cell? ⟨b, 3, none⟩ = some x3 ∧ w.cell? ⟨b, 4, none⟩ = some x4 ∧ (∀ o, w.frozen? ⟨b, o, none⟩ = false) ∧ b < w.heap.size := ⟨h.cell rfl, h.cell rfl, h.cell rfl, h.cell rfl, h.cell rfl, h.frozen, h.lt⟩

/-- A state takes a hint. -/
def tkB (sy : Bool) (k src f p : Int) : Bool := !(sy && (k == 0)) && (!sy || decide (p < k) || (f == src))

set_option maxRecDepth 100000 in
set_option maxHeartbeats 2000000 in
theorem takes_lit (sy : Bool) (l h a k src he f p b s c : Int) (r : Bool) (w : World) (hr : tkB sy k src f p = r) :
    Calls Try.prog 30 #[.agg #[.bool sy, .int .i64 l, .int .i64 h, .int .i64 a, .int .i64 k, .int .i64 src, .int .i64 he], .agg #[.int .i64 f, .int .i64 p, .int .i64 b, .int .i64 s, .int .i64 c]] w
      fun e w' => e = .returned (.bool r) ∧ Below w.heap.size w w' := by
  subst hr
  cases hq : (sy && (k == 0)) with
  | true =>
    rw [show tkB sy k src f p = false from by simp [tkB, hq]]
    have HQ := Lib.hid hq
    clear hq
    go_enter Try.func30, Try.ntmps30
    go_wp2_with fail
    refine (troot_lit sy l h a k src he true _ HQ.out).mono ?_
    rintro e w1 ⟨rfl, hb⟩
    go_wp2
    go_ret
    exact ⟨rfl, belowTo ((belowNew w _).alloc (by simp) _) hb (by simp; omega)⟩
  | false =>
    rw [show tkB sy k src f p = (!sy || decide (p < k) || (f == src)) from by simp [tkB, hq]]
    have HQ := Lib.hid hq
    clear hq
    cases sy
    · go_enter Try.func30, Try.ntmps30
      go_wp2_with fail
      refine (troot_lit false l h a k src he false _ HQ.out).mono ?_
      rintro e w1 ⟨rfl, hb⟩
      have oS : Own w1 w.heap.size [.bool false, .int .i64 l, .int .i64 h, .int .i64 a, .int .i64 k, .int .i64 src, .int .i64 he] 54 := ((own_at _ _ rfl).alloc _).below hb
      have bel := belowTo ((belowNew w _).alloc (by simp) _) hb (by simp; omega)
      clear hb
      obtain ⟨cS0, cS1, cS2, cS3, cS4, cS5, cS6, fS, zS⟩ := own7 oS
      go_wp2
      go_ret
      exact ⟨by simp, bel⟩
    · go_enter Try.func30, Try.ntmps30
      go_wp2_with fail
      refine (troot_lit true l h a k src he false _ HQ.out).mono ?_
      rintro e w1 ⟨rfl, hb⟩
      have oS : Own w1 w.heap.size [.bool true, .int .i64 l, .int .i64 h, .int .i64 a, .int .i64 k, .int .i64 src, .int .i64 he] 54 := ((own_at _ _ rfl).alloc _).below hb
      have oH : Own w1 (w.heap.size + 1) [.int .i64 f, .int .i64 p, .int .i64 b, .int .i64 s, .int .i64 c] 27 := (own_at _ _ (by simp)).below hb
      have bel := belowTo ((belowNew w _).alloc (by simp) _) hb (by simp; omega)
      clear hb
      obtain ⟨cS0, cS1, cS2, cS3, cS4, cS5, cS6, fS, zS⟩ := own7 oS
      obtain ⟨cH0, cH1, cH2, cH3, cH4, fH, zH⟩ := own5t oH
      go_wp2
      all_goals (go_ret; exact ⟨by simp_all, bel⟩)

set_option maxHeartbeats 1000000 in
theorem start_any (root : Bool) (w : World) :
    Calls Try.prog 18 #[.bool root] w
      fun e w' => e = .returned (.agg #[.bool root, .int .i64 0, .int .i64 0, .int .i64 0, .int .i64 (if root = true then 0 else 60), .int .i64 (-1), .int .i64 0]) ∧ Below w.heap.size w w' := by
  cases root
  · go_enter Try.func18, Try.ntmps18
    go_wp2
    refine bodyPost_ret (v := .agg #[.bool false, .int .i64 0, .int .i64 0, .int .i64 0, .int .i64 60, .int .i64 (-1), .int .i64 0]) (by simp [results, Try.results18, go_sem, *]) rfl ⟨rfl, ?_⟩
    repeat (first | exact Below.refl _ _ | exact belowNew _ _ | refine Below.setCell ?_ (by simp) _ | refine Below.alloc ?_ (by simp) _)
  · go_enter Try.func18, Try.ntmps18
    go_wp2
    refine bodyPost_ret (v := .agg #[.bool true, .int .i64 0, .int .i64 0, .int .i64 0, .int .i64 0, .int .i64 (-1), .int .i64 0]) (by simp [results, Try.results18, go_sem, *]) rfl ⟨rfl, ?_⟩
    repeat (first | exact Below.refl _ _ | exact belowNew _ _ | refine Below.setCell ?_ (by simp) _ | refine Below.alloc ?_ (by simp) _)

end Go.Proofs.Ytfclodgfifbfbaa

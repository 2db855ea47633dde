/- The helpers of the bound's laws: what they return. -/
import Derived.Test.YtaodaglaflohbaaPlain08
import Derived.Test.YtaodaglaflohbaaKit
import Derived.Test.YtaodaglaflohbaaRows
namespace Go.Proofs.Ytaodaglaflohbaa
open Go.RowKit

theorem own5 {w : World} {b : Nat} {t : TypeId} {x0 x1 x2 x3 x4 : Value} (h : Own w b [x0, x1, x2, x3, x4] t) : w.cell? ⟨b, 0, none⟩ = some x0 ∧ w.cell? ⟨b, 1, none⟩ = some x1 ∧ w.cell? ⟨b, 2, none⟩ = some x2 ∧ w.cell? ⟨b, 3, none⟩ = some x3 ∧ w.cell? ⟨b, 4, none⟩ = some x4 ∧ (∀ o, w.frozen? ⟨b, o, none⟩ = false) ∧ b < w.heap.size := ⟨h.cell rfl, h.cell rfl, h.cell rfl, h.cell rfl, h.cell rfl, h.frozen, h.lt⟩

def isB (l h a e x y z : Int) : Bool := decide (e = 0 ∧ l = x ∧ h = y ∧ a = z)
theorem isB_iff {l h a e x y z : Int} : isB l h a e x y z = true ↔ e = 0 ∧ l = x ∧ h = y ∧ a = z := by simp [isB]

set_option maxHeartbeats 1000000 in
theorem is_any (l h a e x y z : Int) (w : World) :
    Calls Try.prog 27 #[.agg #[.int .i64 l, .int .i64 h, .int .i64 a], .int .i64 e, .int .i64 x, .int .i64 y, .int .i64 z] w fun q w' => q = .returned (.bool (isB l h a e x y z)) ∧ Below w.heap.size w w' := by
  go_enter Try.func27, Try.ntmps27
  go_wp2
  all_goals (go_ret; refine ⟨ret_bool ?_, belowNew _ _⟩; refine Bool.eq_iff_iff.2 ?_; rw [isB_iff]; simp_all)

theorem is_lit (l h a e x y z : Int) (r : Bool) (w : World) (k : isB l h a e x y z = r) :
    Calls Try.prog 27 #[.agg #[.int .i64 l, .int .i64 h, .int .i64 a], .int .i64 e, .int .i64 x, .int .i64 y, .int .i64 z] w fun q w' => q = .returned (.bool r) ∧ Below w.heap.size w w' := by
  have := is_any l h a e x y z w
  rwa [k] at this

def inS (l h a x y z : Int) : Bool := decide (a = z ∧ x ≤ l ∧ h ≤ y)
theorem inS_iff {l h a x y z : Int} : inS l h a x y z = true ↔ a = z ∧ x ≤ l ∧ h ≤ y := by simp [inS]

set_option maxHeartbeats 1000000 in
theorem inside_any (l h a x y z : Int) (w : World) :
    Calls Try.prog 22 #[.agg #[.int .i64 l, .int .i64 h, .int .i64 a], .agg #[.int .i64 x, .int .i64 y, .int .i64 z]] w fun q w' => q = .returned (.bool (inS l h a x y z)) ∧ Below w.heap.size w w' := by
  go_enter Try.func22, Try.ntmps22
  go_wp2
  all_goals (go_ret; refine ⟨ret_bool ?_, (belowNew w _).alloc (by simp) _⟩; refine Bool.eq_iff_iff.2 ?_; rw [inS_iff]; simp only [decide_eq_true_eq, Bool.false_eq_true]; first | omega | (rw [false_iff]; omega))

theorem inside_lit (l h a x y z : Int) (r : Bool) (w : World) (k : inS l h a x y z = r) :
    Calls Try.prog 22 #[.agg #[.int .i64 l, .int .i64 h, .int .i64 a], .agg #[.int .i64 x, .int .i64 y, .int .i64 z]] w fun q w' => q = .returned (.bool r) ∧ Below w.heap.size w w' := by
  have := inside_any l h a x y z w
  rwa [k] at this

set_option maxHeartbeats 400000 in
theorem time_any (n : Int) (w : World) (hn : IntKind.u64.has n) :
    Calls Try.prog 23 #[.int .u64 n] w fun q w' => q = .returned (.int .i64 (n % 10000000000001)) ∧ w = w' := by
  have ⟨h0, h1⟩ : 0 ≤ n ∧ n ≤ 18446744073709551615 := by simpa [IntKind.has, IntKind.min, IntKind.max, IntKind.signed, IntKind.bits] using hn
  go_enter Try.func23, Try.ntmps23
  go_wp2
  go_ret
  exact ⟨ret_int (by omega), rfl⟩

theorem time_lit (n a : Int) (w : World) (hn : IntKind.u64.has n) (k : n % 10000000000001 = a) :
    Calls Try.prog 23 #[.int .u64 n] w fun q w' => q = .returned (.int .i64 a) ∧ w = w' := by
  have := time_any n w hn
  rwa [k] at this

def truB (l h a t s : Int) : Bool := decide (a = s ∧ l ≤ t - s ∧ t - s ≤ h)
theorem truB_iff {l h a t s : Int} : truB l h a t s = true ↔ a = s ∧ l ≤ t - s ∧ t - s ≤ h := by simp [truB]

set_option maxHeartbeats 1000000 in
theorem true_any (l h a t s : Int) (w : World) (b1 : -30000000000000 ≤ t) (b2 : t ≤ 30000000000000) (b3 : -30000000000000 ≤ s) (b4 : s ≤ 30000000000000) :
    Calls Try.prog 26 #[.agg #[.int .i64 l, .int .i64 h, .int .i64 a], .int .i64 t, .int .i64 s] w fun q w' => q = .returned (.bool (truB l h a t s)) ∧ Below w.heap.size w w' := by
  go_enter Try.func26, Try.ntmps26
  go_wp2
  all_goals (go_ret; refine ⟨ret_bool ?_, belowNew _ _⟩; refine Bool.eq_iff_iff.2 ?_; rw [truB_iff]; simp only [decide_eq_true_eq, Bool.false_eq_true]; first | omega | (rw [false_iff]; omega))

theorem true_lit (l h a t s : Int) (r : Bool) (w : World) (b1 : -30000000000000 ≤ t) (b2 : t ≤ 30000000000000) (b3 : -30000000000000 ≤ s) (b4 : s ≤ 30000000000000) (k : truB l h a t s = r) :
    Calls Try.prog 26 #[.agg #[.int .i64 l, .int .i64 h, .int .i64 a], .int .i64 t, .int .i64 s] w fun q w' => q = .returned (.bool r) ∧ Below w.heap.size w w' := by
  have := true_any l h a t s w b1 b2 b3 b4
  rwa [k] at this

end Go.Proofs.Ytaodaglaflohbaa

/- The search for a true time, and When: what they return. -/
import Derived.Test.YthnilgmafbkdkaaClock
namespace Go.Proofs.Ythnilgmafbkdkaa
open Go.RowKit

set_option maxHeartbeats 800000 in
theorem first_any (o d s : Int) (w : World) (h1 : -1000000000 ≤ o) (h2 : o ≤ 1000000000) (h3 : -50 ≤ d) (h4 : d ≤ 50) :
    Calls Try.prog 43 #[.int .i64 0, .int .i64 10000000000001, .func (.func 23) #[.agg #[.int .i64 o, .int .i64 d]] #[], .int .i64 s] w
      fun e w' => e = .returned (.int .i64 (lst o d s)) ∧ Below w.heap.size w w' := by
  have hl := lst_bd o d s
  go_enter Try.func43, Try.ntmps43
  go_wp2
  go_loopw [0, 1] (fun lo hi wr => ∃ a b : Int, lo = .int .i64 a ∧ hi = .int .i64 b ∧ 0 ≤ a ∧ a ≤ lst o d s ∧ lst o d s ≤ b ∧ b ≤ 10000000000001 ∧ Below w.heap.size w wr) (fun lo hi _ => (intOf hi - intOf lo).toNat)
  case atStart => exact ⟨0, 10000000000001, rfl, rfl, by omega, hl.1, hl.2, by omega, Below.refl _ _⟩
  case round =>
    obtain ⟨a, b, rfl, rfl, ha, hal, hlb, hb, hbel⟩ := hrel
    by_cases hab : a < b
    · have hm1 : a ≤ a + (b - a) / 2 := by omega
      have hm2 : a + (b - a) / 2 < b := by omega
      go_wp2_with (go_at_call 23; refine (at_any _ _ _ _ (by assumption) (by assumption) (by assumption) (by assumption) (by omega) (by omega)).mono ?_; rintro e w' ⟨rfl, hb2⟩)
      · have ht : s ≤ atI o d (a + (b - a) / 2) := by assumption
        have hk := (lst_le h3 (by omega) (by omega)).2 ht
        go_roundw
        case rel => exact ⟨a, _, rfl, rfl, ha, hal, hk, by omega, belowTo hbel hb2 hbel.size⟩
        case measure => simp [intOf]; omega
      · have ht : atI o d (a + (b - a) / 2) < s := by assumption
        have hk : ¬ lst o d s ≤ a + (b - a) / 2 := fun hh => by have := (lst_le h3 (by omega) (by omega)).1 hh; omega
        go_roundw
        case rel => exact ⟨_, b, rfl, rfl, by omega, by omega, hlb, hb, belowTo hbel hb2 hbel.size⟩
        case measure => simp [intOf]; omega
    · have : a = lst o d s := by omega
      go_wp2
      go_ret
      exact ⟨rfl, hbel⟩

end Go.Proofs.Ythnilgmafbkdkaa

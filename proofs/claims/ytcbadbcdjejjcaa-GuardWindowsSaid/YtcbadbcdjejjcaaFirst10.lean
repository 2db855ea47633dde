/- The contract of the reference's search for the first true time. -/
import Derived.Test.YtcbadbcdjejjcaaPlain10
import Derived.Test.YtcbadbcdjejjcaaRef07
namespace Go.Proofs.Ytcbadbcdjejjcaa
open Go.RowKit

/-- How far the search may still have to go. -/
def Hlv (x r : Int) : Prop := (x = 0 ∧ r ≤ 0) ∨ ∃ j : Nat, j ≤ 44 ∧ x = 2 ^ j ∧ r ≤ 2 * x - 1
theorem hlv_start {r : Int} (h : r ≤ 10000000000001) : Hlv 17592186044416 r := .inr ⟨44, by omega, by decide, by omega⟩
theorem pow_pos (j : Nat) : (1 : Int) ≤ 2 ^ j := by
  induction j with
  | zero => decide
  | succ j ih => rw [Int.pow_succ]; omega
theorem pow_top (j : Nat) (h : j ≤ 44) : (2 : Int) ^ j ≤ 17592186044416 := by
  have : ∀ k : Nat, (2 : Int) ^ (j + k) = 2 ^ j * 2 ^ k := fun k => Int.pow_add 2 j k
  have h2 := this (44 - j)
  rw [show j + (44 - j) = 44 by omega] at h2
  have p := pow_pos (44 - j)
  have q := pow_pos j
  have : (2 : Int) ^ 44 = 17592186044416 := by decide
  rw [this] at h2
  have := Int.mul_le_mul_of_nonneg_left p (show (0 : Int) ≤ 2 ^ j by omega)
  omega
theorem hlv_pos {x r : Int} (h : Hlv x r) (hx : 0 < x) : 1 ≤ x ∧ x ≤ 17592186044416 ∧ r ≤ 2 * x - 1 := by
  rcases h with ⟨rfl, _⟩ | ⟨j, hj, rfl, hr⟩
  · omega
  · exact ⟨pow_pos j, pow_top j hj, hr⟩
theorem hlv_half {x r r' : Int} (h : Hlv x r) (hx : 0 < x) (hr : r' ≤ x - 1) : Hlv (x / 2) r' := by
  rcases h with ⟨rfl, _⟩ | ⟨j, hj, rfl, _⟩
  · omega
  · cases j with
    | zero => exact .inl ⟨by decide, by simpa using hr⟩
    | succ j => exact .inr ⟨j, by omega, by rw [Int.pow_succ]; omega, by rw [Int.pow_succ] at *; omega⟩
theorem hlv_zero {x r : Int} (h : Hlv x r) (hx : ¬ 0 < x) : r ≤ 0 := by
  rcases h with ⟨_, h⟩ | ⟨j, _, rfl, _⟩
  · exact h
  · have := pow_pos j; omega
theorem hlv_nn {x r : Int} (h : Hlv x r) : 0 ≤ x ∧ x ≤ 17592186044416 := by
  rcases h with ⟨h, _⟩ | ⟨j, hj, rfl, _⟩
  · omega
  · exact ⟨by have := pow_pos j; omega, pow_top j hj⟩

def FirstRel (o d s : Int) (w : World) (n st : Value) (wr : World) : Prop :=
  ∃ m x : Int, n = .int .i64 m ∧ st = .int .i64 x ∧ 0 ≤ m ∧ m ≤ lst o d s ∧ Hlv x (lst o d s - m) ∧ Own wr w.heap.size [.int .i64 o, .int .i64 d] 27 ∧ Below w.heap.size w wr

set_option maxRecDepth 100000 in
set_option maxHeartbeats 1000000 in
theorem rfirst_any (o d s : Int) (w : World) (h1 : -1000000000 ≤ o) (h2 : o ≤ 1000000000) (h3 : -50 ≤ d) (h4 : d ≤ 50) :
    Calls Try.prog 29 #[.agg #[.int .i64 o, .int .i64 d], .int .i64 s] w
      fun e w' => e = .returned (.int .i64 (lst o d s)) ∧ Below w.heap.size w w' := by
  have hl := lst_bd o d s
  go_enter Try.func29, Try.ntmps29
  go_wp2
  go_loopw [5, 6] (fun n st wr => FirstRel o d s w n st wr) (fun _ st _ => (intOf st).toNat)
  case atStart => exact ⟨0, 17592186044416, rfl, rfl, by omega, hl.1, hlv_start (by omega), own_at _ _ rfl, belowNew w _⟩
  case round =>
    obtain ⟨m, x, rfl, rfl, hm, hml, hv, oC, bel⟩ := hrel
    have hn := hlv_nn hv
    obtain ⟨cC0, cC1, fC, zC⟩ := own2 oC
    by_cases hx : 0 < x
    · obtain ⟨x1, x2, x3⟩ := hlv_pos hv hx
      by_cases c : m + x ≤ 10000000000001
      · have ll := lst_le (o := o) (s := s) (t := m + x - 1) h3 (by omega) (by omega)
        by_cases q : atI o d (m + x - 1) < s
        · have big : m + x ≤ lst o d s := by
            refine Int.not_lt.1 fun hh => ?_
            have := ll.1 (by omega); omega
          have hv' := hlv_half (r' := lst o d s - (m + x)) hv hx (by omega)
          have HV := Lib.hid hv'
          clear ll hv hv'
          go_wp2_with (go_at_call 31; refine (rat_any o d _ _ h1 h2 h3 h4 (by omega) (by omega)).mono ?_; rintro e w' ⟨rfl, hb⟩)
          replace oC := oC.below hb
          replace bel := belowTo bel hb bel.size
          go_roundw
          case rel => exact ⟨m + x, x / 2, rfl, rfl, by omega, by omega, HV.out, oC, bel⟩
          case measure => simp [intOf]; omega
        · have hv' := hlv_half (r' := lst o d s - m) hv hx (by have := ll.2 (by omega); omega)
          have HV := Lib.hid hv'
          clear ll hv hv'
          go_wp2_with (go_at_call 31; refine (rat_any o d _ _ h1 h2 h3 h4 (by omega) (by omega)).mono ?_; rintro e w' ⟨rfl, hb⟩)
          replace oC := oC.below hb
          replace bel := belowTo bel hb bel.size
          go_roundw
          case rel => exact ⟨m, x / 2, rfl, rfl, by omega, by omega, HV.out, oC, bel⟩
          case measure => simp [intOf]; omega
      · have hv' := hlv_half (r' := lst o d s - m) hv hx (by omega)
        have HV := Lib.hid hv'
        clear hv hv'
        go_wp2_with fail
        go_roundw
        case rel => exact ⟨m, x / 2, rfl, rfl, by omega, by omega, HV.out, oC, bel⟩
        case measure => simp [intOf]; omega
    · have e0 : lst o d s = m := by have := hlv_zero hv hx; omega
      have HE := Lib.hid e0
      clear e0 hv
      go_wp2_with fail
      go_ret
      exact ⟨ret_int HE.out.symm, bel⟩

theorem rfirst_lit (o d s L : Int) (w : World) (hv : vldB o d = true) (hL : lst o d s = L) :
    Calls Try.prog 29 #[.agg #[.int .i64 o, .int .i64 d], .int .i64 s] w
      fun e w' => e = .returned (.int .i64 L) ∧ Below w.heap.size w w' := by
  subst hL
  obtain ⟨h1, h2, h3, h4⟩ := vld_out hv
  exact rfirst_any o d s w h1 h2 h3 h4

end Go.Proofs.Ytcbadbcdjejjcaa

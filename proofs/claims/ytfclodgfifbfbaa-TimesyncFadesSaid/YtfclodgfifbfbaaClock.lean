/- The contracts of the clock's functions, of the program and of the reference: what they return, and that they leave all old memory as it was. -/
import Derived.Test.YtfclodgfifbfbaaRows
import Derived.Test.YtfclodgfifbfbaaKit
import Derived.Test.YtfclodgfifbfbaaPlain07
namespace Go.Proofs.Ytfclodgfifbfbaa
open Go.RowKit

def inB (n high : Int) : Bool := decide (-high ≤ n ∧ n ≤ high)
theorem inB_vld (o d : Int) : (inB o 1000000000 && inB d 50) = vldB o d := by
  refine Bool.eq_iff_iff.2 ?_; simp only [inB, vldB, Bool.and_eq_true, decide_eq_true_eq]; omega

set_option maxHeartbeats 400000 in
theorem in_any (n h : Int) (w : World) (h0 : 0 ≤ h) (h1 : h ≤ 1000000000) :
    Calls Try.prog 50 #[.int .i64 n, .int .i64 h] w fun e w' => e = .returned (.bool (inB n h)) ∧ w = w' := by
  go_enter Try.func50, Try.ntmps50
  go_wp2
  all_goals (go_ret; refine ⟨ret_bool ?_, rfl⟩; refine Bool.eq_iff_iff.2 ?_; simp only [inB, decide_eq_true_eq, Bool.false_eq_true]; first | omega | (rw [false_iff]; omega))

set_option maxHeartbeats 400000 in
theorem valid_any (o d : Int) (w : World) :
    Calls Try.prog 41 #[.agg #[.int .i64 o, .int .i64 d]] w fun e w' => e = .returned (.bool (vldB o d)) ∧ Below w.heap.size w w' := by
  rw [← inB_vld]
  go_enter Try.func41, Try.ntmps41
  go_wp2_with (go_at_call 50; refine (in_any _ _ _ (by omega) (by omega)).mono ?_; rintro e w' ⟨rfl, rfl⟩)
  all_goals (go_ret; exact ⟨ret_bool (by simp_all), (Below.refl _ _).alloc (Nat.le_refl _) _⟩)

set_option maxHeartbeats 400000 in
theorem at_any (o d t : Int) (w : World) (h1 : -1000000000 ≤ o) (h2 : o ≤ 1000000000) (h3 : -50 ≤ d) (h4 : d ≤ 50) (h5 : -1 ≤ t) (h6 : t ≤ 19000000000000) :
    Calls Try.prog 42 #[.agg #[.int .i64 o, .int .i64 d], .int .i64 t] w fun e w' => e = .returned (.int .i64 (atI o d t)) ∧ Below w.heap.size w w' := by
  obtain ⟨h7, h8⟩ := mul_bd h3 h4 h5 h6
  obtain ⟨h9, h10⟩ := tdiv_bd h7 h8
  go_enter Try.func42, Try.ntmps42
  go_wp2
  · have h := go_floor_neg (x := d * t) (by assumption)
    go_ret
    exact ⟨ret_int (by unfold atI; omega), (Below.refl _ _).alloc (Nat.le_refl _) _⟩
  · have h := go_floor_pos (x := d * t) (by assumption)
    go_ret
    exact ⟨ret_int (by unfold atI; omega), (Below.refl _ _).alloc (Nat.le_refl _) _⟩

set_option maxHeartbeats 400000 in
theorem show_any (o d t : Int) (w : World) :
    Calls Try.prog 24 #[.agg #[.int .i64 o, .int .i64 d], .int .i64 t] w fun e w' => e = .returned (.tuple #[.int .i64 (shN o d t), .int .i64 (shE o d t)]) ∧ Below w.heap.size w w' := by
  by_cases hv : vldB o d = true
  · by_cases h1 : t < 0
    · obtain ⟨e1, e2⟩ := sh_no (okS_lt (o := o) (d := d) h1)
      rw [e1, e2]
      go_enter Try.func24, Try.ntmps24
      go_wp2_with (go_at_call 41; refine (valid_any _ _ _).mono ?_; rintro e w' ⟨rfl, hb⟩)
      go_ret2
      exact ⟨rfl, belowTo ((Below.refl _ _).alloc (Nat.le_refl _) _) hb (by simp)⟩
    · by_cases h2 : 10000000000000 < t
      · obtain ⟨e1, e2⟩ := sh_no (okS_gt (o := o) (d := d) h2)
        rw [e1, e2]
        go_enter Try.func24, Try.ntmps24
        go_wp2_with (go_at_call 41; refine (valid_any _ _ _).mono ?_; rintro e w' ⟨rfl, hb⟩)
        go_ret2
        exact ⟨rfl, belowTo ((Below.refl _ _).alloc (Nat.le_refl _) _) hb (by simp)⟩
      · obtain ⟨e1, e2⟩ := sh_yes (okS_mk hv (by omega : 0 ≤ t) (by omega))
        rw [e1, e2]
        clear e1 e2
        obtain ⟨g1, g2, g3, g4⟩ := vld_out hv
        have h3 : 0 ≤ t := by omega
        have h4 : t ≤ 10000000000000 := by omega
        clear h1 h2
        go_enter Try.func24, Try.ntmps24
        go_wp2_with (first | (go_at_call 41; refine (valid_any _ _ _).mono ?_; rintro e w' ⟨rfl, hb⟩; obtain ⟨hc, hf, hz⟩ := bcell hb) | (go_at_call 42; refine (at_any _ _ _ _ (by assumption) (by assumption) (by assumption) (by assumption) (by omega) (by omega)).mono ?_; rintro e w'' ⟨rfl, hb2⟩))
        go_ret2
        exact ⟨rfl, belowTo (belowTo (belowNew _ _) hb (by simp)) hb2 (Nat.le_of_lt (hz _ (by simp)))⟩
  · have hv' : vldB o d = false := by simpa using hv
    clear hv
    obtain ⟨e1, e2⟩ := sh_no (okS_no (t := t) hv')
    rw [e1, e2]
    go_enter Try.func24, Try.ntmps24
    go_wp2_with (go_at_call 41; refine (valid_any _ _ _).mono ?_; rintro e w' ⟨rfl, hb⟩)
    go_ret2
    exact ⟨rfl, belowTo ((Below.refl _ _).alloc (Nat.le_refl _) _) hb (by simp)⟩

end Go.Proofs.Ytfclodgfifbfbaa

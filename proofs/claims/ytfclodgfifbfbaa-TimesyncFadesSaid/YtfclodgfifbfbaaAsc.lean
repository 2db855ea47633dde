/- bound.ascending on three and four numbers. -/
import Derived.Test.YtfclodgfifbfbaaRows
import Derived.Test.YtfclodgfifbfbaaKit
namespace Go.Proofs.Ytfclodgfifbfbaa
open Go.RowKit

/-- The numbers of a list do not decrease up to place k. -/
def ascTo (zs : List Int) (k : Nat) : Prop := ∀ j, j < k → zs.getD j 0 ≤ zs.getD (j + 1) 0

set_option maxHeartbeats 1000000 in
theorem asc_any (b cap : Nat) (zs : List Int) (r : Bool) (w : World) (hlen : zs.length ≤ 1000) (h1 : 1 ≤ zs.length) (hcell : ∀ i, i < zs.length → w.cell? ⟨b, i, none⟩ = some (.int .i64 (zs.getD i 0)))
    (hr : r = true ↔ ascTo zs (zs.length - 1)) :
    Calls Try.prog 39 #[.slice (some ⟨b, 0, none⟩) zs.length cap] w fun e w' => e = .returned (.bool r) ∧ ∃ n, w' = w.drewN n := by
  have HR := Lib.hid hr
  clear hr
  go_enter Try.func39, Try.ntmps39
  go_wp2
  go_loopw [3] (fun i wr => ∃ k : Nat, i = .int .i64 ((k : Int) + 1) ∧ k + 1 ≤ zs.length ∧ Hid (ascTo zs k) ∧ ∃ n, wr = w.drewN n) (fun i _ => zs.length - (intOf i).toNat)
  case atStart => exact ⟨0, rfl, h1, fun j hj => absurd hj (Nat.not_lt_zero _), 0, rfl⟩
  case round =>
    obtain ⟨k, rfl, hk, hasc, n, rfl⟩ := hrel
    by_cases hlt : k + 1 < zs.length
    · obtain ⟨x1, c1, e1⟩ : ∃ x, w.cell? ⟨b, k + 1, none⟩ = some (.int .i64 x) ∧ Hid (x = zs.getD (k + 1) 0) := ⟨_, hcell (k + 1) hlt, rfl⟩
      obtain ⟨x0, c0, e0⟩ : ∃ x, w.cell? ⟨b, k, none⟩ = some (.int .i64 x) ∧ Hid (x = zs.getD k 0) := ⟨_, hcell k (by omega), rfl⟩
      have i1 : ((k : Int) + 1) < (zs.length : Int) := by omega
      have i0 : (k : Int) < (zs.length : Int) := by omega
      have t1 : ((k : Int) + 1).toNat = k + 1 := by omega
      clear hcell
      by_cases hc : x1 < x0
      · go_wp2
        go_quiet (fail)
        go_wp2
        go_ret
        have hf : r = false := by
          rcases Bool.eq_false_or_eq_true r with h | h
          · have h' := HR.out.1 h k (by omega)
            rw [← e1.out, ← e0.out] at h'
            exact absurd h' (by omega)
          · exact h
        exact ⟨ret_bool hf.symm, n + nq, by simp⟩
      · have hc' : x0 ≤ x1 := by omega
        clear hc
        go_wp2
        go_quiet (fail)
        go_wp2
        refine ⟨⟨k + 1, by go_num, by omega, fun j hj => ?_, n + nq, rfl⟩, by simp [intOf]; omega⟩
        rcases Nat.lt_or_ge j k with h | h
        · exact hasc.out j h
        · obtain rfl : j = k := by omega
          rw [← e1.out, ← e0.out]
          exact hc'
    · have hk' : k = zs.length - 1 := by omega
      have hf : r = true := HR.out.2 (hk' ▸ hasc.out)
      clear hk' hcell
      go_wp2
      go_ret
      exact ⟨ret_bool (by first | rfl | exact hf.symm), n, rfl⟩

/-- Three numbers. -/
theorem asc3 (b : Nat) (x y z : Int) (w : World) (h0 : w.cell? ⟨b, 0, none⟩ = some (.int .i64 x)) (h1 : w.cell? ⟨b, 1, none⟩ = some (.int .i64 y)) (h2 : w.cell? ⟨b, 2, none⟩ = some (.int .i64 z)) :
    Calls Try.prog 39 #[.slice (some ⟨b, 0, none⟩) 3 3] w fun e w' => e = .returned (.bool (decide (x ≤ y ∧ y ≤ z))) ∧ ∃ n, w' = w.drewN n := by
  refine asc_any b 3 [x, y, z] _ w (by simp) (by simp) (fun i hi => ?_) ?_
  · rcases i with _ | _ | _ | i
    · exact h0
    · exact h1
    · exact h2
    · simp at hi; omega
  · rw [decide_eq_true_eq]
    constructor
    · intro ⟨a, c⟩ j hj
      rcases j with _ | _ | j
      · exact a
      · exact c
      · simp at hj; omega
    · intro h
      exact ⟨h 0 (by simp), h 1 (by simp)⟩

/-- Four numbers. -/
theorem asc4 (b : Nat) (x y z u : Int) (w : World) (h0 : w.cell? ⟨b, 0, none⟩ = some (.int .i64 x)) (h1 : w.cell? ⟨b, 1, none⟩ = some (.int .i64 y)) (h2 : w.cell? ⟨b, 2, none⟩ = some (.int .i64 z)) (h3 : w.cell? ⟨b, 3, none⟩ = some (.int .i64 u)) :
    Calls Try.prog 39 #[.slice (some ⟨b, 0, none⟩) 4 4] w fun e w' => e = .returned (.bool (decide (x ≤ y ∧ y ≤ z ∧ z ≤ u))) ∧ ∃ n, w' = w.drewN n := by
  refine asc_any b 4 [x, y, z, u] _ w (by simp) (by simp) (fun i hi => ?_) ?_
  · rcases i with _ | _ | _ | _ | i
    · exact h0
    · exact h1
    · exact h2
    · exact h3
    · simp at hi; omega
  · rw [decide_eq_true_eq]
    constructor
    · intro ⟨a, c, d⟩ j hj
      rcases j with _ | _ | _ | j
      · exact a
      · exact c
      · exact d
      · simp at hj; omega
    · intro h
      exact ⟨h 0 (by simp), h 1 (by simp), h 2 (by simp)⟩

theorem asc3_lit (b : Nat) (x y z : Int) (r : Bool) (w : World) (h0 : w.cell? ⟨b, 0, none⟩ = some (.int .i64 x)) (h1 : w.cell? ⟨b, 1, none⟩ = some (.int .i64 y)) (h2 : w.cell? ⟨b, 2, none⟩ = some (.int .i64 z)) (h : decide (x ≤ y ∧ y ≤ z) = r) :
    Calls Try.prog 39 #[.slice (some ⟨b, 0, none⟩) 3 3] w fun e w' => e = .returned (.bool r) ∧ ∃ n, w' = w.drewN n := by
  have := asc3 b x y z w h0 h1 h2
  rwa [h] at this
theorem asc4_lit (b : Nat) (x y z u : Int) (r : Bool) (w : World) (h0 : w.cell? ⟨b, 0, none⟩ = some (.int .i64 x)) (h1 : w.cell? ⟨b, 1, none⟩ = some (.int .i64 y)) (h2 : w.cell? ⟨b, 2, none⟩ = some (.int .i64 z)) (h3 : w.cell? ⟨b, 3, none⟩ = some (.int .i64 u)) (h : decide (x ≤ y ∧ y ≤ z ∧ z ≤ u) = r) :
    Calls Try.prog 39 #[.slice (some ⟨b, 0, none⟩) 4 4] w fun e w' => e = .returned (.bool r) ∧ ∃ n, w' = w.drewN n := by
  have := asc4 b x y z u w h0 h1 h2 h3
  rwa [h] at this

end Go.Proofs.Ytfclodgfifbfbaa

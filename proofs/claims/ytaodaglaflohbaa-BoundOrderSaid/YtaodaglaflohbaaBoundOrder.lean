/- BoundOrder: the walk of the law. It returns true for every input, and leaves old memory alone. -/
import Derived.Test.YtaodaglaflohbaaPlain08c
import Derived.Test.YtaodaglaflohbaaOrderWays
namespace Go.Proofs.Ytaodaglaflohbaa
open Go.RowKit
set_option linter.unusedVariables false

theorem dis {x a b : Int} (h : x = a ∨ x = b) : (x == a) = true ∨ ((x == a) = false ∧ (x == b) = true) := by
  by_cases k : x = a
  · exact .inl (by simpa using k)
  · exact .inr ⟨by simpa using k, by simpa using h.resolve_left k⟩

theorem boundOrder_walk (al ah aa bl bh ba : Int) (w : World) (_1 : IntKind.i64.has al) (_2 : IntKind.i64.has ah) (_3 : IntKind.i64.has aa) (_4 : IntKind.i64.has bl) (_5 : IntKind.i64.has bh) (_6 : IntKind.i64.has ba) :
    Calls Try.prog 4 #[.agg #[.int .i64 al, .int .i64 ah, .int .i64 aa], .agg #[.int .i64 bl, .int .i64 bh, .int .i64 ba]] w fun e w' => e = .returned (.bool true) ∧ Below w.heap.size w w' := by
  obtain ⟨c1, c2, c3, c4⟩ := mt_comm al ah aa bl bh ba
  by_cases e : mtE al ah aa bl bh ba = 0
  · obtain ⟨va, vb⟩ := mt_valid (by rw [e]; decide : mtE al ah aa bl bh ba ≠ 1)
    have va' := vldS_iff.1 va
    have vb' := vldS_iff.1 vb
    rcases Int.lt_trichotomy aa ba with h | h | h
    · obtain ⟨r, z1, z2, z3⟩ := mc_zero (mt_le va vb (by omega)) e
      obtain ⟨g1, g2, g3, g4⟩ := gr_ok (okA_iff.2 ⟨va, by omega, by omega⟩) r
      refine boundOrder_P al ah aa bl bh ba _ _ _ _ _ w h ⟨rfl, rfl, rfl, e⟩ ⟨c1.symm, c2.symm, c3.symm, c4.symm.trans e⟩ ⟨g2, g3, g4, g1⟩ ?_ ?_ (dis ?_) (dis ?_)
      · rw [inS_iff]; omega
      · rw [inS_iff]; omega
      · omega
      · omega
    · subst h
      have rr := mc_zero (mt_le va vb (by omega)) e
      obtain ⟨r, z1, z2, z3⟩ := rr
      obtain ⟨q1, q2, q3, q4⟩ := z3.resolve_left (fun q => by omega)
      obtain ⟨g1, g2, g3, g4⟩ := gr_ok (okA_iff.2 ⟨va, by omega, by omega⟩) r
      obtain ⟨k1, k2, k3, k4⟩ := gr_ok (okA_iff.2 ⟨vb, by omega, by omega⟩) q2
      refine boundOrder_B al ah aa bl bh aa _ _ _ _ _ _ _ w (by simp) ⟨rfl, rfl, rfl, e⟩ ⟨c1.symm, c2.symm, c3.symm, c4.symm.trans e⟩ ⟨g2, g3, g4, g1⟩ ⟨k2, k3, k4, k1⟩ ?_ ?_ (dis ?_) (dis ?_)
      · rw [inS_iff]; omega
      · rw [inS_iff]; omega
      · omega
      · omega
    · obtain ⟨r, z1, z2, z3⟩ := mc_zero (mt_gt va vb h) e
      obtain ⟨g1, g2, g3, g4⟩ := gr_ok (okA_iff.2 ⟨vb, by omega, by omega⟩) r
      refine boundOrder_Q al ah aa bl bh ba _ _ _ _ _ w h ⟨rfl, rfl, rfl, e⟩ ⟨c1.symm, c2.symm, c3.symm, c4.symm.trans e⟩ ⟨g2, g3, g4, g1⟩ ?_ ?_ (dis ?_) (dis ?_)
      · rw [inS_iff]; omega
      · rw [inS_iff]; omega
      · omega
      · omega
  · obtain ⟨f1, f2, f3⟩ := mt_err e
    exact boundOrder_no al ah aa bl bh ba _ w (by simpa using e) ⟨f1, f2, f3, rfl⟩ ⟨c1.symm.trans f1, c2.symm.trans f2, c3.symm.trans f3, c4.symm⟩

end Go.Proofs.Ytaodaglaflohbaa

/- What is heard is within what was known and what was told; blocks of six cells. -/
import Derived.Test.YtfclodgfifbfbaaIs09
import Derived.Test.YtfclodgfifbfbaaPlain08c
import Derived.Test.YtfclodgfifbfbaaPlain10
namespace Go.Proofs.Ytfclodgfifbfbaa
open Go.RowKit

theorem own6 {w : World} {b : Nat} {t : TypeId} {x0 x1 x2 x3 x4 x5 : Value} (h : Own w b [x0, x1, x2, x3, x4, x5] t) : w.cell? ⟨b, 0, none⟩ = some x0 ∧ w.cell? ⟨b, 1, none⟩ = some x1 ∧ w.cell? ⟨b, 2, none⟩ = some x2 ∧ w.cell? ⟨b, 3, none⟩ = some x3 ∧ w.cell? ⟨b, 4, none⟩ = some x4 ∧ w.cell? ⟨b, 5, none⟩ = some x5 ∧ (∀ o, w.frozen? ⟨b, o, none⟩ = false) ∧ b < w.heap.size := ⟨h.cell rfl, h.cell rfl, h.cell rfl, h.cell rfl, h.cell rfl, h.cell rfl, h.frozen, h.lt⟩

theorem gr_now {l h a n : Int} (v : vldS l h a = true) (r : okR l h a n = true) (h1 : a ≤ n) (h2 : n ≤ 20000000000000) : grE l h a n = 0 := (gr_ok (okA_iff.2 ⟨v, h1, h2⟩) r).1

/-- A hint that is taken by a synchronized state: the three ways of the meeting. -/
theorem better {l h a k src he f p b s c : Int} (hC : hrC true l h a k src he f p b s c = true) :
    (a < heA s b c ∧ hrA true l h a s b c = heA s b c ∧ grE l h a (heA s b c) = 0 ∧ grL l h a (heA s b c) ≤ hrL true l h a s b c ∧ hrH true l h a s b c ≤ grH l h a (heA s b c) ∧ heL s b c ≤ hrL true l h a s b c ∧ hrH true l h a s b c ≤ heH s b c) ∨
    (heA s b c < a ∧ hrA true l h a s b c = a ∧ grE (heL s b c) (heH s b c) (heA s b c) a = 0 ∧ l ≤ hrL true l h a s b c ∧ hrH true l h a s b c ≤ h ∧ grL (heL s b c) (heH s b c) (heA s b c) a ≤ hrL true l h a s b c ∧ hrH true l h a s b c ≤ grH (heL s b c) (heH s b c) (heA s b c) a) ∨
    (heA s b c = a ∧ hrA true l h a s b c = a ∧ grE l h a a = 0 ∧ grE (heL s b c) (heH s b c) a a = 0 ∧ grL l h a a ≤ hrL true l h a s b c ∧ hrH true l h a s b c ≤ grH l h a a ∧ grL (heL s b c) (heH s b c) a a ≤ hrL true l h a s b c ∧ hrH true l h a s b c ≤ grH (heL s b c) (heH s b c) a a) := by
  obtain ⟨v, vh, hf, tk, he0⟩ := hr_new hC
  have hV : hrV true l h a k src he f p b s c = true := by simp [hrV, v, vh, hf]
  have e : mtE l h a (heL s b c) (heH s b c) (heA s b c) = 0 := by simpa [hrE, hV, tk] using he0
  obtain ⟨va, vb⟩ := mt_valid (by rw [e]; decide : mtE l h a (heL s b c) (heH s b c) (heA s b c) ≠ 1)
  have va' := vldS_iff.1 va
  have vb' := vldS_iff.1 vb
  simp only [hrL, hrH, hrA, if_true]
  generalize heL s b c = U at *
  generalize heH s b c = V at *
  generalize heA s b c = A at *
  rcases Int.lt_trichotomy a A with c | c | c
  · obtain ⟨r, z1, z2, z3⟩ := mc_zero (mt_le va vb (by omega)) e
    have g := gr_now va r (by omega) (by omega)
    obtain ⟨_, _, g1, g2, _⟩ := gr_zero g
    refine .inl ⟨c, z1, g, ?_⟩
    rw [g1, g2]
    rcases z3 with z3 | z3 <;> omega
  · subst c
    obtain ⟨r, z1, z2, z3⟩ := mc_zero (mt_le va vb (by omega)) e
    rcases z3 with z3 | ⟨_, r2, z3, z4⟩
    · omega
    · have g := gr_now va r (by omega) (by omega)
      have g' := gr_now vb r2 (by omega) (by omega)
      obtain ⟨_, _, g1, g2, _⟩ := gr_zero g
      obtain ⟨_, _, g3, g4, _⟩ := gr_zero g'
      refine .inr (.inr ⟨rfl, z1, g, g', ?_⟩)
      rw [g1, g2, g3, g4]
      omega
  · obtain ⟨r, z1, z2, z3⟩ := mc_zero (mt_gt va vb c) e
    have g := gr_now vb r (by omega) (by omega)
    obtain ⟨_, _, g1, g2, _⟩ := gr_zero g
    refine .inr (.inl ⟨c, z1, g, ?_⟩)
    rw [g1, g2]
    rcases z3 with z3 | z3 <;> omega

end Go.Proofs.Ytfclodgfifbfbaa

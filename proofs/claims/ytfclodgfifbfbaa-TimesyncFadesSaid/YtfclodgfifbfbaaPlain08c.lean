/- Plain facts about the meeting of two spans: that it is symmetric, where it lies, that it keeps order. No program is in sight here. -/
import Derived.Test.YtfclodgfifbfbaaPlain08b
namespace Go.Proofs.Ytfclodgfifbfbaa

theorem gm_pos {e : Int} (h : 0 ≤ e) : 1 ≤ gm e := by unfold gm; omega

/-- What a meeting without an error says. -/
theorem mc_zero {xl xh xa yl yh ya L H A E : Int} (h : MC xl xh xa yl yh ya L H A E) (e : E = 0) :
    okR xl xh xa ya = true ∧ A = ya ∧ L ≤ H ∧ ((xa < ya ∧ L = max (xl - gm (ya - xa)) yl ∧ H = min (xh + gm (ya - xa)) yh) ∨
      (xa = ya ∧ okR yl yh ya ya = true ∧ L = max (xl - gm (ya - xa)) (yl - gm (ya - ya)) ∧ H = min (xh + gm (ya - xa)) (yh + gm (ya - ya)))) := by
  unfold MC at h
  simp only [mx_max, mn_min] at h
  rcases h with ⟨_, _, _, _, h⟩ | ⟨_, _, _, _, _, _, h⟩ | ⟨r, lt, c, l, h, a, _⟩ | ⟨_, _, _, _, _, _, h⟩ | ⟨_, _, _, _, _, _, _, h⟩ | ⟨r, eq, r2, c, l, h, a, _⟩
  · omega
  · omega
  · exact ⟨r, a, by omega, .inl ⟨lt, l, h⟩⟩
  · omega
  · omega
  · exact ⟨r, a, by omega, .inr ⟨eq, r2, l, h⟩⟩

/-- What a meeting with an error says. -/
theorem mc_err {xl xh xa yl yh ya L H A E : Int} (h : MC xl xh xa yl yh ya L H A E) (e : E ≠ 0) :
    L = 0 ∧ H = 0 ∧ A = 0 ∧ (E = 3 ∨ (E = 16 ∧ okR xl xh xa ya = true ∧ ((xa < ya ∧ min (xh + gm (ya - xa)) yh < max (xl - gm (ya - xa)) yl) ∨
      (xa = ya ∧ okR yl yh ya ya = true ∧ min (xh + gm (ya - xa)) (yh + gm (ya - ya)) < max (xl - gm (ya - xa)) (yl - gm (ya - ya)))))) := by
  unfold MC at h
  simp only [mx_max, mn_min] at h
  rcases h with ⟨_, l, h, a, h'⟩ | ⟨r, lt, c, l, h, a, h'⟩ | ⟨_, _, _, _, _, _, h'⟩ | ⟨_, _, _, l, h, a, h'⟩ | ⟨r, eq, r2, c, l, h, a, h'⟩ | ⟨_, _, _, _, _, _, _, h'⟩
  · exact ⟨l, h, a, .inl h'⟩
  · exact ⟨l, h, a, .inr ⟨h', r, .inl ⟨lt, c⟩⟩⟩
  · exact absurd h' e
  · exact ⟨l, h, a, .inl h'⟩
  · exact ⟨l, h, a, .inr ⟨h', r, .inr ⟨eq, r2, c⟩⟩⟩
  · exact absurd h' e

theorem mt_err {al ah aa bl bh ba : Int} (e : mtE al ah aa bl bh ba ≠ 0) : mtL al ah aa bl bh ba = 0 ∧ mtH al ah aa bl bh ba = 0 ∧ mtA al ah aa bl bh ba = 0 := by
  by_cases k : vldS al ah aa = true ∧ vldS bl bh ba = true
  · by_cases h : ba < aa
    · exact ⟨(mc_err (mt_gt k.1 k.2 h) e).1, (mc_err (mt_gt k.1 k.2 h) e).2.1, (mc_err (mt_gt k.1 k.2 h) e).2.2.1⟩
    · exact ⟨(mc_err (mt_le k.1 k.2 (by omega)) e).1, (mc_err (mt_le k.1 k.2 (by omega)) e).2.1, (mc_err (mt_le k.1 k.2 (by omega)) e).2.2.1⟩
  · exact ⟨(mt_no k).1, (mt_no k).2.1, (mt_no k).2.2.1⟩

theorem mx_comm (a b : Int) : mx a b = mx b a := by rw [mx_max, mx_max]; omega
theorem mn_comm (a b : Int) : mn a b = mn b a := by rw [mn_min, mn_min]; omega

/-- It is symmetric. -/
theorem mt_comm (al ah aa bl bh ba : Int) :
    mtL al ah aa bl bh ba = mtL bl bh ba al ah aa ∧ mtH al ah aa bl bh ba = mtH bl bh ba al ah aa ∧ mtA al ah aa bl bh ba = mtA bl bh ba al ah aa ∧ mtE al ah aa bl bh ba = mtE bl bh ba al ah aa := by
  by_cases k : vldS al ah aa = true ∧ vldS bl bh ba = true
  · obtain ⟨ka, kb⟩ := k
    rcases Int.lt_trichotomy aa ba with h | h | h
    · have h' : ¬ ba < aa := by omega
      simp [mtL, mtH, mtA, mtE, ka, kb, h, h']
    · subst h
      simp only [mtL, mtH, mtA, mtE, ka, kb, and_self, if_true, Int.lt_irrefl, if_false]
      have he : mcE al ah aa bl bh aa = mcE bl bh aa al ah aa := by
        simp only [mcE, Int.lt_irrefl, if_false, mx_comm (al - gm (aa - aa)), mn_comm (ah + gm (aa - aa))]
        cases okR al ah aa aa <;> cases okR bl bh aa aa <;> simp
      refine ⟨?_, ?_, ?_, he⟩
      · simp only [mcL, he, Int.lt_irrefl, if_false, mx_comm (al - gm (aa - aa))]
      · simp only [mcH, he, Int.lt_irrefl, if_false, mn_comm (ah + gm (aa - aa))]
      · simp only [mcA, he]
    · have h' : ¬ aa < ba := by omega
      simp [mtL, mtH, mtA, mtE, ka, kb, h, h']
  · have k' : ¬(vldS bl bh ba = true ∧ vldS al ah aa = true) := fun q => k ⟨q.2, q.1⟩
    obtain ⟨e1, e2, e3, e4⟩ := mt_no k
    obtain ⟨f1, f2, f3, f4⟩ := mt_no k'
    rw [e1, e2, e3, e4, f1, f2, f3, f4]
    exact ⟨rfl, rfl, rfl, rfl⟩

theorem mt_valid {al ah aa bl bh ba : Int} (e : mtE al ah aa bl bh ba ≠ 1) : vldS al ah aa = true ∧ vldS bl bh ba = true := by
  by_cases k : vldS al ah aa = true ∧ vldS bl bh ba = true
  · exact k
  · exact absurd (mt_no k).2.2.2 e

/-- What a wider span and a third one say together. -/
theorem mt_wider {l h a l' h' bl bh ba : Int} (h1 : l' ≤ l) (h2 : h ≤ h') (e : mtE l h a bl bh ba = 0) :
    (mtE l' h' a bl bh ba = 0 ∨ mtE l' h' a bl bh ba = 1 ∨ mtE l' h' a bl bh ba = 3) ∧
    (mtE l' h' a bl bh ba = 0 → mtA l h a bl bh ba = mtA l' h' a bl bh ba ∧ mtL l' h' a bl bh ba ≤ mtL l h a bl bh ba ∧ mtH l h a bl bh ba ≤ mtH l' h' a bl bh ba) := by
  obtain ⟨va, vb⟩ := mt_valid (by rw [e]; decide : mtE l h a bl bh ba ≠ 1)
  by_cases v' : vldS l' h' a = true
  · by_cases c : ba < a
    · have m := mt_gt va vb c
      have m' := mt_gt v' vb c
      obtain ⟨r, z1, z2, z3⟩ := mc_zero m e
      by_cases e' : mtE l' h' a bl bh ba = 0
      · refine ⟨.inl e', fun _ => ?_⟩
        obtain ⟨r', y1, y2, y3⟩ := mc_zero m' e'
        rcases z3 with z3 | z3 <;> rcases y3 with y3 | y3 <;> omega
      · refine ⟨.inr (.inr ?_), fun q => absurd q e'⟩
        obtain ⟨_, _, _, q | ⟨_, _, q⟩⟩ := mc_err m' e'
        · exact q
        · rcases z3 with z3 | z3 <;> rcases q with q | q <;> omega
    · have m := mt_le va vb (by omega)
      have m' := mt_le v' vb (by omega)
      obtain ⟨r, z1, z2, z3⟩ := mc_zero m e
      by_cases e' : mtE l' h' a bl bh ba = 0
      · refine ⟨.inl e', fun _ => ?_⟩
        obtain ⟨r', y1, y2, y3⟩ := mc_zero m' e'
        rcases z3 with z3 | z3 <;> rcases y3 with y3 | y3 <;> omega
      · refine ⟨.inr (.inr ?_), fun q => absurd q e'⟩
        obtain ⟨_, _, _, q | ⟨_, _, q⟩⟩ := mc_err m' e'
        · exact q
        · rcases z3 with z3 | z3 <;> rcases q with q | q <;> omega
  · have e1 := (mt_no (fun q => v' q.1) : mtL l' h' a bl bh ba = 0 ∧ mtH l' h' a bl bh ba = 0 ∧ mtA l' h' a bl bh ba = 0 ∧ mtE l' h' a bl bh ba = 1).2.2.2
    exact ⟨.inr (.inl e1), fun q => by rw [e1] at q; cases q⟩

end Go.Proofs.Ytfclodgfifbfbaa

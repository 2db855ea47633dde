/- Plain facts about hearing and the bound of a state whose span is true. No program is in sight here. -/
import Derived.Test.YthnilgmafbkdkaaPlain10b
import Derived.Test.YthnilgmafbkdkaaHear
namespace Go.Proofs.Ythnilgmafbkdkaa

/-- The span is true for the clock at the true time. -/
def hoP (l h a o d t : Int) : Prop := okS o d t = true ∧ a = atI o d t ∧ l ≤ t - atI o d t ∧ t - atI o d t ≤ h

/-- Hearing a frame that began within its bound: no contradiction; what is taken is true. -/
theorem truth_hear {sy : Bool} {l h a k src he f p b o d t G at' : Int} (hv : vldT sy l h a k src he = true) (hr : (sy && (k == 0)) = false) (hs : sy = true → hoP l h a o d t)
    (hh : vldH G b (atI o d at') = true) (hf : 0 ≤ f ∧ f < 60 ∧ 0 ≤ p ∧ p < 60) (hk : okS o d at' = true) (h1 : G * 10000 - b ≤ at') (h2 : at' ≤ G * 10000 + b) (h3 : t ≤ at') :
    hrE sy l h a k src he f p b G (atI o d at') ≠ 16 ∧ hrE sy l h a k src he f p b G (atI o d at') ≠ 1 ∧
    (tkB sy k src f p = true → hrE sy l h a k src he f p b G (atI o d at') = 0 → hoP (hrL sy l h a G b (atI o d at')) (hrH sy l h a G b (atI o d at')) (hrA sy l h a G b (atI o d at')) o d at') := by
  have hV : hrV sy l h a k src he f p b G (atI o d at') = true := by simp [hrV, hv, hh, hf]
  obtain ⟨_, e1, e2, e3⟩ := he_ok hh
  obtain ⟨g1, g2, g3, g4, g5, g6⟩ := vldH_iff.1 hh
  cases hk2 : tkB sy k src f p with
  | false =>
    have e : hrE sy l h a k src he f p b G (atI o d at') = 0 := by simp [hrE, hV, hk2]
    rw [e]; exact ⟨by omega, by omega, fun q => by cases q⟩
  | true =>
    cases sy with
    | false =>
      have e : hrE false l h a k src he f p b G (atI o d at') = 0 := by simp [hrE, hV, hk2]
      rw [e]
      refine ⟨by omega, by omega, fun _ _ => ⟨hk, ?_, ?_, ?_⟩⟩
      · simp [hrA, e3]
      · simp only [hrL, e1]; simp; omega
      · simp only [hrH, e2]; simp; omega
    | true =>
      have e : hrE true l h a k src he f p b G (atI o d at') = mtE l h a (G * 10000 - atI o d at' - b) (G * 10000 - atI o d at' + b) (atI o d at') := by simp [hrE, hV, hk2, e1, e2, e3]
      rw [e]
      obtain ⟨t1, t2, t3, t4⟩ := hs rfl
      have k0 : k ≠ 0 := by simpa using hr
      have va : vldS l h a = true := by rcases (vldT_on hv rfl).2 with q | ⟨_, _, q⟩; · exact absurd q k0
                                        · exact q
      obtain ⟨⟨v1, v2, v3, v4⟩, v5, v6⟩ := okS_iff.1 hk
      have hb := at_bd (o := o) (d := d) v1 v2 v3 v4 (show -1 ≤ at' by omega) (by omega)
      have vb : vldS (G * 10000 - atI o d at' - b) (G * 10000 - atI o d at' + b) (atI o d at') = true := vldS_iff.2 (by omega)
      obtain ⟨m1, m2, m3⟩ := drift_grow (o := o) v3 v4 h3
      rw [← t2] at m1 m2 m3
      have m := mt_le va vb m1
      simp only [hrL, hrH, hrA, if_true, e1, e2, e3]
      have g0 : gm (atI o d at' - atI o d at') = 1 := by rw [show atI o d at' - atI o d at' = 0 by omega]; rfl
      generalize mtL l h a (G * 10000 - atI o d at' - b) (G * 10000 - atI o d at' + b) (atI o d at') = ML at *
      generalize mtH l h a (G * 10000 - atI o d at' - b) (G * 10000 - atI o d at' + b) (atI o d at') = MH at *
      generalize mtA l h a (G * 10000 - atI o d at' - b) (G * 10000 - atI o d at' + b) (atI o d at') = MA at *
      generalize mtE l h a (G * 10000 - atI o d at' - b) (G * 10000 - atI o d at' + b) (atI o d at') = ME at *
      by_cases q : ME = 0
      · refine ⟨by omega, by omega, fun _ _ => ⟨hk, ?_⟩⟩
        obtain ⟨_, z1, _, z3⟩ := mc_zero m q
        rcases z3 with ⟨_, z3, z4⟩ | ⟨z0, _, z3, z4⟩
        · refine ⟨z1, ?_, ?_⟩ <;> omega
        · refine ⟨z1, ?_, ?_⟩ <;> omega
      · obtain ⟨_, _, _, z⟩ := mc_err m q
        rcases z with z | ⟨z, _, z3⟩
        · refine ⟨by omega, by omega, fun _ q' => absurd q' q⟩
        · exfalso
          rcases z3 with ⟨_, z3⟩ | ⟨_, _, z3⟩ <;> omega

theorem bdN_rng (l h a k src he n : Int) (e : bdE true l h a k src he n = 0) : 0 ≤ bdN true l h a k src he n ∧ bdN true l h a k src he n ≤ 2000 := by
  by_cases hk : k = 0
  · simp [bdN, hk]
  · obtain ⟨_, g, q⟩ := bd_zero e hk
    rw [bdN_ok e hk]
    have kr := (gr_zero g).2.1
    unfold okR at kr
    rw [vldS_iff] at kr
    refine ⟨?_, q⟩
    unfold hafT
    omega

/-- The estimate of the true time is within the bound. -/
theorem estimate_ok {l h a k src he o d t later : Int} (hk : k ≠ 0) (ht : hoP l h a o d t) (h1 : 0 ≤ later) (e : bdE true l h a k src he (atI o d (t + later)) = 0) :
    grE l h a (atI o d (t + later)) = 0 ∧
    t + later - (atI o d (t + later) + (grL l h a (atI o d (t + later)) + grH l h a (atI o d (t + later))) / 2) ≤ bdN true l h a k src he (atI o d (t + later)) ∧
    atI o d (t + later) + (grL l h a (atI o d (t + later)) + grH l h a (atI o d (t + later))) / 2 - t - later ≤ bdN true l h a k src he (atI o d (t + later)) := by
  obtain ⟨_, g, q⟩ := bd_zero e hk
  obtain ⟨_, _, e1, e2, _⟩ := gr_zero g
  obtain ⟨t1, t2, t3, t4⟩ := ht
  obtain ⟨⟨v1, v2, v3, v4⟩, v5, v6⟩ := okS_iff.1 t1
  obtain ⟨m1, m2, m3⟩ := drift_grow (o := o) v3 v4 (show t ≤ t + later by omega)
  rw [← t2] at m1 m2 m3
  refine ⟨g, ?_⟩
  rw [bdN_ok e hk, e1, e2]
  have : hafT l h a (atI o d (t + later)) = (h - l + 2 * gm (atI o d (t + later) - a) + 1) / 2 := rfl
  omega

end Go.Proofs.Ythnilgmafbkdkaa

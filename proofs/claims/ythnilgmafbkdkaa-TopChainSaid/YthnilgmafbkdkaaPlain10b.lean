/- Plain facts about slots that nodes with true spans begin: on time, caught, apart. No program is in sight here. -/
import Derived.Test.YthnilgmafbkdkaaPlain10
import Derived.Test.YthnilgmafbkdkaaPlain08c
namespace Go.Proofs.Ythnilgmafbkdkaa

/-- A state is true for a clock at a true time. -/
def truS (l h a t s : Int) : Bool := decide (a = s ∧ l ≤ t - s ∧ t - s ≤ h)
def itB (sy : Bool) (l h a k src he o d t : Int) : Bool :=
  vldT sy l h a k src he && vldB o d && sy && decide (0 ≤ t ∧ t ≤ 10000000000000) && (if k = 0 then decide (o = 0 ∧ d = 0) else truS l h a t (atI o d t))
theorem it_out {sy : Bool} {l h a k src he o d t : Int} (e : itB sy l h a k src he o d t = true) :
    vldT sy l h a k src he = true ∧ vldB o d = true ∧ sy = true ∧ 0 ≤ t ∧ t ≤ 10000000000000 ∧ ((k = 0 ∧ o = 0 ∧ d = 0) ∨ (k ≠ 0 ∧ a = atI o d t ∧ l ≤ t - atI o d t ∧ t - atI o d t ≤ h)) := by
  simp only [itB, Bool.and_eq_true, decide_eq_true_eq] at e
  obtain ⟨⟨⟨⟨e1, e2⟩, e3⟩, e4, e5⟩, e6⟩ := e
  refine ⟨e1, e2, e3, e4, e5, ?_⟩
  split at e6
  · rename_i q; simp only [decide_eq_true_eq] at e6; exact .inl ⟨q, e6.1, e6.2⟩
  · rename_i q; simp only [truS, decide_eq_true_eq] at e6; exact .inr ⟨q, e6.1, e6.2.1, e6.2.2⟩

theorem drift_grow {o d x y : Int} (h1 : -50 ≤ d) (h2 : d ≤ 50) (h : x ≤ y) :
    atI o d x ≤ atI o d y ∧ x - atI o d x - gm (atI o d y - atI o d x) ≤ y - atI o d y ∧ y - atI o d y ≤ x - atI o d x + gm (atI o d y - atI o d x) := by
  have hm := at_mono (o := o) h1 h
  have hr := at_rate (o := o) (t := x) h1 h2 (show 0 ≤ y - x by omega)
  rw [show x + (y - x) = y by omega] at hr
  unfold gm
  generalize atI o d x = A at *
  generalize atI o d y = B at *
  refine ⟨hm, ?_, ?_⟩ <;> omega

theorem gm_next (e : Int) : gm (e + 1) ≤ gm e + 1 := by unfold gm; omega

/-- The least true time at which a clock shows at least s, where it lies in the range. -/
theorem lst_at {o d s : Int} (h1 : -50 ≤ d) (q : lst o d s ≤ 10000000000000) : s ≤ atI o d (lst o d s) := (lst_le h1 (lst_bd o d s).1 q).1 (Int.le_refl _)
theorem lst_before {o d s : Int} (h1 : -50 ≤ d) (q : lst o d s ≤ 10000000000001) (p : 0 < lst o d s) : atI o d (lst o d s - 1) < s := by
  refine Int.not_le.1 fun hh => ?_
  have := (lst_le (o := o) (s := s) h1 (t := lst o d s - 1) (by omega) (by omega)).2 hh
  omega
theorem lst_exact {s : Int} (h0 : 0 ≤ s) (h1 : s ≤ 10000000000000) : lst 0 0 s = s := by
  have b := lst_bd 0 0 s
  have e : ∀ t, atI 0 0 t = t := by intro t; simp [atI]
  have u := (lst_le (o := 0) (d := 0) (s := s) (t := s) (by omega) h0 h1).2 (by rw [e]; omega)
  have v := lst_at (o := 0) (d := 0) (s := s) (by omega) (by omega)
  rw [e] at v; omega

theorem on_time {sy : Bool} {l h a k src he o d t asn : Int} (e : itB sy l h a k src he o d t = true) (g : gsE sy l h a k src he o d asn = 0) :
    gsN sy l h a k src he o d asn ≤ gsB sy l h a k src he o d asn + 2 ∧ -gsB sy l h a k src he o d asn - 2 ≤ gsN sy l h a k src he o d asn ∧ 0 ≤ gsB sy l h a k src he o d asn ∧ gsB sy l h a k src he o d asn ≤ 2000 := by
  obtain ⟨e1, e2, e3, e4, e5, e6⟩ := it_out e
  obtain ⟨_, ⟨g1, g2⟩, _, _, g5, g6⟩ := gs_zero g
  subst e3
  have n1 : gsN true l h a k src he o d asn = lst o d (ownT k l h asn) - asn * 10000 := by simp [gsN, g]
  have n2 : gsB true l h a k src he o d asn = bdN true l h a k src he (ownT k l h asn) := by simp [gsB, g]
  rw [n1, n2]
  rcases e6 with ⟨rfl, rfl, rfl⟩ | ⟨hk, ha, hl, hh⟩
  · have : ownT 0 l h asn = asn * 10000 := by simp [ownT]
    rw [this, lst_exact (by omega) (by omega)]
    simp [bdN]
  · obtain ⟨v1, v2, v3, v4⟩ := vld_out e2
    have k1 : 0 < k := by rcases (vldT_on e1 rfl).2 with q | q <;> omega
    obtain ⟨_, gr, hf⟩ := bd_zero g5 hk
    rw [bdN_ok g5 hk]
    have hown : ownT k l h asn = asn * 10000 - (l + h) / 2 := by simp [ownT, k1]
    have hle := gr_le gr
    have kr := (gr_zero gr).2.1
    unfold okR at kr
    rw [vldS_iff] at kr
    have hb := lst_bd o d (ownT k l h asn)
    have hat := lst_at (o := o) v3 g6
    generalize hO : ownT k l h asn = O at *
    generalize hT : lst o d O = T at *
    have hh0 : hafT l h a O = (h - l + 2 * gm (O - a) + 1) / 2 := rfl
    rw [hh0] at hf ⊢
    by_cases c : t ≤ T
    · have up : atI o d T ≤ O + 1 := by
        by_cases p : 0 < T
        · have := lst_before (o := o) (d := d) (s := O) v3 (by omega) (by omega)
          rw [hT] at this
          have := (at_succ (o := o) (t := T - 1) v3 v4).2
          rw [show T - 1 + 1 = T by omega] at this
          omega
        · have : T = t := by omega
          rw [this] at *; omega
      obtain ⟨m1, m2, m3⟩ := drift_grow (o := o) v3 v4 c
      have nx := gm_next (O - a)
      rcases (show atI o d T = O ∨ atI o d T = O + 1 by omega) with q | q
      · rw [q, ← ha] at m2 m3
        omega
      · rw [q, ← ha] at m2 m3
        rw [show O + 1 - a = O - a + 1 by omega] at m2 m3
        omega
    · have m := at_mono (o := o) v3 (show T ≤ t by omega)
      have eq : atI o d T = O := by omega
      have t1 : t ≤ T + 1 := by
        refine Int.not_lt.1 fun hc => ?_
        have m2 := at_mono (o := o) v3 (show T + 2 ≤ t by omega)
        have := at_two (o := o) (t := T) v3 v4
        omega
      have g0 : gm (O - a) = 1 := by rw [show O - a = 0 by omega]; rfl
      omega

/-- Each one catches the frame of the other one. -/
theorem caught {N B M C : Int} (h1 : N ≤ B + 2) (h2 : -B - 2 ≤ N) (h3 : B ≤ 2000) (h4 : M ≤ C + 2) (h5 : -C - 2 ≤ M) : M - (2004 + C) ≤ N ∧ N ≤ M + (2004 + C) := by omega

/-- Two slots, one after the other. -/
theorem slots {sy : Bool} {l h a k src he o d asn : Int} (e : gsE sy l h a k src he o d asn = 0) (f : gsE sy l h a k src he o d (asn + 1) = 0) (hz : gsN sy l h a k src he o d asn ≠ -(asn * 10000)) :
    9998 ≤ gsN sy l h a k src he o d (asn + 1) + 10000 - gsN sy l h a k src he o d asn ∧ gsN sy l h a k src he o d (asn + 1) + 10000 - gsN sy l h a k src he o d asn ≤ 10002 := by
  obtain ⟨v, _, _, _, _, g6⟩ := gs_zero e
  obtain ⟨_, _, _, _, _, f6⟩ := gs_zero f
  obtain ⟨v1, v2, v3, v4⟩ := vld_out v
  simp only [gsN, e, f, if_true] at hz ⊢
  have ho : ownT k l h (asn + 1) = ownT k l h asn + 10000 := by unfold ownT; split <;> omega
  rw [ho] at f6 ⊢
  have b1 := lst_bd o d (ownT k l h asn)
  have b2 := lst_bd o d (ownT k l h asn + 10000)
  generalize ownT k l h asn = O at *
  have mo := lst_mono (o := o) v3 (show O ≤ O + 10000 by omega)
  have a1 := lst_at (o := o) v3 g6
  have a2 := lst_at (o := o) v3 f6
  have p1 := lst_before (o := o) (d := d) (s := O) v3 (by omega) (by omega)
  have p2 := lst_before (o := o) (d := d) (s := O + 10000) v3 (by omega) (by omega)
  generalize lst o d O = T at *
  generalize lst o d (O + 10000) = U at *
  have ne : T ≠ U := by
    intro q
    subst q
    have := (at_succ (o := o) (t := T - 1) v3 v4).2
    rw [show T - 1 + 1 = T by omega] at this
    omega
  have r1 := at_rate (o := o) (t := T) (n := U - 1 - T) v3 v4 (by omega)
  have r2 := at_rate (o := o) (t := T - 1) (n := U - T + 1) v3 v4 (by omega)
  rw [show T + (U - 1 - T) = U - 1 by omega] at r1
  rw [show T - 1 + (U - T + 1) = U by omega] at r2
  omega

/-- The window of a later slot is not narrower. -/
theorem wider {sy : Bool} {l h a k src he o d asn more : Int} (hm : 0 ≤ more) (e : gsE sy l h a k src he o d asn = 0) (f : gsE sy l h a k src he o d (asn + more) = 0) : gsB sy l h a k src he o d asn ≤ gsB sy l h a k src he o d (asn + more) := by
  obtain ⟨_, _, _, hs, g5, _⟩ := gs_zero e
  obtain ⟨_, _, _, _, f5, _⟩ := gs_zero f
  subst hs
  simp only [gsB, e, f, if_true]
  by_cases hk : k = 0
  · simp [bdN, hk]
  · rw [bdN_ok g5 hk, bdN_ok f5 hk]
    exact hafT_mono (by unfold ownT; split <;> omega)

end Go.Proofs.Ythnilgmafbkdkaa

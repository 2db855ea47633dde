/- Plain facts about when a node begins a slot: its own time, the error, the time. No program is in sight here. -/
import Derived.Test.YtfclodgfifbfbaaPlain09
import Derived.Test.YtfclodgfifbfbaaPlain07
import Derived.Test.YtfclodgfifbfbaaPlain08c
namespace Go.Proofs.Ytfclodgfifbfbaa

/-- The own time of a slot's beginning. -/
def ownT (k l h asn : Int) : Int := if 0 < k then asn * 10000 - (l + h) / 2 else asn * 10000

/-- What a node that begins a slot asks for. -/
def gsV (sy : Bool) (l h a k src he o d asn : Int) : Bool := vldB o d && decide (0 ≤ asn ∧ asn < 1000000000) && vldT sy l h a k src he
def gsE (sy : Bool) (l h a k src he o d asn : Int) : Int :=
  if gsV sy l h a k src he o d asn = false then 1 else if sy = false then 16 else
  if bdE sy l h a k src he (ownT k l h asn) = 0 then (if lst o d (ownT k l h asn) ≤ 10000000000000 then 0 else 3) else bdE sy l h a k src he (ownT k l h asn)
def gsN (sy : Bool) (l h a k src he o d asn : Int) : Int := if gsE sy l h a k src he o d asn = 0 then lst o d (ownT k l h asn) - asn * 10000 else 0
def gsB (sy : Bool) (l h a k src he o d asn : Int) : Int := if gsE sy l h a k src he o d asn = 0 then bdN sy l h a k src he (ownT k l h asn) else 0

theorem vldT_on {sy : Bool} {l h a k src he : Int} (h1 : vldT sy l h a k src he = true) (h2 : sy = true) : okN src he = true ∧ (k = 0 ∨ (1 ≤ k ∧ k ≤ 60 ∧ vldS l h a = true)) := by
  subst h2
  simp only [vldT, Bool.and_eq_true, if_true, Bool.or_eq_true, beq_iff_eq, decide_eq_true_eq] at h1
  exact ⟨h1.1, h1.2.imp id fun ⟨⟨x, y⟩, z⟩ => ⟨x, y, z⟩⟩

theorem gs_zero {sy : Bool} {l h a k src he o d asn : Int} (e : gsE sy l h a k src he o d asn = 0) :
    vldB o d = true ∧ (0 ≤ asn ∧ asn < 1000000000) ∧ vldT sy l h a k src he = true ∧ sy = true ∧ bdE sy l h a k src he (ownT k l h asn) = 0 ∧ lst o d (ownT k l h asn) ≤ 10000000000000 := by
  unfold gsE at e
  split at e
  · omega
  · rename_i hv
    simp only [gsV, Bool.and_eq_true, decide_eq_true_eq, Bool.not_eq_false] at hv
    split at e
    · omega
    · rename_i hs
      split at e
      · rename_i hb
        split at e
        · rename_i hl
          exact ⟨hv.1.1, hv.1.2, hv.2, by simpa using hs, hb, hl⟩
        · omega
      · exact absurd e (by assumption)

theorem gs_mk {sy : Bool} {l h a k src he o d asn : Int} (h1 : vldB o d = true) (h2 : 0 ≤ asn) (h3 : asn < 1000000000) (h4 : vldT sy l h a k src he = true) (h5 : sy = true)
    (h6 : bdE sy l h a k src he (ownT k l h asn) = 0) (h7 : lst o d (ownT k l h asn) ≤ 10000000000000) : gsE sy l h a k src he o d asn = 0 := by
  subst h5
  simp [gsE, gsV, h1, h2, h3, h4, h6, h7]

theorem bd_mk {l h a k src he n : Int} (h1 : vldT true l h a k src he = true) (hk : k ≠ 0) (h2 : grE l h a n = 0) (h3 : hafT l h a n ≤ 2000) : bdE true l h a k src he n = 0 := by
  simp only [bdE, h1, hk, h2]; simp; omega
theorem bd_late {l h a k src he n : Int} (h1 : vldT true l h a k src he = true) (hk : k ≠ 0) (h2 : grE l h a n = 0) (h3 : 2000 < hafT l h a n) : bdE true l h a k src he n = 16 := by
  simp only [bdE, h1, hk, h2]; simp; omega
theorem bd_gr {l h a k src he n : Int} (h1 : vldT true l h a k src he = true) (hk : k ≠ 0) (h2 : grE l h a n ≠ 0) : bdE true l h a k src he n = grE l h a n := by
  simp only [bdE, h1, hk, h2]; simp
theorem bd_zero {l h a k src he n : Int} (e : bdE true l h a k src he n = 0) (hk : k ≠ 0) :
    vldT true l h a k src he = true ∧ grE l h a n = 0 ∧ hafT l h a n ≤ 2000 := by
  cases hv : vldT true l h a k src he with
  | false => simp [bdE, hv] at e
  | true =>
    by_cases g : grE l h a n = 0
    · by_cases q : 2000 < hafT l h a n
      · rw [bd_late hv hk g q] at e; omega
      · exact ⟨rfl, g, by omega⟩
    · rw [bd_gr hv hk g] at e; exact absurd e g
theorem bdN_ok {l h a k src he n : Int} (e : bdE true l h a k src he n = 0) (hk : k ≠ 0) : bdN true l h a k src he n = hafT l h a n := by simp [bdN, e, hk]

theorem gm_mono {e f : Int} (h : e ≤ f) : gm e ≤ gm f := by unfold gm; omega
theorem hafT_mono {l h a n m : Int} (q : n ≤ m) : hafT l h a n ≤ hafT l h a m := by
  have := gm_mono (show n - a ≤ m - a by omega)
  unfold hafT; omega

/-- What grows to a later time without an error grows to an earlier one. -/
theorem gr_early {l h a n m : Int} (e : grE l h a m = 0) (h1 : a ≤ n) (h2 : n ≤ m) : grE l h a n = 0 := by
  obtain ⟨ka, kr, _⟩ := gr_zero e
  obtain ⟨v, _, b⟩ := okA_iff.1 ka
  unfold okR at kr
  rw [vldS_iff] at kr v
  have g1 := gm_mono (show n - a ≤ m - a by omega)
  have g2 := gm_pos (e := n - a) (by omega)
  exact (gr_ok (okA_iff.2 ⟨by rw [vldS_iff]; exact v, h1, by omega⟩) (by unfold okR; rw [vldS_iff]; omega)).1
theorem gr_le {l h a n : Int} (e : grE l h a n = 0) : a ≤ n := ((okA_iff.1 (gr_zero e).1).2).1

/-- The begin of a slot, out of the two ways in which a clock shows a time. -/
theorem lst_zero {o d s : Int} (h1 : -50 ≤ d) (h : s ≤ atI o d 0) : lst o d s = 0 := by
  have := (lst_le (o := o) (s := s) h1 (Int.le_refl 0) (by omega)).2 h
  have := lst_bd o d s
  omega
theorem lst_mono {o d s s' : Int} (h1 : -50 ≤ d) (h : s ≤ s') : lst o d s ≤ lst o d s' := by
  have hb := lst_bd o d s'
  have hb0 := lst_bd o d s
  by_cases q : lst o d s' ≤ 10000000000000
  · have := (lst_le (o := o) (s := s') h1 hb.1 q).1 (Int.le_refl _)
    exact (lst_le h1 hb.1 q).2 (by omega)
  · omega
theorem lst_next {o d s : Int} (hv : vldB o d = true) (h0 : okW o d s = false) (h1 : okW o d (s + 1) = true) : lst o d (s + 1) = lst o d s := by
  obtain ⟨g1, g2, g3, g4⟩ := vld_out hv
  obtain ⟨ha, hb⟩ := (okW_iff hv).1 h1
  have m := lst_mono (o := o) g3 (show s ≤ s + 1 by omega)
  have b := lst_bd o d s
  have e := (lst_le (o := o) (s := s) g3 b.1 (by omega)).1 (Int.le_refl _)
  have ne := whs_none hv h0 b.1 (by omega)
  have := (lst_le (o := o) (s := s + 1) g3 b.1 (by omega)).2 (by omega)
  omega
theorem lst_none {o d s : Int} (hv : vldB o d = true) (hz : atI o d 0 < s) (h0 : okW o d s = false) (h1 : okW o d (s + 1) = false) : 10000000000000 < lst o d s := by
  obtain ⟨g1, g2, g3, g4⟩ := vld_out hv
  refine Int.not_le.1 fun q => ?_
  have b := lst_bd o d s
  have e := (lst_le (o := o) (s := s) g3 b.1 q).1 (Int.le_refl _)
  have n0 := whs_none hv h0 b.1 q
  have n1 := whs_none hv h1 b.1 q
  have p : 0 < lst o d s := by
    rcases Int.lt_or_le 0 (lst o d s) with p | p
    · exact p
    · have : lst o d s = 0 := by omega
      rw [this] at e; omega
  have s2 := (at_succ (o := o) (t := lst o d s - 1) g3 g4).2
  rw [show lst o d s - 1 + 1 = lst o d s by omega] at s2
  have := (lst_le (o := o) (s := s) g3 (t := lst o d s - 1) (by omega) (by omega)).2 (by omega)
  omega

/-- TopOnceSilent, first half: who does not know the time well enough will not know it later. -/
theorem once_silent {sy : Bool} {l h a k src he o d asn more : Int} (hm : 0 ≤ more) (e : gsE sy l h a k src he o d asn = 16) : gsE sy l h a k src he o d (asn + more) ≠ 0 := by
  intro f
  obtain ⟨f1, f2, f3, f4, f5, f6⟩ := gs_zero f
  subst f4
  have hasn : 0 ≤ asn := by
    refine Int.not_lt.1 fun q => ?_
    have : gsE true l h a k src he o d asn = 1 := by simp [gsE, gsV]; omega
    omega
  have hV : gsV true l h a k src he o d asn = true := by simp [gsV, f1, f3]; omega
  simp only [gsE, hV] at e
  simp only [Bool.true_eq_false, if_false] at e
  by_cases hk : k = 0
  · subst hk
    simp [bdE, f3] at e
    split at e <;> omega
  · obtain ⟨_, g, hf⟩ := bd_zero f5 hk
    have ho : ownT k l h asn ≤ ownT k l h (asn + more) := by unfold ownT; split <;> omega
    by_cases ga : a ≤ ownT k l h asn
    · have g' := gr_early g ga ho
      have := bd_mk f3 hk g' (by have := hafT_mono (l := l) (h := h) (a := a) ho; omega)
      rw [this] at e
      simp at e
      split at e <;> omega
    · have ge : grE l h a (ownT k l h asn) = 1 := (gr_arg (by simp [okA]; intro _ q; omega)).1
      rw [bd_gr f3 hk (by omega), ge] at e
      simp at e

/-- TopOnceSilent, second half. -/
theorem once_early {sy : Bool} {l h a k src he o d asn more : Int} (hm : 0 ≤ more) (hasn : 0 ≤ asn) (f : gsE sy l h a k src he o d (asn + more) = 0) (hn : ¬(0 < k ∧ ownT k l h asn < a)) : gsE sy l h a k src he o d asn = 0 := by
  obtain ⟨f1, f2, f3, f4, f5, f6⟩ := gs_zero f
  subst f4
  have g3 := (vld_out f1).2.2.1
  have ho : ownT k l h asn ≤ ownT k l h (asn + more) := by unfold ownT; split <;> omega
  have hl := lst_mono (o := o) g3 ho
  refine gs_mk f1 hasn (by omega) f3 rfl ?_ (by omega)
  by_cases hk : k = 0
  · subst hk; simp [bdE, f3]
  · obtain ⟨_, g, hf⟩ := bd_zero f5 hk
    have k1 : 0 < k := by rcases (vldT_on f3 rfl).2 with q | q <;> omega
    have g' := gr_early g (by omega) ho
    exact bd_mk f3 hk g' (by have := hafT_mono (l := l) (h := h) (a := a) ho; omega)

end Go.Proofs.Ytfclodgfifbfbaa

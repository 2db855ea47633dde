/- Plain facts about true spans of a clock: how they grow, that they meet, how they are heard. No program is in sight here. -/
import Derived.Test.YtaodaglaflohbaaPlain08c
import Derived.Test.YtaodaglaflohbaaPlain07
import Derived.Test.YtaodaglaflohbaaLaw08
namespace Go.Proofs.Ytaodaglaflohbaa

/-- A clock's difference to the true time moves by no more than a span grows. -/
theorem true_grow {o d x y : Int} (h1 : -50 ≤ d) (h2 : d ≤ 50) (h : x ≤ y) :
    atI o d x ≤ atI o d y ∧ x - atI o d x - gm (atI o d y - atI o d x) ≤ y - atI o d y ∧ y - atI o d y ≤ x - atI o d x + gm (atI o d y - atI o d x) := by
  have hm := at_mono (o := o) h1 h
  have hr := at_rate (o := o) (t := x) h1 h2 (show 0 ≤ y - x by omega)
  rw [show x + (y - x) = y by omega] at hr
  unfold gm
  generalize atI o d x = A at *
  generalize atI o d y = B at *
  refine ⟨hm, ?_, ?_⟩ <;> omega

/-- A true span of a clock at a true time: it is valid. -/
theorem true_valid {o d x le mo : Int} (hx : okS o d x = true) (u1 : 0 ≤ le) (u2 : le ≤ 4294967295) (u3 : 0 ≤ mo) (u4 : mo ≤ 4294967295) :
    vldS (x - atI o d x - le) (x - atI o d x + mo) (atI o d x) = true ∧ x - 2000000000 ≤ atI o d x ∧ atI o d x ≤ x + 2000000000 ∧ -2000000000 ≤ atI o d x := by
  obtain ⟨⟨g1, g2, g3, g4⟩, g5, g6⟩ := okS_iff.1 hx
  have hb := at_bd (o := o) (d := d) g1 g2 g3 g4 (show -1 ≤ x by omega) (by omega)
  rw [vldS_iff]
  refine ⟨by omega, by omega, by omega, by omega⟩

/-- It has grown to a true one. -/
theorem true_grown {o d x y le mo : Int} (hx : okS o d x = true) (hy : okS o d y = true) (h : x ≤ y) (u1 : 0 ≤ le) (u2 : le ≤ 4294967295) (u3 : 0 ≤ mo) (u4 : mo ≤ 4294967295) :
    okA (x - atI o d x - le) (x - atI o d x + mo) (atI o d x) (atI o d y) = true ∧ okR (x - atI o d x - le) (x - atI o d x + mo) (atI o d x) (atI o d y) = true ∧
    truB (x - atI o d x - le - gm (atI o d y - atI o d x)) (x - atI o d x + mo + gm (atI o d y - atI o d x)) (atI o d y) y (atI o d y) = true := by
  obtain ⟨v, b1, b2, b3⟩ := true_valid hx u1 u2 u3 u4
  obtain ⟨_, c1, c2, c3⟩ := true_valid hy u1 u2 u3 u4
  obtain ⟨⟨g1, g2, g3, g4⟩, g5, g6⟩ := okS_iff.1 hx
  obtain ⟨_, g7, g8⟩ := okS_iff.1 hy
  obtain ⟨t1, t2, t3⟩ := true_grow (o := o) g3 g4 h
  have hg := gm_bd (e := atI o d y - atI o d x) (by omega) (by omega)
  refine ⟨okA_iff.2 ⟨v, t1, by omega⟩, ?_, ?_⟩
  · unfold okR; rw [vldS_iff]; omega
  · rw [truB_iff]; omega

/-- Two true spans meet in a true one. -/
theorem true_meet {o d x y le mo be ab : Int} (hx : okS o d x = true) (hy : okS o d y = true) (h : x ≤ y) (u1 : 0 ≤ le) (u2 : le ≤ 4294967295) (u3 : 0 ≤ mo) (u4 : mo ≤ 4294967295)
    (u5 : 0 ≤ be) (u6 : be ≤ 4294967295) (u7 : 0 ≤ ab) (u8 : ab ≤ 4294967295) :
    mtE (x - atI o d x - le) (x - atI o d x + mo) (atI o d x) (y - atI o d y - be) (y - atI o d y + ab) (atI o d y) = 0 ∧
    truB (mtL (x - atI o d x - le) (x - atI o d x + mo) (atI o d x) (y - atI o d y - be) (y - atI o d y + ab) (atI o d y)) (mtH (x - atI o d x - le) (x - atI o d x + mo) (atI o d x) (y - atI o d y - be) (y - atI o d y + ab) (atI o d y))
      (mtA (x - atI o d x - le) (x - atI o d x + mo) (atI o d x) (y - atI o d y - be) (y - atI o d y + ab) (atI o d y)) y (atI o d y) = true := by
  obtain ⟨va, b1, b2, b3⟩ := true_valid hx u1 u2 u3 u4
  obtain ⟨vb, c1, c2, c3⟩ := true_valid hy u5 u6 u7 u8
  obtain ⟨ka, kr, kt⟩ := true_grown hx hy h u1 u2 u3 u4
  obtain ⟨ka2, kr2, kt2⟩ := true_grown hy hy (Int.le_refl y) u5 u6 u7 u8
  obtain ⟨⟨g1, g2, g3, g4⟩, g5, g6⟩ := okS_iff.1 hx
  have t1 := at_mono (o := o) g3 h
  rw [truB_iff] at kt kt2
  have m := mt_le va vb t1
  by_cases e : mtE (x - atI o d x - le) (x - atI o d x + mo) (atI o d x) (y - atI o d y - be) (y - atI o d y + ab) (atI o d y) = 0
  · refine ⟨e, ?_⟩
    obtain ⟨r, z1, z2, z3⟩ := mc_zero m e
    rw [truB_iff]
    rcases z3 with z3 | z3 <;> omega
  · exfalso
    unfold MC at m
    simp only [mx_max, mn_min] at m
    rcases m with ⟨r, _⟩ | ⟨_, _, c, _⟩ | ⟨_, _, _, _, _, _, q⟩ | ⟨_, q, r, _⟩ | ⟨_, q, _, c, _⟩ | ⟨_, _, _, _, _, _, _, q⟩
    · rw [kr] at r; cases r
    · omega
    · exact e q
    · rw [kr2] at r; cases r
    · omega
    · exact e q

/-- A beacon that was heard within the bound around its slot. -/
theorem true_heard {asn b t s : Int} (h1 : 0 ≤ asn) (h2 : asn ≤ 999999999) (h3 : 0 ≤ b) (h4 : b ≤ 2000) (h5 : asn * 10000 - b ≤ t) (h6 : t ≤ asn * 10000 + b) (h7 : t - 2000000000 ≤ s) (h8 : s ≤ t + 2000000000)
    (h9 : -2000000000 ≤ s) (h10 : s ≤ 20000000000000) :
    vldH asn b s = true ∧ truB (asn * 10000 - s - b) (asn * 10000 - s + b) s t s = true ∧ widS (asn * 10000 - s - b) (asn * 10000 - s + b) s = 2 * b := by
  refine ⟨vldH_iff.2 (by omega), truB_iff.2 (by omega), ?_⟩
  have v : vldS (asn * 10000 - s - b) (asn * 10000 - s + b) s = true := vldS_iff.2 (by omega)
  simp only [widS, v, if_true]
  omega

end Go.Proofs.Ytaodaglaflohbaa

/- Plain integer facts about a drifting clock: what it shows at a true time, and at which true times it shows a time. No program is in sight here. -/
import Derived.WalkKit
namespace Go.Proofs.Ytfclodgfifbfbaa

def vldB (o d : Int) : Bool := decide (-1000000000 ≤ o ∧ o ≤ 1000000000 ∧ -50 ≤ d ∧ d ≤ 50)
def atI (o d t : Int) : Int := t + o + d * t / 1000000

theorem vld_out {o d : Int} (h : vldB o d = true) : -1000000000 ≤ o ∧ o ≤ 1000000000 ∧ -50 ≤ d ∧ d ≤ 50 := by simpa [vldB] using h

theorem mul_bd {d t : Int} (h3 : -50 ≤ d) (h4 : d ≤ 50) (h5 : -1 ≤ t) (h6 : t ≤ 19000000000000) : -1000000000000000 ≤ d * t ∧ d * t ≤ 1000000000000000 := by
  constructor
  · have := Int.mul_nonneg (show 0 ≤ d + 50 by omega) (show 0 ≤ t + 1 by omega)
    have e : (d + 50) * (t + 1) = d * t + d + 50 * t + 50 := by rw [Int.add_mul, Int.mul_add, Int.mul_add]; omega
    omega
  · have := Int.mul_nonneg (show 0 ≤ 50 - d by omega) (show 0 ≤ t + 1 by omega)
    have e : (50 - d) * (t + 1) = 50 * t + 50 - d * t - d := by rw [Int.sub_mul, Int.mul_add, Int.mul_add]; omega
    omega

/-- Go's quotient and remainder, put together as the program does: rounding down. -/
theorem go_floor_neg {x : Int} (h : x.tmod 1000000 < 0) : x.tdiv 1000000 - 1 = x / 1000000 := by
  rcases Int.le_total 0 x with h' | h'
  · rw [Int.tmod_eq_emod_of_nonneg h'] at h
    omega
  · obtain ⟨y, rfl⟩ : ∃ y, x = -y := ⟨-x, by omega⟩
    rw [Int.neg_tmod, Int.tmod_eq_emod_of_nonneg (by omega)] at h
    rw [Int.neg_tdiv, Int.tdiv_eq_ediv_of_nonneg (by omega)]
    omega

theorem go_floor_pos {x : Int} (h : 0 ≤ x.tmod 1000000) : x.tdiv 1000000 = x / 1000000 := by
  rcases Int.le_total 0 x with h' | h'
  · rw [Int.tdiv_eq_ediv_of_nonneg h']
  · obtain ⟨y, rfl⟩ : ∃ y, x = -y := ⟨-x, by omega⟩
    rw [Int.neg_tmod, Int.tmod_eq_emod_of_nonneg (by omega)] at h
    rw [Int.neg_tdiv, Int.tdiv_eq_ediv_of_nonneg (by omega)]
    omega

theorem tdiv_bd {x : Int} (h1 : -1000000000000000 ≤ x) (h2 : x ≤ 1000000000000000) : -1000000000 ≤ x.tdiv 1000000 ∧ x.tdiv 1000000 ≤ 1000000000 := by
  rcases Int.le_total 0 x with h | h
  · rw [Int.tdiv_eq_ediv_of_nonneg h]; omega
  · obtain ⟨y, rfl⟩ : ∃ y, x = -y := ⟨-x, by omega⟩
    rw [Int.neg_tdiv, Int.tdiv_eq_ediv_of_nonneg (by omega)]; omega

/-- The reference's way of rounding down. -/
theorem ref_floor {x : Int} (h : x < 0) : -((-x + 999999).tdiv 1000000) = x / 1000000 := by
  rw [Int.tdiv_eq_ediv_of_nonneg (by omega)]; omega

/-- A clock shows at least s from a certain true time on: the least such time, from 0 to 10000000000001. -/
def cei (a b : Int) : Int := -((-a) / b)
def lst (o d s : Int) : Int := max 0 (min 10000000000001 (cei (1000000 * (s - o)) (1000000 + d)))

theorem cei_le {a b t : Int} (hb : 0 < b) : cei a b ≤ t ↔ a ≤ b * t := by
  unfold cei
  have h := Int.le_ediv_iff_mul_le (a := -t) (b := -a) hb
  rw [Int.neg_mul, Int.mul_comm t b] at h
  omega

theorem at_ge (o d s t : Int) : s ≤ atI o d t ↔ 1000000 * (s - o) ≤ (1000000 + d) * t := by
  unfold atI
  rw [Int.add_mul]
  generalize d * t = x
  omega

theorem lst_le {o d s t : Int} (hd : -50 ≤ d) (h0 : 0 ≤ t) (h1 : t ≤ 10000000000000) : lst o d s ≤ t ↔ s ≤ atI o d t := by
  rw [at_ge, ← cei_le (by omega)]
  unfold lst
  omega

theorem lst_bd (o d s : Int) : 0 ≤ lst o d s ∧ lst o d s ≤ 10000000000001 := by unfold lst; omega

/-- What a clock shows goes on by 0 to 2 a microsecond. -/
theorem at_succ {o d t : Int} (h1 : -50 ≤ d) (h2 : d ≤ 50) : atI o d t ≤ atI o d (t + 1) ∧ atI o d (t + 1) ≤ atI o d t + 2 := by
  unfold atI
  rw [Int.mul_add]
  generalize d * t = x
  omega

theorem at_two {o d t : Int} (h1 : -50 ≤ d) (h2 : d ≤ 50) : atI o d t + 1 ≤ atI o d (t + 2) := by
  unfold atI
  rw [Int.mul_add]
  generalize d * t = x
  omega

/-- Over a longer time: apart from a multiple of what has passed. -/
theorem at_mono {o d t u : Int} (h1 : -50 ≤ d) (h : t ≤ u) : atI o d t ≤ atI o d u := by
  rw [at_ge]
  have h0 : atI o d t ≤ atI o d t := Int.le_refl _
  rw [at_ge] at h0
  have := Int.mul_le_mul_of_nonneg_left h (show 0 ≤ 1000000 + d by omega)
  omega

theorem mul_sub_bd {d n : Int} (h1 : -50 ≤ d) (h2 : d ≤ 50) (h : 0 ≤ n) : -(n * 50) ≤ d * n ∧ d * n ≤ n * 50 := by
  constructor
  · have := Int.mul_nonneg (show 0 ≤ d + 50 by omega) h
    rw [Int.add_mul] at this; omega
  · have := Int.mul_nonneg (show 0 ≤ 50 - d by omega) h
    rw [Int.sub_mul] at this; omega

/-- The rate: in n microseconds what it shows goes on by n, apart from 50 millionths of n, rounded up. -/
theorem at_rate {o d t n : Int} (h1 : -50 ≤ d) (h2 : d ≤ 50) (h : 0 ≤ n) :
    atI o d t + n - (n * 50 + 999999) / 1000000 ≤ atI o d (t + n) ∧ atI o d (t + n) ≤ atI o d t + n + (n * 50 + 999999) / 1000000 := by
  have hb := mul_sub_bd h1 h2 h
  unfold atI
  rw [Int.mul_add]
  generalize d * t = x at *
  generalize d * n = y at *
  omega

theorem at_bd {o d t : Int} (h1 : -1000000000 ≤ o) (h2 : o ≤ 1000000000) (h3 : -50 ≤ d) (h4 : d ≤ 50) (h5 : -1 ≤ t) (h6 : t ≤ 19000000000000) :
    t - 2000000000 ≤ atI o d t ∧ atI o d t ≤ t + 2000000000 := by
  have := mul_bd h3 h4 h5 h6
  unfold atI
  generalize d * t = x at *
  omega

/-! ### Show -/

def okS (o d t : Int) : Bool := vldB o d && decide (0 ≤ t ∧ t ≤ 10000000000000)
def shE (o d t : Int) : Int := if okS o d t = true then 0 else 1
def shN (o d t : Int) : Int := if okS o d t = true then atI o d t else 0

theorem okS_iff {o d t : Int} : okS o d t = true ↔ (-1000000000 ≤ o ∧ o ≤ 1000000000 ∧ -50 ≤ d ∧ d ≤ 50) ∧ 0 ≤ t ∧ t ≤ 10000000000000 := by
  simp [okS, vldB]
theorem okS_mk {o d t : Int} (h : vldB o d = true) (h1 : 0 ≤ t) (h2 : t ≤ 10000000000000) : okS o d t = true := by
  simp [okS, h, h1, h2]
theorem okS_vld {o d t : Int} (h : okS o d t = true) : vldB o d = true := by
  simp only [okS, Bool.and_eq_true] at h; exact h.1
theorem okS_no {o d t : Int} (h : vldB o d = false) : okS o d t = false := by simp [okS, h]
theorem okS_lt {o d t : Int} (h : t < 0) : okS o d t = false := by simp [okS]; omega
theorem okS_gt {o d t : Int} (h : 10000000000000 < t) : okS o d t = false := by simp [okS]; omega
theorem sh_yes {o d t : Int} (h : okS o d t = true) : shE o d t = 0 ∧ shN o d t = atI o d t := by simp [shE, shN, h]
theorem sh_no {o d t : Int} (h : okS o d t = false) : shE o d t = 1 ∧ shN o d t = 0 := by simp [shE, shN, h]

/-! ### When -/

def okW (o d s : Int) : Bool := vldB o d && decide (lst o d s ≤ 10000000000000 ∧ atI o d (lst o d s) = s)
def whE (o d s : Int) : Int := if vldB o d = false then 1 else if okW o d s = true then 0 else 4
def whL (o d s : Int) : Int := if okW o d s = true then lst o d s else 0
def whH (o d s : Int) : Int := if okW o d s = true then lst o d (s + 1) - 1 else 0

theorem okW_vld {o d s : Int} (h : okW o d s = true) : vldB o d = true := by
  simp only [okW, Bool.and_eq_true] at h; exact h.1
theorem okW_no {o d s : Int} (h : vldB o d = false) : okW o d s = false := by simp [okW, h]
theorem wh_yes {o d s : Int} (h : okW o d s = true) : whE o d s = 0 ∧ whL o d s = lst o d s ∧ whH o d s = lst o d (s + 1) - 1 := by
  simp [whE, whL, whH, h, okW_vld h]
theorem wh_none {o d s : Int} (hv : vldB o d = true) (h : okW o d s = false) : whE o d s = 4 ∧ whL o d s = 0 ∧ whH o d s = 0 := by
  simp [whE, whL, whH, h, hv]
theorem wh_arg {o d s : Int} (hv : vldB o d = false) : whE o d s = 1 ∧ whL o d s = 0 ∧ whH o d s = 0 := by
  simp [whE, whL, whH, okW_no hv, hv]

theorem okW_iff {o d s : Int} (hv : vldB o d = true) : okW o d s = true ↔ lst o d s ≤ 10000000000000 ∧ atI o d (lst o d s) = s := by
  simp [okW, hv]

/-- A time that is shown at a true time. -/
theorem okW_at {o d t : Int} (h : okS o d t = true) : okW o d (atI o d t) = true ∧ lst o d (atI o d t) ≤ t ∧ t ≤ lst o d (atI o d t + 1) - 1 := by
  obtain ⟨⟨h1, h2, h3, h4⟩, h5, h6⟩ := okS_iff.1 h
  have hb := lst_bd o d (atI o d t)
  have k1 : lst o d (atI o d t) ≤ t := (lst_le h3 h5 h6).2 (Int.le_refl _)
  have k2 := (lst_le (s := atI o d t) h3 hb.1 (by omega)).1 (Int.le_refl _)
  have k3 := at_mono (o := o) h3 k1
  have k4 : ¬ lst o d (atI o d t + 1) ≤ t := fun hh => by have := (lst_le h3 h5 h6).1 hh; omega
  exact ⟨(okW_iff (okS_vld h)).2 ⟨by omega, by omega⟩, k1, by omega⟩

/-- The two ends of the range of a time that is shown. -/
theorem whs {o d s : Int} (h : okW o d s = true) :
    0 ≤ lst o d s ∧ lst o d s ≤ lst o d (s + 1) - 1 ∧ lst o d (s + 1) - 1 ≤ lst o d s + 1 ∧ lst o d (s + 1) - 1 ≤ 10000000000000 ∧
      ∀ t, 0 ≤ t → t ≤ 10000000000000 → (atI o d t = s ↔ lst o d s ≤ t ∧ t ≤ lst o d (s + 1) - 1) := by
  have hv := okW_vld h
  obtain ⟨h1, h2, h3, h4⟩ := vld_out hv
  obtain ⟨ha, hb⟩ := (okW_iff hv).1 h
  have b1 := lst_bd o d s
  have b2 := lst_bd o d (s + 1)
  have iff : ∀ t, 0 ≤ t → t ≤ 10000000000000 → (atI o d t = s ↔ lst o d s ≤ t ∧ t ≤ lst o d (s + 1) - 1) := by
    intro t ht0 ht1
    have e1 := lst_le (o := o) (s := s) h3 ht0 ht1
    have e2 := lst_le (o := o) (s := s + 1) h3 ht0 ht1
    constructor
    · intro hh
      have p1 := e1.2 (by omega)
      have p2 : ¬ lst o d (s + 1) ≤ t := fun hc => by have := e2.1 hc; omega
      exact ⟨p1, by omega⟩
    · intro ⟨p1, p2⟩
      have q1 := e1.1 p1
      have q2 : ¬ s + 1 ≤ atI o d t := fun hc => by have := e2.2 hc; omega
      omega
  have c1 := (iff _ b1.1 ha).1 hb
  refine ⟨b1.1, c1.2, ?_, by omega, iff⟩
  by_cases hc : lst o d s + 2 ≤ 10000000000000
  · have m1 : s + 1 ≤ atI o d (lst o d s + 2) := by
      have := at_two (o := o) (t := lst o d s) h3 h4
      omega
    have := (lst_le h3 (by omega) hc).2 m1
    omega
  · omega

/-- No true time shows it. -/
theorem whs_none {o d s t : Int} (hv : vldB o d = true) (h : okW o d s = false) (h0 : 0 ≤ t) (h1 : t ≤ 10000000000000) : atI o d t ≠ s := by
  intro hc
  have := (okW_at (okS_mk hv h0 h1)).1
  rw [hc, h] at this
  cases this

end Go.Proofs.Ytfclodgfifbfbaa

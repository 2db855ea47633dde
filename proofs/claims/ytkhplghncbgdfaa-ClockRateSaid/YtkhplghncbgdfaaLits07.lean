/- Contracts of the clock by literals, and facts for the laws. -/
import Derived.Test.YtkhplghncbgdfaaHead07
import Derived.Test.YtkhplghncbgdfaaTwo07
namespace Go.Proofs.Ytkhplghncbgdfaa
open Go.RowKit

theorem parts_lit (n m P : Int) (w : World) (h5 : 0 ≤ n * m) (h6 : n * m ≤ 1000000000000000) (h : (n * m + 999999) / 1000000 = P) :
    Calls Try.prog 18 #[.int .i64 n, .int .i64 m] w fun e w' => e = .returned (.int .i64 P) ∧ w = w' := by
  have := parts_any n m w h5 h6
  rwa [h] at this

theorem at_rate' {o d t u : Int} (h1 : -50 ≤ d) (h2 : d ≤ 50) (h : t ≤ u) :
    atI o d t + (u - t) - ((u - t) * 50 + 999999) / 1000000 ≤ atI o d u ∧ atI o d u ≤ atI o d t + (u - t) + ((u - t) * 50 + 999999) / 1000000 := by
  have := at_rate (o := o) (t := t) (n := u - t) h1 h2 (by omega)
  rwa [show t + (u - t) = u from by omega] at this

/-- Two clocks. -/
theorem at_two_rate {o d p q t u : Int} (h1 : -50 ≤ d) (h2 : d ≤ 50) (h3 : -50 ≤ q) (h4 : q ≤ 50) (h : t ≤ u) :
    (atI o d u - atI p q u) - (atI o d t - atI p q t) ≤ ((u - t) * 100 + 999999) / 1000000 + 2 ∧
      -(((u - t) * 100 + 999999) / 1000000 + 2) ≤ (atI o d u - atI p q u) - (atI o d t - atI p q t) := by
  have := at_rate' (o := o) h1 h2 h
  have := at_rate' (o := p) h3 h4 h
  omega

theorem fast_one {o d s : Int} (h : okW o d s = true) (hd : 0 ≤ d) : lst o d (s + 1) - 1 = lst o d s := by
  obtain ⟨h1, h2, h3, h4, h5⟩ := whs h
  obtain ⟨g1, g2, g3, g4⟩ := vld_out (okW_vld h)
  by_cases hc : lst o d (s + 1) - 1 = lst o d s
  · exact hc
  · exfalso
    have a1 := (h5 _ h1 (by omega)).2 ⟨Int.le_refl _, h2⟩
    have a2 := (h5 (lst o d s + 1) (by omega) (by omega)).2 ⟨by omega, by omega⟩
    have : atI o d (lst o d s) + 1 ≤ atI o d (lst o d s + 1) := by
      generalize lst o d s = k
      unfold atI
      rw [Int.mul_add]
      generalize d * k = x
      omega
    omega

theorem slow_all {o d s t u : Int} (hv : vldB o d = true) (hd : d ≤ 0) (h0 : 0 ≤ t) (hu : u ≤ 10000000000000) (htu : t ≤ u) (h1 : atI o d t ≤ s) (h2 : s ≤ atI o d u) : okW o d s = true := by
  obtain ⟨g1, g2, g3, g4⟩ := vld_out hv
  have hb := lst_bd o d s
  have hk : lst o d s ≤ u := (lst_le g3 (by omega) hu).2 h2
  refine (okW_iff hv).2 ⟨by omega, ?_⟩
  have e1 := (lst_le (o := o) (s := s) g3 hb.1 (by omega : lst o d s ≤ 10000000000000)).1 (Int.le_refl _)
  by_cases hz : lst o d s = 0
  · have := at_mono (o := o) g3 h0
    rw [hz] at e1 ⊢
    omega
  · have e2 : ¬ s ≤ atI o d (lst o d s - 1) := fun hc => by have := (lst_le (o := o) (s := s) g3 (by omega : 0 ≤ lst o d s - 1) (by omega)).2 hc; omega
    have e3 : atI o d (lst o d s) ≤ atI o d (lst o d s - 1) + 1 := by
      obtain ⟨k, hk'⟩ : ∃ k, k = lst o d s - 1 := ⟨_, rfl⟩
      rw [← hk', show lst o d s = k + 1 from by omega]
      unfold atI
      rw [Int.mul_add]
      generalize d * k = x
      omega
    omega

theorem okS_off {o d t m : Int} (hv : vldB o d = true) (hv' : vldB (o + m) d = true) : okS (o + m) d t = okS o d t := by simp [okS, hv, hv']
theorem at_off (o d t m : Int) : atI (o + m) d t = atI o d t + m := by unfold atI; omega
theorem lst_off (o d s m : Int) : lst (o + m) d (s + m) = lst o d s := by unfold lst; rw [show s + m - (o + m) = s - o from by omega]
theorem okW_off {o d s m : Int} (hv : vldB o d = true) (hv' : vldB (o + m) d = true) : okW (o + m) d (s + m) = okW o d s := by
  refine Bool.eq_iff_iff.2 ?_
  rw [okW_iff hv, okW_iff hv', lst_off, at_off]; omega
theorem wh_off {o d s m : Int} (hv : vldB o d = true) (hv' : vldB (o + m) d = true) :
    whE (o + m) d (s + m) = whE o d s ∧ whL (o + m) d (s + m) = whL o d s ∧ whH (o + m) d (s + m) = whH o d s := by
  have e := okW_off (s := s) hv hv'
  unfold whE whL whH
  rw [e, hv, hv', lst_off, show s + m + 1 = s + 1 + m from by omega, lst_off]
  exact ⟨rfl, rfl, rfl⟩

end Go.Proofs.Ytkhplghncbgdfaa

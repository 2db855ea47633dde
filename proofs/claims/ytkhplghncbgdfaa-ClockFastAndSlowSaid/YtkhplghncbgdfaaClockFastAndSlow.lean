/- ClockFastAndSlow: the walk of the law. It returns true for every clock, every two times and every pick, and leaves old memory alone. -/
import Derived.Test.YtkhplghncbgdfaaHead07
import Derived.Test.YtkhplghncbgdfaaLits07
namespace Go.Proofs.Ytkhplghncbgdfaa
open Go.RowKit

set_option maxHeartbeats 1000000 in
theorem clockFastAndSlow_no (o d t u p : Int) (w : World) (hok : (okS o d t && okS o d u && decide (t ≤ u)) = false) :
    Calls Try.prog 7 #[.agg #[.int .i64 o, .int .i64 d], .int .i64 t, .int .i64 u, .int .i64 p] w fun e w' => e = .returned (.bool true) ∧ Below w.heap.size w w' := by
  go_enter Try.func7, Try.ntmps7
  go_wp2_with fail
  refine (head_any _).mono ?_
  rintro e w1 ⟨rfl, hb⟩
  have oC : Own w1 w.heap.size [.int .i64 o, .int .i64 d] 23 := (own_at _ _ rfl).below hb
  have bel := belowTo ((Below.refl w.heap.size w).alloc (by simp) _) hb (by simp)
  clear hb 
  obtain ⟨cC0, cC1, fC, zC⟩ := own2 oC
  go_wp2_with fail
  refine (two_lit o d t u _ _ false _ ⟨rfl, rfl, hok⟩).mono ?_
  rintro e w2 ⟨rfl, hb⟩
  replace oC := oC.below hb
  replace bel := belowTo bel hb (by exact bel.size)
  clear hb cC0 cC1 fC zC
  obtain ⟨cC0, cC1, fC, zC⟩ := own2 oC
  go_wp2
  go_ret
  exact ⟨rfl, bel⟩

set_option maxHeartbeats 1000000 in
theorem clockFastAndSlow_neg (o d t u p A B : Int) (w : World) (h2 : shN o d t = A ∧ shN o d u = B ∧ (okS o d t && okS o d u && decide (t ≤ u)) = true) (hp : p < 0) :
    Calls Try.prog 7 #[.agg #[.int .i64 o, .int .i64 d], .int .i64 t, .int .i64 u, .int .i64 p] w fun e w' => e = .returned (.bool true) ∧ Below w.heap.size w w' := by
  go_enter Try.func7, Try.ntmps7
  go_wp2_with fail
  refine (head_any _).mono ?_
  rintro e w1 ⟨rfl, hb⟩
  have oC : Own w1 w.heap.size [.int .i64 o, .int .i64 d] 23 := (own_at _ _ rfl).below hb
  have bel := belowTo ((Below.refl w.heap.size w).alloc (by simp) _) hb (by simp)
  clear hb 
  obtain ⟨cC0, cC1, fC, zC⟩ := own2 oC
  go_wp2_with fail
  refine (two_lit o d t u _ _ true _ h2).mono ?_
  rintro e w2 ⟨rfl, hb⟩
  replace oC := oC.below hb
  replace bel := belowTo bel hb (by exact bel.size)
  clear hb cC0 cC1 fC zC
  obtain ⟨cC0, cC1, fC, zC⟩ := own2 oC
  go_wp2
  go_ret
  exact ⟨rfl, bel⟩

set_option maxHeartbeats 2000000 in
theorem clockFastAndSlow_core (o d t u p A B L H E : Int) (w : World) (h2 : shN o d t = A ∧ shN o d u = B ∧ (okS o d t && okS o d u && decide (t ≤ u)) = true) (hp : 0 ≤ p) (hp2 : p ≤ 9223372036854775807)
    (b6 : -20000000000000 ≤ A) (b7 : A ≤ B) (b9 : B ≤ 20000000000000)
    (hW : whL o d (A + p % (B - A + 1)) = L ∧ whH o d (A + p % (B - A + 1)) = H ∧ whE o d (A + p % (B - A + 1)) = E)
    (k1 : (d < 0 ∧ E = 0) ∨ (d = 0 ∧ E = 0 ∧ L = H) ∨ (0 < d ∧ E = 0 ∧ L = H) ∨ (0 < d ∧ E = 4)) :
    Calls Try.prog 7 #[.agg #[.int .i64 o, .int .i64 d], .int .i64 t, .int .i64 u, .int .i64 p] w fun e w' => e = .returned (.bool true) ∧ Below w.heap.size w w' := by
  have m1 : 0 ≤ p % (B - A + 1) := Int.emod_nonneg _ (by omega)
  have m2 : p % (B - A + 1) ≤ B - A := by have := Int.emod_lt_of_pos p (show 0 < B - A + 1 by omega); omega
  rcases k1 with ⟨k, rfl⟩ | ⟨rfl, rfl, rfl⟩ | ⟨k, rfl, rfl⟩ | ⟨k, rfl⟩
  all_goals
    go_enter Try.func7, Try.ntmps7
    go_wp2_with fail
    refine (head_any _).mono ?_
    rintro e w1 ⟨rfl, hb⟩
    have oC : Own w1 w.heap.size [.int .i64 o, .int .i64 _] 23 := (own_at _ _ rfl).below hb
    have bel := belowTo ((Below.refl w.heap.size w).alloc (by simp) _) hb (by simp)
    clear hb 
    obtain ⟨cC0, cC1, fC, zC⟩ := own2 oC
    go_wp2_with fail
    refine (two_lit _ _ t u _ _ true _ h2).mono ?_
    rintro e w2 ⟨rfl, hb⟩
    replace oC := oC.below hb
    replace bel := belowTo bel hb (by exact bel.size)
    clear hb cC0 cC1 fC zC
    obtain ⟨cC0, cC1, fC, zC⟩ := own2 oC
    go_wp2_with fail
    refine (when_lit _ _ _ _ _ _ _ hW).mono ?_
    rintro e w3 ⟨rfl, hb⟩
    replace oC := oC.below hb
    replace bel := belowTo bel hb (by exact bel.size)
    clear hb cC0 cC1 fC zC
    obtain ⟨cC0, cC1, fC, zC⟩ := own2 oC
    go_wp2
    go_ret
    exact ⟨rfl, bel.alloc bel.size _⟩

theorem clockFastAndSlow_walk (o d t u p : Int) (w : World) (_bo : IntKind.i64.has o) (_bd : IntKind.i64.has d) (_bt : IntKind.i64.has t) (_bu : IntKind.i64.has u) (_bp : IntKind.i64.has p) :
    Calls Try.prog 7 #[.agg #[.int .i64 o, .int .i64 d], .int .i64 t, .int .i64 u, .int .i64 p] w fun e w' => e = .returned (.bool true) ∧ Below w.heap.size w w' := by
  rcases Bool.eq_false_or_eq_true (okS o d t && okS o d u && decide (t ≤ u)) with h | h
  · obtain ⟨ht, hu, htu⟩ := two_facts h
    by_cases hp : p < 0
    · exact clockFastAndSlow_neg o d t u p _ _ w ⟨rfl, rfl, h⟩ hp
    · obtain ⟨⟨g1, g2, g3, g4⟩, g5, g6⟩ := okS_iff.1 ht
      obtain ⟨_, g7, g8⟩ := okS_iff.1 hu
      have a1 := at_bd g1 g2 g3 g4 (by omega : -1 ≤ t) (by omega)
      have a2 := at_bd g1 g2 g3 g4 (by omega : -1 ≤ u) (by omega)
      have a3 := at_mono (o := o) g3 htu
      obtain ⟨x, hx⟩ : ∃ x, x = atI o d t + p % (atI o d u - atI o d t + 1) := ⟨_, rfl⟩
      have m1 : 0 ≤ p % (atI o d u - atI o d t + 1) := Int.emod_nonneg _ (by omega)
      have m2 : p % (atI o d u - atI o d t + 1) ≤ atI o d u - atI o d t := by have := Int.emod_lt_of_pos p (show 0 < atI o d u - atI o d t + 1 by omega); omega
      refine clockFastAndSlow_core o d t u p _ _ _ _ _ w ⟨(sh_yes ht).2, (sh_yes hu).2, h⟩ (by omega) (has_i64 _bp).2 (by omega) a3 (by omega) ⟨rfl, rfl, rfl⟩ ?_
      rw [← hx]
      have hv := okS_vld ht
      cases hk : okW o d x with
      | false =>
        by_cases hd : d ≤ 0
        · have := slow_all (s := x) hv hd g5 g8 htu (by omega) (by omega)
          rw [hk] at this
          cases this
        · exact .inr (.inr (.inr ⟨by omega, (wh_none hv hk).1⟩))
      | true =>
        obtain ⟨e1, e2, e3⟩ := wh_yes hk
        by_cases hd : d < 0
        · exact .inl ⟨hd, e1⟩
        · have hone := fast_one hk (by omega)
          by_cases hz : d = 0
          · exact .inr (.inl ⟨hz, e1, by rw [e2, e3, hone]⟩)
          · exact .inr (.inr (.inl ⟨by omega, e1, by rw [e2, e3, hone]⟩))
  · exact clockFastAndSlow_no o d t u p w h

end Go.Proofs.Ytkhplghncbgdfaa

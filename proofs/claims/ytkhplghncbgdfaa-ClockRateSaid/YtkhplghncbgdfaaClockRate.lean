/- ClockRate: the walk of the law. It returns true for every clock and every two times, and leaves old memory alone. -/
import Derived.Test.YtkhplghncbgdfaaHead07
import Derived.Test.YtkhplghncbgdfaaLits07
namespace Go.Proofs.Ytkhplghncbgdfaa
open Go.RowKit

set_option maxHeartbeats 1000000 in
theorem clockRate_no (o d t u : Int) (w : World) (hok : (okS o d t && okS o d u && decide (t ≤ u)) = false) :
    Calls Try.prog 5 #[.agg #[.int .i64 o, .int .i64 d], .int .i64 t, .int .i64 u] w fun e w' => e = .returned (.bool true) ∧ Below w.heap.size w w' := by
  go_enter Try.func5, Try.ntmps5
  go_wp2_with fail
  refine (head_any _).mono ?_
  rintro e w1 ⟨rfl, hb⟩
  have oC : Own w1 w.heap.size [.int .i64 o, .int .i64 d] 23 := (own_at _ _ rfl).below hb
  have bel := belowTo ((Below.refl w.heap.size w).alloc (by simp) _) hb (by simp)
  clear hb 
  obtain ⟨cC0, cC1, fC, zC⟩ := own2 oC
  go_wp2_with fail
  refine (two_lit o d t u _ _ false _ ⟨rfl, rfl, hok⟩).mono ?_
  rintro e w2 ⟨rfl, hb⟩
  replace oC := oC.below hb
  replace bel := belowTo bel hb (by exact bel.size)
  clear hb cC0 cC1 fC zC
  obtain ⟨cC0, cC1, fC, zC⟩ := own2 oC
  go_wp2
  go_ret
  exact ⟨rfl, bel⟩

set_option maxHeartbeats 1000000 in
theorem clockRate_core (o d t u A B P : Int) (w : World) (h2 : shN o d t = A ∧ shN o d u = B ∧ (okS o d t && okS o d u && decide (t ≤ u)) = true) (hP : ((u - t) * 50 + 999999) / 1000000 = P)
    (b1 : 0 ≤ t) (b2 : t ≤ u) (b3 : u ≤ 10000000000000) (b4 : 0 ≤ P) (b5 : P ≤ 1000000000) (b6 : -20000000000000 ≤ A) (b7 : A ≤ 20000000000000) (b8 : -20000000000000 ≤ B) (b9 : B ≤ 20000000000000)
    (k1 : A + (u - t) - P ≤ B) (k2 : B ≤ A + (u - t) + P) :
    Calls Try.prog 5 #[.agg #[.int .i64 o, .int .i64 d], .int .i64 t, .int .i64 u] w fun e w' => e = .returned (.bool true) ∧ Below w.heap.size w w' := by
  have m1 : u - t - (P + 1) ≤ B - A := by omega
  have m2 : B - A ≤ u - t + (P + 1) := by omega
  go_enter Try.func5, Try.ntmps5
  go_wp2_with fail
  refine (head_any _).mono ?_
  rintro e w1 ⟨rfl, hb⟩
  have oC : Own w1 w.heap.size [.int .i64 o, .int .i64 d] 23 := (own_at _ _ rfl).below hb
  have bel := belowTo ((Below.refl w.heap.size w).alloc (by simp) _) hb (by simp)
  clear hb 
  obtain ⟨cC0, cC1, fC, zC⟩ := own2 oC
  go_wp2_with fail
  refine (two_lit o d t u _ _ true _ h2).mono ?_
  rintro e w2 ⟨rfl, hb⟩
  replace oC := oC.below hb
  replace bel := belowTo bel hb (by exact bel.size)
  clear hb cC0 cC1 fC zC
  obtain ⟨cC0, cC1, fC, zC⟩ := own2 oC
  go_wp2_with fail
  refine (parts_lit (u - t) 50 P _ (by omega) (by omega) hP).mono ?_
  rintro e w3 ⟨rfl, rfl⟩
  go_wp2
  go_ret
  exact ⟨rfl, bel⟩

theorem clockRate_walk (o d t u : Int) (w : World) (_bo : IntKind.i64.has o) (_bd : IntKind.i64.has d) (_bt : IntKind.i64.has t) (_bu : IntKind.i64.has u) :
    Calls Try.prog 5 #[.agg #[.int .i64 o, .int .i64 d], .int .i64 t, .int .i64 u] w fun e w' => e = .returned (.bool true) ∧ Below w.heap.size w w' := by
  rcases Bool.eq_false_or_eq_true (okS o d t && okS o d u && decide (t ≤ u)) with h | h
  · obtain ⟨ht, hu, htu⟩ := two_facts h
    obtain ⟨⟨g1, g2, g3, g4⟩, g5, g6⟩ := okS_iff.1 ht
    obtain ⟨_, g7, g8⟩ := okS_iff.1 hu
    have a1 := at_bd g1 g2 g3 g4 (by omega : -1 ≤ t) (by omega)
    have a2 := at_bd g1 g2 g3 g4 (by omega : -1 ≤ u) (by omega)
    obtain ⟨r1, r2⟩ := at_rate' (o := o) g3 g4 htu
    exact clockRate_core o d t u _ _ _ w ⟨(sh_yes ht).2, (sh_yes hu).2, h⟩ rfl g5 htu g8 (by omega) (by omega) (by omega) (by omega) (by omega) (by omega) r1 r2
  · exact clockRate_no o d t u w h

end Go.Proofs.Ytkhplghncbgdfaa

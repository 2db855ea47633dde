/- ClockOrder: the walk of the law. It returns true for every clock and every two times, and leaves old memory alone. -/
import Derived.Test.YtkhplghncbgdfaaHead07
import Derived.Test.YtkhplghncbgdfaaTwo07
namespace Go.Proofs.Ytkhplghncbgdfaa
open Go.RowKit

set_option maxHeartbeats 1000000 in
theorem clockOrder_no (o d t u : Int) (w : World) (hok : (okS o d t && okS o d u && decide (t ≤ u)) = false) :
    Calls Try.prog 4 #[.agg #[.int .i64 o, .int .i64 d], .int .i64 t, .int .i64 u] w fun e w' => e = .returned (.bool true) ∧ Below w.heap.size w w' := by
  go_enter Try.func4, Try.ntmps4
  go_wp2_with fail
  refine (head_any _).mono ?_
  rintro e w1 ⟨rfl, hb⟩
  have oC : Own w1 w.heap.size [.int .i64 o, .int .i64 d] 23 := (own_at _ _ rfl).below hb
  have bel := belowTo ((Below.refl w.heap.size w).alloc (by simp) _) hb (by simp)
  clear hb 
  obtain ⟨cC0, cC1, fC, zC⟩ := own2 oC
  go_wp2_with fail
  refine (two_lit o d t u _ _ false _ ⟨rfl, rfl, hok⟩).mono ?_
  rintro e w2 ⟨rfl, hb⟩
  replace oC := oC.below hb
  replace bel := belowTo bel hb (by exact bel.size)
  clear hb cC0 cC1 fC zC
  obtain ⟨cC0, cC1, fC, zC⟩ := own2 oC
  go_wp2
  go_ret
  exact ⟨rfl, bel⟩

set_option maxHeartbeats 1000000 in
theorem clockOrder_yes (o d t u : Int) (w : World) (hok : (okS o d t && okS o d u && decide (t ≤ u)) = true) :
    Calls Try.prog 4 #[.agg #[.int .i64 o, .int .i64 d], .int .i64 t, .int .i64 u] w fun e w' => e = .returned (.bool true) ∧ Below w.heap.size w w' := by
  obtain ⟨ht, hu, htu⟩ := two_facts hok
  obtain ⟨⟨g1, g2, g3, g4⟩, g5, g6⟩ := okS_iff.1 ht
  have e1 := (sh_yes ht).2
  have e2 := (sh_yes hu).2
  have hab : atI o d t ≤ atI o d u := at_mono g3 htu
  have hbd := at_bd g1 g2 g3 g4 (by omega : -1 ≤ t) (by omega)
  obtain ⟨s1, s2⟩ := at_succ (o := o) (t := t) g3 g4
  by_cases hM : t = 10000000000000
  · have hM1 : (t == 10000000000000) = true := by simpa using hM
    clear hM
    go_enter Try.func4, Try.ntmps4
    go_wp2_with fail
    refine (head_any _).mono ?_
    rintro e w1 ⟨rfl, hb⟩
    have oC : Own w1 w.heap.size [.int .i64 o, .int .i64 d] 23 := (own_at _ _ rfl).below hb
    have bel := belowTo ((Below.refl w.heap.size w).alloc (by simp) _) hb (by simp)
    clear hb 
    obtain ⟨cC0, cC1, fC, zC⟩ := own2 oC
    go_wp2_with fail
    refine (two_lit o d t u _ _ true _ ⟨e1, e2, hok⟩).mono ?_
    rintro e w2 ⟨rfl, hb⟩
    replace oC := oC.below hb
    replace bel := belowTo bel hb (by exact bel.size)
    clear hb cC0 cC1 fC zC
    obtain ⟨cC0, cC1, fC, zC⟩ := own2 oC
    go_wp2
    go_ret
    exact ⟨rfl, bel⟩
  · have hM1 : (t == 10000000000000) = false := by simpa using hM
    have ht1 : okS o d (t + 1) = true := okS_mk (okS_vld ht) (by omega) (by omega)
    have e3 := (sh_yes ht1).2
    have e4 := (sh_yes ht1).1
    clear hM
    go_enter Try.func4, Try.ntmps4
    go_wp2_with fail
    refine (head_any _).mono ?_
    rintro e w1 ⟨rfl, hb⟩
    have oC : Own w1 w.heap.size [.int .i64 o, .int .i64 d] 23 := (own_at _ _ rfl).below hb
    have bel := belowTo ((Below.refl w.heap.size w).alloc (by simp) _) hb (by simp)
    clear hb 
    obtain ⟨cC0, cC1, fC, zC⟩ := own2 oC
    go_wp2_with fail
    refine (two_lit o d t u _ _ true _ ⟨e1, e2, hok⟩).mono ?_
    rintro e w2 ⟨rfl, hb⟩
    replace oC := oC.below hb
    replace bel := belowTo bel hb (by exact bel.size)
    clear hb cC0 cC1 fC zC
    obtain ⟨cC0, cC1, fC, zC⟩ := own2 oC
    go_wp2_with fail
    refine (show_lit o d (t + 1) _ _ _ ⟨e3, e4⟩).mono ?_
    rintro e w3 ⟨rfl, hb⟩
    replace oC := oC.below hb
    replace bel := belowTo bel hb (by exact bel.size)
    clear hb cC0 cC1 fC zC
    obtain ⟨cC0, cC1, fC, zC⟩ := own2 oC
    go_wp2
    go_ret
    exact ⟨rfl, bel⟩

theorem clockOrder_walk (o d t u : Int) (w : World) (_bo : IntKind.i64.has o) (_bd : IntKind.i64.has d) (_bt : IntKind.i64.has t) (_bu : IntKind.i64.has u) :
    Calls Try.prog 4 #[.agg #[.int .i64 o, .int .i64 d], .int .i64 t, .int .i64 u] w fun e w' => e = .returned (.bool true) ∧ Below w.heap.size w w' := by
  rcases Bool.eq_false_or_eq_true (okS o d t && okS o d u && decide (t ≤ u)) with h | h
  · exact clockOrder_yes o d t u w h
  · exact clockOrder_no o d t u w h

end Go.Proofs.Ytkhplghncbgdfaa

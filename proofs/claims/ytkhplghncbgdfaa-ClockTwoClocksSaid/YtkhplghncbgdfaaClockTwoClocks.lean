/- ClockTwoClocks: the walk of the law. It returns true for every two clocks and every two times, and leaves old memory alone. -/
import Derived.Test.YtkhplghncbgdfaaHead07
import Derived.Test.YtkhplghncbgdfaaLits07
namespace Go.Proofs.Ytkhplghncbgdfaa
open Go.RowKit

set_option maxHeartbeats 2000000 in
theorem clockTwoClocks_no (o d p q t u A B X Y : Int) (a b : Bool) (w : World) (h2 : shN o d t = A ∧ shN o d u = B ∧ (okS o d t && okS o d u && decide (t ≤ u)) = a)
    (h3 : shN p q t = X ∧ shN p q u = Y ∧ (okS p q t && okS p q u && decide (t ≤ u)) = b) (hab : (a = false ∧ b = false) ∨ (a = false ∧ b = true) ∨ (a = true ∧ b = false)) :
    Calls Try.prog 8 #[.agg #[.int .i64 o, .int .i64 d], .agg #[.int .i64 p, .int .i64 q], .int .i64 t, .int .i64 u] w fun e w' => e = .returned (.bool true) ∧ Below w.heap.size w w' := by
  rcases hab with ⟨rfl, rfl⟩ | ⟨rfl, rfl⟩ | ⟨rfl, rfl⟩
  all_goals
    go_enter Try.func8, Try.ntmps8
    go_wp2_with fail
    refine (head_any _).mono ?_
    rintro e w1 ⟨rfl, hb⟩
    have oC : Own w1 w.heap.size [.int .i64 o, .int .i64 d] 23 := ((own_at _ _ rfl).alloc _).below hb
    have oD : Own w1 (w.heap.size + 1) [.int .i64 p, .int .i64 q] 23 := (own_at _ _ (by simp)).below hb
    have bel := belowTo (((Below.refl w.heap.size w).alloc (by simp) _).alloc (by simp) _) hb (by simp; omega)
    clear hb 
    obtain ⟨cC0, cC1, fC, zC⟩ := own2 oC
    obtain ⟨cD0, cD1, fD, zD⟩ := own2 oD
    go_wp2_with fail
    refine (two_lit o d t u _ _ _ _ h2).mono ?_
    rintro e w2 ⟨rfl, hb⟩
    replace oC := oC.below hb
    replace oD := oD.below hb
    replace bel := belowTo bel hb (by exact bel.size)
    clear hb cC0 cC1 fC zC cD0 cD1 fD zD
    obtain ⟨cC0, cC1, fC, zC⟩ := own2 oC
    obtain ⟨cD0, cD1, fD, zD⟩ := own2 oD
    go_wp2_with fail
    refine (two_lit p q t u _ _ _ _ h3).mono ?_
    rintro e w3 ⟨rfl, hb⟩
    replace oC := oC.below hb
    replace oD := oD.below hb
    replace bel := belowTo bel hb (by exact bel.size)
    clear hb cC0 cC1 fC zC cD0 cD1 fD zD
    obtain ⟨cC0, cC1, fC, zC⟩ := own2 oC
    obtain ⟨cD0, cD1, fD, zD⟩ := own2 oD
    go_wp2
    go_ret
    exact ⟨rfl, bel⟩

set_option maxHeartbeats 2000000 in
theorem clockTwoClocks_core (o d p q t u A B X Y P : Int) (w : World) (h2 : shN o d t = A ∧ shN o d u = B ∧ (okS o d t && okS o d u && decide (t ≤ u)) = true)
    (h3 : shN p q t = X ∧ shN p q u = Y ∧ (okS p q t && okS p q u && decide (t ≤ u)) = true) (hP : ((u - t) * 100 + 999999) / 1000000 = P)
    (b1 : 0 ≤ t) (b2 : t ≤ u) (b3 : u ≤ 10000000000000) (b4 : 0 ≤ P) (b5 : P ≤ 1000000001) (b6 : -20000000000000 ≤ A) (b7 : A ≤ 20000000000000) (b8 : -20000000000000 ≤ B) (b9 : B ≤ 20000000000000)
    (c6 : -20000000000000 ≤ X) (c7 : X ≤ 20000000000000) (c8 : -20000000000000 ≤ Y) (c9 : Y ≤ 20000000000000)
    (k1 : B - Y - (A - X) ≤ P + 2) (k2 : -(P + 2) ≤ B - Y - (A - X)) :
    Calls Try.prog 8 #[.agg #[.int .i64 o, .int .i64 d], .agg #[.int .i64 p, .int .i64 q], .int .i64 t, .int .i64 u] w fun e w' => e = .returned (.bool true) ∧ Below w.heap.size w w' := by
  go_enter Try.func8, Try.ntmps8
  go_wp2_with fail
  refine (head_any _).mono ?_
  rintro e w1 ⟨rfl, hb⟩
  have oC : Own w1 w.heap.size [.int .i64 o, .int .i64 d] 23 := ((own_at _ _ rfl).alloc _).below hb
  have oD : Own w1 (w.heap.size + 1) [.int .i64 p, .int .i64 q] 23 := (own_at _ _ (by simp)).below hb
  have bel := belowTo (((Below.refl w.heap.size w).alloc (by simp) _).alloc (by simp) _) hb (by simp; omega)
  clear hb 
  obtain ⟨cC0, cC1, fC, zC⟩ := own2 oC
  obtain ⟨cD0, cD1, fD, zD⟩ := own2 oD
  go_wp2_with fail
  refine (two_lit o d t u _ _ _ _ h2).mono ?_
  rintro e w2 ⟨rfl, hb⟩
  replace oC := oC.below hb
  replace oD := oD.below hb
  replace bel := belowTo bel hb (by exact bel.size)
  clear hb cC0 cC1 fC zC cD0 cD1 fD zD
  obtain ⟨cC0, cC1, fC, zC⟩ := own2 oC
  obtain ⟨cD0, cD1, fD, zD⟩ := own2 oD
  go_wp2_with fail
  refine (two_lit p q t u _ _ _ _ h3).mono ?_
  rintro e w3 ⟨rfl, hb⟩
  replace oC := oC.below hb
  replace oD := oD.below hb
  replace bel := belowTo bel hb (by exact bel.size)
  clear hb cC0 cC1 fC zC cD0 cD1 fD zD
  obtain ⟨cC0, cC1, fC, zC⟩ := own2 oC
  obtain ⟨cD0, cD1, fD, zD⟩ := own2 oD
  go_wp2_with fail
  refine (parts_lit (u - t) 100 P _ (by omega) (by omega) hP).mono ?_
  rintro e w4 ⟨rfl, rfl⟩
  go_wp2
  go_ret
  exact ⟨rfl, bel⟩

theorem clockTwoClocks_walk (o d p q t u : Int) (w : World) (_bo : IntKind.i64.has o) (_bd : IntKind.i64.has d) (_bp : IntKind.i64.has p) (_bq : IntKind.i64.has q) (_bt : IntKind.i64.has t) (_bu : IntKind.i64.has u) :
    Calls Try.prog 8 #[.agg #[.int .i64 o, .int .i64 d], .agg #[.int .i64 p, .int .i64 q], .int .i64 t, .int .i64 u] w fun e w' => e = .returned (.bool true) ∧ Below w.heap.size w w' := by
  rcases Bool.eq_false_or_eq_true (okS o d t && okS o d u && decide (t ≤ u)) with h | h <;> rcases Bool.eq_false_or_eq_true (okS p q t && okS p q u && decide (t ≤ u)) with k | k
  · obtain ⟨ht, hu, htu⟩ := two_facts h
    obtain ⟨kt, ku, _⟩ := two_facts k
    obtain ⟨⟨g1, g2, g3, g4⟩, g5, g6⟩ := okS_iff.1 ht
    obtain ⟨_, g7, g8⟩ := okS_iff.1 hu
    obtain ⟨⟨i1, i2, i3, i4⟩, _, _⟩ := okS_iff.1 kt
    have a1 := at_bd g1 g2 g3 g4 (by omega : -1 ≤ t) (by omega)
    have a2 := at_bd g1 g2 g3 g4 (by omega : -1 ≤ u) (by omega)
    have a3 := at_bd i1 i2 i3 i4 (by omega : -1 ≤ t) (by omega)
    have a4 := at_bd i1 i2 i3 i4 (by omega : -1 ≤ u) (by omega)
    obtain ⟨r1, r2⟩ := at_two_rate (o := o) (p := p) g3 g4 i3 i4 htu
    exact clockTwoClocks_core o d p q t u _ _ _ _ _ w ⟨(sh_yes ht).2, (sh_yes hu).2, h⟩ ⟨(sh_yes kt).2, (sh_yes ku).2, k⟩ rfl g5 htu g8 (by omega) (by omega) (by omega) (by omega) (by omega) (by omega) (by omega) (by omega) (by omega) (by omega) r1 r2
  · exact clockTwoClocks_no o d p q t u _ _ _ _ _ _ w ⟨rfl, rfl, h⟩ ⟨rfl, rfl, k⟩ (.inr (.inr ⟨rfl, rfl⟩))
  · exact clockTwoClocks_no o d p q t u _ _ _ _ _ _ w ⟨rfl, rfl, h⟩ ⟨rfl, rfl, k⟩ (.inr (.inl ⟨rfl, rfl⟩))
  · exact clockTwoClocks_no o d p q t u _ _ _ _ _ _ w ⟨rfl, rfl, h⟩ ⟨rfl, rfl, k⟩ (.inl ⟨rfl, rfl⟩)

end Go.Proofs.Ytkhplghncbgdfaa

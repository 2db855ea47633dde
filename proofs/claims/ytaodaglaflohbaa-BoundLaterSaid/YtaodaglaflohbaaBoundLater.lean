/- BoundLater: the walk of the law. It returns true for every input, and leaves old memory alone. -/
import Derived.Test.YtaodaglaflohbaaHead08
import Derived.Deep.DeepCutAuto
namespace Go.Proofs.Ytaodaglaflohbaa
open Go.RowKit
set_option linter.unusedVariables false

set_option maxRecDepth 100000 in
set_option maxHeartbeats 1000000 in
theorem boundLater_no1 (l h a x y s1 s2 L1 H1 A1 L2 H2 A2 E1 E2 : Int) (w : World) (hs1 : (if y < x then y else x) = s1) (hs2 : (if x < y then y else x) = s2) (e1 : (E1 == 0) = false) (h1 : grL l h a s1 = L1 ∧ grH l h a s1 = H1 ∧ grA l h a s1 = A1 ∧ grE l h a s1 = E1) (h2 : grL l h a s2 = L2 ∧ grH l h a s2 = H2 ∧ grA l h a s2 = A2 ∧ grE l h a s2 = E2) :
    Calls Try.prog 5 #[.agg #[.int .i64 l, .int .i64 h, .int .i64 a], .int .i64 x, .int .i64 y] w fun e w' => e = .returned (.bool true) ∧ Below w.heap.size w w' := by
  have HS1 := Lib.hid hs1
  have HS2 := Lib.hid hs2
  clear hs1 hs2
  go_enter Try.func5, Try.ntmps5
  go_wp2_with fail
  refine (head_any _).mono ?_
  rintro e w1 ⟨rfl, hb⟩
  have oS : Own w1 w.heap.size [.int .i64 l, .int .i64 h, .int .i64 a] 23 := (own_at _ _ rfl).below hb
  have bel := belowTo ((Below.refl w.heap.size w).alloc (by simp) _) hb (by simp)
  clear hb 
  obtain ⟨cS0, cS1, cS2, fS, zS⟩ := own3 oS
  go_upto_region 2 with fail
  go_cut [8, 9] (fun sa sb wx => sa = .int .i64 s1 ∧ sb = .int .i64 s2 ∧ wx = w1)
  case first =>
    go_wp2_with fail
    all_goals go_meet
    all_goals (refine ⟨congrArg (Value.int .i64) ?_, congrArg (Value.int .i64) ?_, rfl⟩ <;> (have q1 := HS1.out; have q2 := HS2.out; omega))
  case rest =>
    obtain ⟨rfl, rfl, rfl⟩ := hcut
    go_wp2_with fail
    refine (bgrow_lit l h a s1 L1 H1 A1 E1 _ h1).mono ?_
    rintro e w2 ⟨rfl, hb⟩
    replace oS := oS.below hb
    replace bel := belowTo bel hb (by exact bel.size)
    clear hb cS0 cS1 cS2 fS zS
    obtain ⟨cS0, cS1, cS2, fS, zS⟩ := own3 oS
    go_wp2_with fail
    refine (bgrow_lit l h a s2 L2 H2 A2 E2 _ h2).mono ?_
    rintro e w3 ⟨rfl, hb⟩
    replace oS := (oS.alloc _).below hb
    have oA : Own w3 w2.heap.size [.int .i64 L1, .int .i64 H1, .int .i64 A1] 23 := (own_at _ _ rfl).below hb
    replace bel := belowTo (bel.alloc (by have := bel.size; simp; omega) _) hb (by have := bel.size; simp; omega)
    clear hb cS0 cS1 cS2 fS zS
    obtain ⟨cS0, cS1, cS2, fS, zS⟩ := own3 oS
    obtain ⟨cA0, cA1, cA2, fA, zA⟩ := own3 oA
    go_wp2
    go_ret
    exact ⟨rfl, bel.alloc bel.size _⟩

set_option maxRecDepth 100000 in
set_option maxHeartbeats 1000000 in
theorem boundLater_no2 (l h a x y s1 s2 L1 H1 A1 L2 H2 A2 E2 : Int) (w : World) (hs1 : (if y < x then y else x) = s1) (hs2 : (if x < y then y else x) = s2) (e2 : (E2 == 0) = false) (h1 : grL l h a s1 = L1 ∧ grH l h a s1 = H1 ∧ grA l h a s1 = A1 ∧ grE l h a s1 = 0) (h2 : grL l h a s2 = L2 ∧ grH l h a s2 = H2 ∧ grA l h a s2 = A2 ∧ grE l h a s2 = E2) :
    Calls Try.prog 5 #[.agg #[.int .i64 l, .int .i64 h, .int .i64 a], .int .i64 x, .int .i64 y] w fun e w' => e = .returned (.bool true) ∧ Below w.heap.size w w' := by
  have HS1 := Lib.hid hs1
  have HS2 := Lib.hid hs2
  clear hs1 hs2
  go_enter Try.func5, Try.ntmps5
  go_wp2_with fail
  refine (head_any _).mono ?_
  rintro e w1 ⟨rfl, hb⟩
  have oS : Own w1 w.heap.size [.int .i64 l, .int .i64 h, .int .i64 a] 23 := (own_at _ _ rfl).below hb
  have bel := belowTo ((Below.refl w.heap.size w).alloc (by simp) _) hb (by simp)
  clear hb 
  obtain ⟨cS0, cS1, cS2, fS, zS⟩ := own3 oS
  go_upto_region 2 with fail
  go_cut [8, 9] (fun sa sb wx => sa = .int .i64 s1 ∧ sb = .int .i64 s2 ∧ wx = w1)
  case first =>
    go_wp2_with fail
    all_goals go_meet
    all_goals (refine ⟨congrArg (Value.int .i64) ?_, congrArg (Value.int .i64) ?_, rfl⟩ <;> (have q1 := HS1.out; have q2 := HS2.out; omega))
  case rest =>
    obtain ⟨rfl, rfl, rfl⟩ := hcut
    go_wp2_with fail
    refine (bgrow_lit l h a s1 L1 H1 A1 0 _ h1).mono ?_
    rintro e w2 ⟨rfl, hb⟩
    replace oS := oS.below hb
    replace bel := belowTo bel hb (by exact bel.size)
    clear hb cS0 cS1 cS2 fS zS
    obtain ⟨cS0, cS1, cS2, fS, zS⟩ := own3 oS
    go_wp2_with fail
    refine (bgrow_lit l h a s2 L2 H2 A2 E2 _ h2).mono ?_
    rintro e w3 ⟨rfl, hb⟩
    replace oS := (oS.alloc _).below hb
    have oA : Own w3 w2.heap.size [.int .i64 L1, .int .i64 H1, .int .i64 A1] 23 := (own_at _ _ rfl).below hb
    replace bel := belowTo (bel.alloc (by have := bel.size; simp; omega) _) hb (by have := bel.size; simp; omega)
    clear hb cS0 cS1 cS2 fS zS
    obtain ⟨cS0, cS1, cS2, fS, zS⟩ := own3 oS
    obtain ⟨cA0, cA1, cA2, fA, zA⟩ := own3 oA
    go_wp2
    go_ret
    exact ⟨rfl, bel.alloc bel.size _⟩

set_option maxRecDepth 100000 in
set_option maxHeartbeats 1000000 in
theorem boundLater_three (l h a x y s1 s2 L1 H1 A1 L2 H2 A2 L3 H3 A3 : Int) (w : World) (hs1 : (if y < x then y else x) = s1) (hs2 : (if x < y then y else x) = s2) (h1 : grL l h a s1 = L1 ∧ grH l h a s1 = H1 ∧ grA l h a s1 = A1 ∧ grE l h a s1 = 0) (h2 : grL l h a s2 = L2 ∧ grH l h a s2 = H2 ∧ grA l h a s2 = A2 ∧ grE l h a s2 = 0) (h3 : grL L1 H1 A1 s2 = L3 ∧ grH L1 H1 A1 s2 = H3 ∧ grA L1 H1 A1 s2 = A3 ∧ grE L1 H1 A1 s2 = 3) :
    Calls Try.prog 5 #[.agg #[.int .i64 l, .int .i64 h, .int .i64 a], .int .i64 x, .int .i64 y] w fun e w' => e = .returned (.bool true) ∧ Below w.heap.size w w' := by
  have HS1 := Lib.hid hs1
  have HS2 := Lib.hid hs2
  clear hs1 hs2
  go_enter Try.func5, Try.ntmps5
  go_wp2_with fail
  refine (head_any _).mono ?_
  rintro e w1 ⟨rfl, hb⟩
  have oS : Own w1 w.heap.size [.int .i64 l, .int .i64 h, .int .i64 a] 23 := (own_at _ _ rfl).below hb
  have bel := belowTo ((Below.refl w.heap.size w).alloc (by simp) _) hb (by simp)
  clear hb 
  obtain ⟨cS0, cS1, cS2, fS, zS⟩ := own3 oS
  go_upto_region 2 with fail
  go_cut [8, 9] (fun sa sb wx => sa = .int .i64 s1 ∧ sb = .int .i64 s2 ∧ wx = w1)
  case first =>
    go_wp2_with fail
    all_goals go_meet
    all_goals (refine ⟨congrArg (Value.int .i64) ?_, congrArg (Value.int .i64) ?_, rfl⟩ <;> (have q1 := HS1.out; have q2 := HS2.out; omega))
  case rest =>
    obtain ⟨rfl, rfl, rfl⟩ := hcut
    go_wp2_with fail
    refine (bgrow_lit l h a s1 L1 H1 A1 0 _ h1).mono ?_
    rintro e w2 ⟨rfl, hb⟩
    replace oS := oS.below hb
    replace bel := belowTo bel hb (by exact bel.size)
    clear hb cS0 cS1 cS2 fS zS
    obtain ⟨cS0, cS1, cS2, fS, zS⟩ := own3 oS
    go_wp2_with fail
    refine (bgrow_lit l h a s2 L2 H2 A2 0 _ h2).mono ?_
    rintro e w3 ⟨rfl, hb⟩
    replace oS := (oS.alloc _).below hb
    have oA : Own w3 w2.heap.size [.int .i64 L1, .int .i64 H1, .int .i64 A1] 23 := (own_at _ _ rfl).below hb
    replace bel := belowTo (bel.alloc (by have := bel.size; simp; omega) _) hb (by have := bel.size; simp; omega)
    clear hb cS0 cS1 cS2 fS zS
    obtain ⟨cS0, cS1, cS2, fS, zS⟩ := own3 oS
    obtain ⟨cA0, cA1, cA2, fA, zA⟩ := own3 oA
    go_wp2_with fail
    refine (bgrow_lit L1 H1 A1 s2 L3 H3 A3 3 _ h3).mono ?_
    rintro e w4 ⟨rfl, hb⟩
    replace oS := (oS.alloc _).below hb
    replace oA := (oA.alloc _).below hb
    have oB : Own w4 w3.heap.size [.int .i64 L2, .int .i64 H2, .int .i64 A2] 23 := (own_at _ _ rfl).below hb
    replace bel := belowTo (bel.alloc (by have := bel.size; simp; omega) _) hb (by have := bel.size; simp; omega)
    clear hb cS0 cS1 cS2 fS zS cA0 cA1 cA2 fA zA
    obtain ⟨cS0, cS1, cS2, fS, zS⟩ := own3 oS
    obtain ⟨cA0, cA1, cA2, fA, zA⟩ := own3 oA
    obtain ⟨cB0, cB1, cB2, fB, zB⟩ := own3 oB
    go_wp2
    go_ret
    exact ⟨rfl, bel.alloc bel.size _⟩

set_option maxRecDepth 100000 in
set_option maxHeartbeats 2000000 in
theorem boundLater_ok (l h a x y s1 s2 L1 H1 A1 L2 H2 A2 L3 H3 A3 : Int) (w : World) (hs1 : (if y < x then y else x) = s1) (hs2 : (if x < y then y else x) = s2) (h1 : grL l h a s1 = L1 ∧ grH l h a s1 = H1 ∧ grA l h a s1 = A1 ∧ grE l h a s1 = 0) (h2 : grL l h a s2 = L2 ∧ grH l h a s2 = H2 ∧ grA l h a s2 = A2 ∧ grE l h a s2 = 0) (h3 : grL L1 H1 A1 s2 = L3 ∧ grH L1 H1 A1 s2 = H3 ∧ grA L1 H1 A1 s2 = A3 ∧ grE L1 H1 A1 s2 = 0)
    (hin : inS L2 H2 A2 L3 H3 A3 = true) (k1 : L2 - L3 ≤ 2) (k2 : H3 - H2 ≤ 2) (k3 : L2 ≤ L1) (k4 : H1 ≤ H2) (b1 : -20000000000000 ≤ L2) (b2 : L3 ≤ L2) (b3 : H2 ≤ 20000000000000) (b4 : H2 ≤ H3) (b5 : -20000000000000 ≤ L3) (b6 : H3 ≤ 20000000000000) (b7 : L2 ≤ 20000000000000) (b8 : -20000000000000 ≤ H2) :
    Calls Try.prog 5 #[.agg #[.int .i64 l, .int .i64 h, .int .i64 a], .int .i64 x, .int .i64 y] w fun e w' => e = .returned (.bool true) ∧ Below w.heap.size w w' := by
  have HS1 := Lib.hid hs1
  have HS2 := Lib.hid hs2
  clear hs1 hs2
  go_enter Try.func5, Try.ntmps5
  go_wp2_with fail
  refine (head_any _).mono ?_
  rintro e w1 ⟨rfl, hb⟩
  have oS : Own w1 w.heap.size [.int .i64 l, .int .i64 h, .int .i64 a] 23 := (own_at _ _ rfl).below hb
  have bel := belowTo ((Below.refl w.heap.size w).alloc (by simp) _) hb (by simp)
  clear hb 
  obtain ⟨cS0, cS1, cS2, fS, zS⟩ := own3 oS
  go_upto_region 2 with fail
  go_cut [8, 9] (fun sa sb wx => sa = .int .i64 s1 ∧ sb = .int .i64 s2 ∧ wx = w1)
  case first =>
    go_wp2_with fail
    all_goals go_meet
    all_goals (refine ⟨congrArg (Value.int .i64) ?_, congrArg (Value.int .i64) ?_, rfl⟩ <;> (have q1 := HS1.out; have q2 := HS2.out; omega))
  case rest =>
    obtain ⟨rfl, rfl, rfl⟩ := hcut
    go_wp2_with fail
    refine (bgrow_lit l h a s1 L1 H1 A1 0 _ h1).mono ?_
    rintro e w2 ⟨rfl, hb⟩
    replace oS := oS.below hb
    replace bel := belowTo bel hb (by exact bel.size)
    clear hb cS0 cS1 cS2 fS zS
    obtain ⟨cS0, cS1, cS2, fS, zS⟩ := own3 oS
    go_wp2_with fail
    refine (bgrow_lit l h a s2 L2 H2 A2 0 _ h2).mono ?_
    rintro e w3 ⟨rfl, hb⟩
    replace oS := (oS.alloc _).below hb
    have oA : Own w3 w2.heap.size [.int .i64 L1, .int .i64 H1, .int .i64 A1] 23 := (own_at _ _ rfl).below hb
    replace bel := belowTo (bel.alloc (by have := bel.size; simp; omega) _) hb (by have := bel.size; simp; omega)
    clear hb cS0 cS1 cS2 fS zS
    obtain ⟨cS0, cS1, cS2, fS, zS⟩ := own3 oS
    obtain ⟨cA0, cA1, cA2, fA, zA⟩ := own3 oA
    go_wp2_with fail
    refine (bgrow_lit L1 H1 A1 s2 L3 H3 A3 0 _ h3).mono ?_
    rintro e w4 ⟨rfl, hb⟩
    replace oS := (oS.alloc _).below hb
    replace oA := (oA.alloc _).below hb
    have oB : Own w4 w3.heap.size [.int .i64 L2, .int .i64 H2, .int .i64 A2] 23 := (own_at _ _ rfl).below hb
    replace bel := belowTo (bel.alloc (by have := bel.size; simp; omega) _) hb (by have := bel.size; simp; omega)
    clear hb cS0 cS1 cS2 fS zS cA0 cA1 cA2 fA zA
    obtain ⟨cS0, cS1, cS2, fS, zS⟩ := own3 oS
    obtain ⟨cA0, cA1, cA2, fA, zA⟩ := own3 oA
    obtain ⟨cB0, cB1, cB2, fB, zB⟩ := own3 oB
    go_wp2_with fail
    refine (inside_lit L2 H2 A2 L3 H3 A3 true _ hin).mono ?_
    rintro e w5 ⟨rfl, hb⟩
    replace oS := (oS.alloc _).below hb
    replace oA := (oA.alloc _).below hb
    replace oB := (oB.alloc _).below hb
    have oC : Own w5 w4.heap.size [.int .i64 L3, .int .i64 H3, .int .i64 A3] 23 := (own_at _ _ rfl).below hb
    replace bel := belowTo (bel.alloc (by have := bel.size; simp; omega) _) hb (by have := bel.size; simp; omega)
    clear hb cS0 cS1 cS2 fS zS cA0 cA1 cA2 fA zA cB0 cB1 cB2 fB zB
    obtain ⟨cS0, cS1, cS2, fS, zS⟩ := own3 oS
    obtain ⟨cA0, cA1, cA2, fA, zA⟩ := own3 oA
    obtain ⟨cB0, cB1, cB2, fB, zB⟩ := own3 oB
    obtain ⟨cC0, cC1, cC2, fC, zC⟩ := own3 oC
    go_wp2
    go_ret
    exact ⟨rfl, bel⟩

theorem boundLater_walk (l h a x y : Int) (w : World) (_1 : IntKind.i64.has l) (_2 : IntKind.i64.has h) (_3 : IntKind.i64.has a) (_4 : IntKind.i64.has x) (_5 : IntKind.i64.has y) :
    Calls Try.prog 5 #[.agg #[.int .i64 l, .int .i64 h, .int .i64 a], .int .i64 x, .int .i64 y] w fun e w' => e = .returned (.bool true) ∧ Below w.heap.size w w' := by
  obtain ⟨s1, hs1⟩ : ∃ s, (if y < x then y else x) = s := ⟨_, rfl⟩
  obtain ⟨s2, hs2⟩ : ∃ s, (if x < y then y else x) = s := ⟨_, rfl⟩
  have h12 : s1 ≤ s2 := by omega
  by_cases e1 : grE l h a s1 = 0
  · by_cases e2 : grE l h a s2 = 0
    · obtain ⟨ka1, kr1, f1, f2, f3⟩ := gr_zero e1
      obtain ⟨ka2, kr2, g1, g2, g3⟩ := gr_zero e2
      obtain ⟨u1, u2, u3⟩ := okA_iff.1 ka1
      obtain ⟨v1, v2, v3⟩ := okA_iff.1 ka2
      unfold okR at kr1 kr2
      rw [vldS_iff] at kr1 kr2 u1
      have ka3 : okA (grL l h a s1) (grH l h a s1) (grA l h a s1) s2 = true := by
        rw [f1, f2, f3, okA_iff, vldS_iff]; exact ⟨kr1, h12, v3⟩
      rcases gr_cases (grL l h a s1) (grH l h a s1) (grA l h a s1) s2 with ⟨e3, _, kr3⟩ | ⟨e3, _, _⟩ | ⟨_, q⟩
      · obtain ⟨_, _, m1, m2, m3⟩ := gr_zero e3
        rw [f1, f2, f3] at m1 m2 m3 kr3
        unfold okR at kr3
        rw [vldS_iff] at kr3
        have n1 : gm (s2 - a) ≤ gm (s1 - a) + gm (s2 - s1) := by unfold gm; omega
        have n2 : gm (s1 - a) + gm (s2 - s1) ≤ gm (s2 - a) + 2 := by unfold gm; omega
        have n3 : gm (s1 - a) ≤ gm (s2 - a) := by unfold gm; omega
        refine boundLater_ok l h a x y s1 s2 _ _ _ _ _ _ _ _ _ w hs1 hs2 ⟨rfl, rfl, rfl, e1⟩ ⟨rfl, rfl, rfl, e2⟩ ⟨rfl, rfl, rfl, e3⟩ ?_ ?_ ?_ ?_ ?_ ?_ ?_ ?_ ?_ ?_ ?_ ?_ ?_
        · rw [inS_iff, f1, f2, f3, m1, m2, m3, g1, g2, g3]; omega
        all_goals (rw [f1, f2, f3] at *; rw [g1] at *; rw [g2] at *; rw [m1] at *; rw [m2] at *; omega)
      · exact boundLater_three l h a x y s1 s2 _ _ _ _ _ _ _ _ _ w hs1 hs2 ⟨rfl, rfl, rfl, e1⟩ ⟨rfl, rfl, rfl, e2⟩ ⟨rfl, rfl, rfl, e3⟩
      · rw [ka3] at q; cases q
    · exact boundLater_no2 l h a x y s1 s2 _ _ _ _ _ _ _ w hs1 hs2 (by simpa using e2) ⟨rfl, rfl, rfl, e1⟩ ⟨rfl, rfl, rfl, rfl⟩
  · exact boundLater_no1 l h a x y s1 s2 _ _ _ _ _ _ _ _ w hs1 hs2 (by simpa using e1) ⟨rfl, rfl, rfl, rfl⟩ ⟨rfl, rfl, rfl, rfl⟩

end Go.Proofs.Ytaodaglaflohbaa

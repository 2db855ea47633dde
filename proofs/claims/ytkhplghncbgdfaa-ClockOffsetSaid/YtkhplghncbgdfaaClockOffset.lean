/- ClockOffset: the walk of the law. It returns true for every clock and all numbers, and leaves old memory alone. -/
import Derived.Test.YtkhplghncbgdfaaHead07
import Derived.Test.YtkhplghncbgdfaaLits07
namespace Go.Proofs.Ytkhplghncbgdfaa
open Go.RowKit

set_option maxHeartbeats 1000000 in
theorem clockOffset_out (o d t s m : Int) (w : World) (_bo : IntKind.i64.has o) (_bm : IntKind.i64.has m)
    (h : vldB o d = false ∨ (vldB o d = true ∧ m < 0) ∨ (vldB o d = true ∧ 0 ≤ m ∧ 1000000000 - o < m) ∨ (vldB o d = true ∧ 0 ≤ m ∧ m ≤ 1000000000 - o ∧ 1152921504606846976 < s) ∨
      (vldB o d = true ∧ 0 ≤ m ∧ m ≤ 1000000000 - o ∧ s < -1152921504606846976)) :
    Calls Try.prog 9 #[.agg #[.int .i64 o, .int .i64 d], .int .i64 t, .int .i64 s, .int .i64 m] w fun e w' => e = .returned (.bool true) ∧ Below w.heap.size w w' := by
  have ho : vldB o d = true → -1000000000 ≤ o ∧ o ≤ 1000000000 := fun hv => ⟨(vld_out hv).1, (vld_out hv).2.1⟩
  rcases h with h | ⟨h, k1⟩ | ⟨h, k1, k2⟩ | ⟨h, k1, k2, k3⟩ | ⟨h, k1, k2, k3⟩
  · clear ho
    go_enter Try.func9, Try.ntmps9
    go_wp2_with fail
    refine (head_any _).mono ?_
    rintro e w1 ⟨rfl, hb⟩
    have oC : Own w1 w.heap.size [.int .i64 o, .int .i64 d] 23 := (own_at _ _ rfl).below hb
    have bel := belowTo ((Below.refl w.heap.size w).alloc (by simp) _) hb (by simp)
    clear hb 
    obtain ⟨cC0, cC1, fC, zC⟩ := own2 oC
    go_wp2_with fail
    refine (valid_lit o d _ _ (by assumption)).mono ?_
    rintro e w2 ⟨rfl, hb⟩
    replace oC := oC.below hb
    replace bel := belowTo bel hb (by exact bel.size)
    clear hb cC0 cC1 fC zC
    obtain ⟨cC0, cC1, fC, zC⟩ := own2 oC
    go_wp2
    go_ret
    exact ⟨rfl, bel⟩
  all_goals
    obtain ⟨o1, o2⟩ := ho h
    clear ho
    go_enter Try.func9, Try.ntmps9
    go_wp2_with fail
    refine (head_any _).mono ?_
    rintro e w1 ⟨rfl, hb⟩
    have oC : Own w1 w.heap.size [.int .i64 o, .int .i64 d] 23 := (own_at _ _ rfl).below hb
    have bel := belowTo ((Below.refl w.heap.size w).alloc (by simp) _) hb (by simp)
    clear hb 
    obtain ⟨cC0, cC1, fC, zC⟩ := own2 oC
    go_wp2_with fail
    refine (valid_lit o d _ _ (by assumption)).mono ?_
    rintro e w2 ⟨rfl, hb⟩
    replace oC := oC.below hb
    replace bel := belowTo bel hb (by exact bel.size)
    clear hb cC0 cC1 fC zC
    obtain ⟨cC0, cC1, fC, zC⟩ := own2 oC
    go_wp2
    go_ret
    exact ⟨rfl, bel⟩

set_option maxHeartbeats 2000000 in
theorem clockOffset_ok (o d t s m A L H G : Int) (h1 : shN o d t = A ∧ shE o d t = 0) (h2 : shN (o + m) d t = A + m ∧ shE (o + m) d t = 0) (a1 : -20000000000000 ≤ A) (a2 : A ≤ 20000000000000)
    (w : World) (hv : vldB o d = true) (m1 : 0 ≤ m) (m2 : m ≤ 1000000000 - o) (s1 : -1152921504606846976 ≤ s) (s2 : s ≤ 1152921504606846976) (o1 : -1000000000 ≤ o) (o2 : o ≤ 1000000000)
    (h3 : whL o d s = L ∧ whH o d s = H ∧ whE o d s = G) (h4 : whL (o + m) d (s + m) = L ∧ whH (o + m) d (s + m) = H ∧ whE (o + m) d (s + m) = G) :
    Calls Try.prog 9 #[.agg #[.int .i64 o, .int .i64 d], .int .i64 t, .int .i64 s, .int .i64 m] w fun e w' => e = .returned (.bool true) ∧ Below w.heap.size w w' := by
  go_enter Try.func9, Try.ntmps9
  go_wp2_with fail
  refine (head_any _).mono ?_
  rintro e w1 ⟨rfl, hb⟩
  have oC : Own w1 w.heap.size [.int .i64 o, .int .i64 d] 23 := (own_at _ _ rfl).below hb
  have bel := belowTo ((Below.refl w.heap.size w).alloc (by simp) _) hb (by simp)
  clear hb 
  obtain ⟨cC0, cC1, fC, zC⟩ := own2 oC
  go_wp2_with fail
  refine (valid_lit o d true _ hv).mono ?_
  rintro e w2 ⟨rfl, hb⟩
  replace oC := oC.below hb
  replace bel := belowTo bel hb (by exact bel.size)
  clear hb cC0 cC1 fC zC
  obtain ⟨cC0, cC1, fC, zC⟩ := own2 oC
  go_wp2_with fail
  refine (show_lit o d t A 0 _ h1).mono ?_
  rintro e w3 ⟨rfl, hb⟩
  replace oC := (oC.alloc _).below hb
  have oD : Own w3 w2.heap.size [.int .i64 (o + m), .int .i64 d] 23 := (own_at _ _ rfl).below hb
  replace bel := belowTo (bel.alloc (by have := bel.size; simp; omega) _) hb (by have := bel.size; simp; omega)
  clear hb cC0 cC1 fC zC
  obtain ⟨cC0, cC1, fC, zC⟩ := own2 oC
  obtain ⟨cD0, cD1, fD, zD⟩ := own2 oD
  go_wp2_with fail
  refine (show_lit (o + m) d t (A + m) 0 _ h2).mono ?_
  rintro e w4 ⟨rfl, hb⟩
  replace oC := oC.below hb
  replace oD := oD.below hb
  replace bel := belowTo bel hb (by exact bel.size)
  clear hb cC0 cC1 fC zC cD0 cD1 fD zD
  obtain ⟨cC0, cC1, fC, zC⟩ := own2 oC
  obtain ⟨cD0, cD1, fD, zD⟩ := own2 oD
  go_wp2_with fail
  refine (when_lit o d s L H G _ h3).mono ?_
  rintro e w5 ⟨rfl, hb⟩
  replace oC := oC.below hb
  replace oD := oD.below hb
  replace bel := belowTo bel hb (by exact bel.size)
  clear hb cC0 cC1 fC zC cD0 cD1 fD zD
  obtain ⟨cC0, cC1, fC, zC⟩ := own2 oC
  obtain ⟨cD0, cD1, fD, zD⟩ := own2 oD
  go_wp2_with fail
  refine (when_lit (o + m) d (s + m) L H G _ h4).mono ?_
  rintro e w6 ⟨rfl, hb⟩
  clear oC cC0 cC1 fC zC
  replace oD := (oD.alloc _).below hb
  have oX : Own w6 w5.heap.size [.int .i64 L, .int .i64 H] 29 := (own_at _ _ rfl).below hb
  replace bel := belowTo (bel.alloc (by have := bel.size; simp; omega) _) hb (by have := bel.size; simp; omega)
  clear hb cD0 cD1 fD zD
  obtain ⟨cD0, cD1, fD, zD⟩ := own2 oD
  obtain ⟨cX0, cX1, fX, zX⟩ := own2 oX
  go_wp2
  go_ret
  exact ⟨rfl, bel.alloc bel.size _⟩

set_option maxHeartbeats 2000000 in
theorem clockOffset_err (o d t s m A B L H G : Int) (h1 : shN o d t = A ∧ shE o d t = 1) (h2 : shN (o + m) d t = B ∧ shE (o + m) d t = 1)
    (w : World) (hv : vldB o d = true) (m1 : 0 ≤ m) (m2 : m ≤ 1000000000 - o) (s1 : -1152921504606846976 ≤ s) (s2 : s ≤ 1152921504606846976) (o1 : -1000000000 ≤ o) (o2 : o ≤ 1000000000)
    (h3 : whL o d s = L ∧ whH o d s = H ∧ whE o d s = G) (h4 : whL (o + m) d (s + m) = L ∧ whH (o + m) d (s + m) = H ∧ whE (o + m) d (s + m) = G) :
    Calls Try.prog 9 #[.agg #[.int .i64 o, .int .i64 d], .int .i64 t, .int .i64 s, .int .i64 m] w fun e w' => e = .returned (.bool true) ∧ Below w.heap.size w w' := by
  go_enter Try.func9, Try.ntmps9
  go_wp2_with fail
  refine (head_any _).mono ?_
  rintro e w1 ⟨rfl, hb⟩
  have oC : Own w1 w.heap.size [.int .i64 o, .int .i64 d] 23 := (own_at _ _ rfl).below hb
  have bel := belowTo ((Below.refl w.heap.size w).alloc (by simp) _) hb (by simp)
  clear hb 
  obtain ⟨cC0, cC1, fC, zC⟩ := own2 oC
  go_wp2_with fail
  refine (valid_lit o d true _ hv).mono ?_
  rintro e w2 ⟨rfl, hb⟩
  replace oC := oC.below hb
  replace bel := belowTo bel hb (by exact bel.size)
  clear hb cC0 cC1 fC zC
  obtain ⟨cC0, cC1, fC, zC⟩ := own2 oC
  go_wp2_with fail
  refine (show_lit o d t A 1 _ h1).mono ?_
  rintro e w3 ⟨rfl, hb⟩
  replace oC := (oC.alloc _).below hb
  have oD : Own w3 w2.heap.size [.int .i64 (o + m), .int .i64 d] 23 := (own_at _ _ rfl).below hb
  replace bel := belowTo (bel.alloc (by have := bel.size; simp; omega) _) hb (by have := bel.size; simp; omega)
  clear hb cC0 cC1 fC zC
  obtain ⟨cC0, cC1, fC, zC⟩ := own2 oC
  obtain ⟨cD0, cD1, fD, zD⟩ := own2 oD
  go_wp2_with fail
  refine (show_lit (o + m) d t B 1 _ h2).mono ?_
  rintro e w4 ⟨rfl, hb⟩
  replace oC := oC.below hb
  replace oD := oD.below hb
  replace bel := belowTo bel hb (by exact bel.size)
  clear hb cC0 cC1 fC zC cD0 cD1 fD zD
  obtain ⟨cC0, cC1, fC, zC⟩ := own2 oC
  obtain ⟨cD0, cD1, fD, zD⟩ := own2 oD
  go_wp2_with fail
  refine (when_lit o d s L H G _ h3).mono ?_
  rintro e w5 ⟨rfl, hb⟩
  replace oC := oC.below hb
  replace oD := oD.below hb
  replace bel := belowTo bel hb (by exact bel.size)
  clear hb cC0 cC1 fC zC cD0 cD1 fD zD
  obtain ⟨cC0, cC1, fC, zC⟩ := own2 oC
  obtain ⟨cD0, cD1, fD, zD⟩ := own2 oD
  go_wp2_with fail
  refine (when_lit (o + m) d (s + m) L H G _ h4).mono ?_
  rintro e w6 ⟨rfl, hb⟩
  clear oC cC0 cC1 fC zC
  replace oD := (oD.alloc _).below hb
  have oX : Own w6 w5.heap.size [.int .i64 L, .int .i64 H] 29 := (own_at _ _ rfl).below hb
  replace bel := belowTo (bel.alloc (by have := bel.size; simp; omega) _) hb (by have := bel.size; simp; omega)
  clear hb cD0 cD1 fD zD
  obtain ⟨cD0, cD1, fD, zD⟩ := own2 oD
  obtain ⟨cX0, cX1, fX, zX⟩ := own2 oX
  go_wp2
  go_ret
  exact ⟨rfl, bel.alloc bel.size _⟩

theorem clockOffset_walk (o d t s m : Int) (w : World) (_bo : IntKind.i64.has o) (_bd : IntKind.i64.has d) (_bt : IntKind.i64.has t) (_bs : IntKind.i64.has s) (_bm : IntKind.i64.has m) :
    Calls Try.prog 9 #[.agg #[.int .i64 o, .int .i64 d], .int .i64 t, .int .i64 s, .int .i64 m] w fun e w' => e = .returned (.bool true) ∧ Below w.heap.size w w' := by
  cases hv : vldB o d with
  | false => exact clockOffset_out o d t s m w _bo _bm (.inl hv)
  | true =>
    obtain ⟨g1, g2, g3, g4⟩ := vld_out hv
    by_cases k1 : m < 0
    · exact clockOffset_out o d t s m w _bo _bm (.inr (.inl ⟨hv, k1⟩))
    · by_cases k2 : 1000000000 - o < m
      · exact clockOffset_out o d t s m w _bo _bm (.inr (.inr (.inl ⟨hv, by omega, k2⟩)))
      · by_cases k3 : 1152921504606846976 < s
        · exact clockOffset_out o d t s m w _bo _bm (.inr (.inr (.inr (.inl ⟨hv, by omega, by omega, k3⟩))))
        · by_cases k4 : s < -1152921504606846976
          · exact clockOffset_out o d t s m w _bo _bm (.inr (.inr (.inr (.inr ⟨hv, by omega, by omega, k4⟩))))
          · have hv' : vldB (o + m) d = true := by unfold vldB; exact decide_eq_true ⟨by omega, by omega, g3, g4⟩
            obtain ⟨e1, e2, e3⟩ := wh_off (s := s) hv hv'
            have hoff := okS_off (t := t) hv hv'
            cases hs : okS o d t with
            | true =>
              obtain ⟨i1, i2⟩ := sh_yes hs
              obtain ⟨j1, j2⟩ := sh_yes (hoff.trans hs)
              obtain ⟨_, b1, b2⟩ := okS_iff.1 hs
              have hbd := at_bd g1 g2 g3 g4 (by omega : -1 ≤ t) (by omega)
              exact clockOffset_ok o d t s m _ _ _ _ ⟨i2, i1⟩ ⟨j2.trans (at_off o d t m), j1⟩ (by omega) (by omega) w hv (by omega) (by omega) (by omega) (by omega) g1 g2 ⟨rfl, rfl, rfl⟩ ⟨e2, e3, e1⟩
            | false =>
              obtain ⟨i1, i2⟩ := sh_no hs
              obtain ⟨j1, j2⟩ := sh_no (hoff.trans hs)
              exact clockOffset_err o d t s m _ _ _ _ _ ⟨i2, i1⟩ ⟨j2, j1⟩ w hv (by omega) (by omega) (by omega) (by omega) g1 g2 ⟨rfl, rfl, rfl⟩ ⟨e2, e3, e1⟩

end Go.Proofs.Ytkhplghncbgdfaa

/- The fixed examples of the statements of layer 9: they hold. -/
import Derived.Test.YtfclodgfifbfbaaHear
import Derived.Test.YtfclodgfifbfbaaTick
import Derived.Test.YtfclodgfifbfbaaTime3
namespace Go.Proofs.Ytfclodgfifbfbaa
open Go.RowKit

set_option linter.unusedVariables false in
set_option maxRecDepth 100000 in
set_option maxHeartbeats 4000000 in
theorem head_any (w : World) :
    Calls Try.prog 11 #[] w
      fun e w' => e = .returned (.bool true) ∧ Below w.heap.size w w' := by
  go_enter Try.func11, Try.ntmps11
  go_wp2_with fail
  refine (start_any false _).mono ?_
  rintro e w1 ⟨rfl, hb⟩
  have bel := belowTo (Below.refl w.heap.size w) hb (by simp)
  clear hb 
  go_wp2_with fail
  refine (hear_new false 0 0 0 60 (-1) 0 3 1 10 5 49000 990 1010 49000 _ (by decide +kernel) ⟨by decide +kernel, by decide +kernel, by decide +kernel⟩).mono ?_
  rintro e w2 ⟨rfl, hb⟩
  replace bel := belowTo bel hb (by exact bel.size)
  clear hb 
  go_wp2_with fail
  refine (hear_new true 990 1010 49000 2 3 5 4 0 4 6 59000 996 1004 59000 _ (by decide +kernel) ⟨by decide +kernel, by decide +kernel, by decide +kernel⟩).mono ?_
  rintro e w3 ⟨rfl, hb⟩
  have oA : Own w3 w2.heap.size [.bool true, .int .i64 990, .int .i64 1010, .int .i64 49000, .int .i64 2, .int .i64 3, .int .i64 5] 25 := (own_at _ _ rfl).below hb
  replace bel := belowTo (bel.alloc (by have := bel.size; simp; omega) _) hb (by have := bel.size; simp; omega)
  clear hb 
  obtain ⟨cA0, cA1, cA2, cA3, cA4, cA5, cA6, fA, zA⟩ := own7 oA
  go_wp2_with fail
  refine (hear_same true 996 1004 59000 1 4 6 5 1 0 7 69000 0 _ (by decide +kernel) (by decide +kernel)).mono ?_
  rintro e w4 ⟨rfl, hb⟩
  replace oA := (oA.alloc _).below hb
  have oB : Own w4 w3.heap.size [.bool true, .int .i64 996, .int .i64 1004, .int .i64 59000, .int .i64 1, .int .i64 4, .int .i64 6] 25 := (own_at _ _ rfl).below hb
  replace bel := belowTo (bel.alloc (by have := bel.size; simp; omega) _) hb (by have := bel.size; simp; omega)
  clear hb cA0 cA1 cA2 cA3 cA4 cA5 cA6 fA zA
  obtain ⟨cA0, cA1, cA2, cA3, cA4, cA5, cA6, fA, zA⟩ := own7 oA
  obtain ⟨cB0, cB1, cB2, cB3, cB4, cB5, cB6, fB, zB⟩ := own7 oB
  go_wp2_with fail
  refine (hear_same true 996 1004 59000 1 4 6 4 0 0 7 79000 16 _ (by decide +kernel) (by decide +kernel)).mono ?_
  rintro e w5 ⟨rfl, hb⟩
  replace oA := (oA.alloc _).below hb
  replace oB := (oB.alloc _).below hb
  have oC : Own w5 w4.heap.size [.bool true, .int .i64 996, .int .i64 1004, .int .i64 59000, .int .i64 1, .int .i64 4, .int .i64 6] 25 := (own_at _ _ rfl).below hb
  replace bel := belowTo (bel.alloc (by have := bel.size; simp; omega) _) hb (by have := bel.size; simp; omega)
  clear hb cA0 cA1 cA2 cA3 cA4 cA5 cA6 fA zA cB0 cB1 cB2 cB3 cB4 cB5 cB6 fB zB
  obtain ⟨cA0, cA1, cA2, cA3, cA4, cA5, cA6, fA, zA⟩ := own7 oA
  obtain ⟨cB0, cB1, cB2, cB3, cB4, cB5, cB6, fB, zB⟩ := own7 oB
  obtain ⟨cC0, cC1, cC2, cC3, cC4, cC5, cC6, fC, zC⟩ := own7 oC
  go_wp2_with fail
  refine (tbound_lit true 996 1004 59000 1 4 6 59000 5 0 _ ⟨by decide +kernel, by decide +kernel⟩).mono ?_
  rintro e w6 ⟨rfl, hb⟩
  replace oA := (oA.alloc _).below hb
  replace oB := (oB.alloc _).below hb
  replace oC := (oC.alloc _).below hb
  have oD : Own w6 w5.heap.size [.bool true, .int .i64 996, .int .i64 1004, .int .i64 59000, .int .i64 1, .int .i64 4, .int .i64 6] 25 := (own_at _ _ rfl).below hb
  replace bel := belowTo (bel.alloc (by have := bel.size; simp; omega) _) hb (by have := bel.size; simp; omega)
  clear hb cA0 cA1 cA2 cA3 cA4 cA5 cA6 fA zA cB0 cB1 cB2 cB3 cB4 cB5 cB6 fB zB cC0 cC1 cC2 cC3 cC4 cC5 cC6 fC zC
  obtain ⟨cA0, cA1, cA2, cA3, cA4, cA5, cA6, fA, zA⟩ := own7 oA
  obtain ⟨cB0, cB1, cB2, cB3, cB4, cB5, cB6, fB, zB⟩ := own7 oB
  obtain ⟨cC0, cC1, cC2, cC3, cC4, cC5, cC6, fC, zC⟩ := own7 oC
  obtain ⟨cD0, cD1, cD2, cD3, cD4, cD5, cD6, fD, zD⟩ := own7 oD
  go_wp2_with fail
  refine (start_any false _).mono ?_
  rintro e w7 ⟨rfl, hb⟩
  replace oA := oA.below hb
  replace oB := oB.below hb
  replace oC := oC.below hb
  replace oD := oD.below hb
  replace bel := belowTo bel hb (by exact bel.size)
  clear hb cA0 cA1 cA2 cA3 cA4 cA5 cA6 fA zA cB0 cB1 cB2 cB3 cB4 cB5 cB6 fB zB cC0 cC1 cC2 cC3 cC4 cC5 cC6 fC zC cD0 cD1 cD2 cD3 cD4 cD5 cD6 fD zD
  obtain ⟨cA0, cA1, cA2, cA3, cA4, cA5, cA6, fA, zA⟩ := own7 oA
  obtain ⟨cB0, cB1, cB2, cB3, cB4, cB5, cB6, fB, zB⟩ := own7 oB
  obtain ⟨cC0, cC1, cC2, cC3, cC4, cC5, cC6, fC, zC⟩ := own7 oC
  obtain ⟨cD0, cD1, cD2, cD3, cD4, cD5, cD6, fD, zD⟩ := own7 oD
  go_wp2_with fail
  refine (tbound_lit false 0 0 0 60 (-1) 0 0 0 16 _ ⟨by decide +kernel, by decide +kernel⟩).mono ?_
  rintro e w8 ⟨rfl, hb⟩
  replace oA := oA.below hb
  replace oB := oB.below hb
  replace oC := oC.below hb
  replace oD := oD.below hb
  replace bel := belowTo bel hb (by exact bel.size)
  clear hb cA0 cA1 cA2 cA3 cA4 cA5 cA6 fA zA cB0 cB1 cB2 cB3 cB4 cB5 cB6 fB zB cC0 cC1 cC2 cC3 cC4 cC5 cC6 fC zC cD0 cD1 cD2 cD3 cD4 cD5 cD6 fD zD
  obtain ⟨cA0, cA1, cA2, cA3, cA4, cA5, cA6, fA, zA⟩ := own7 oA
  obtain ⟨cB0, cB1, cB2, cB3, cB4, cB5, cB6, fB, zB⟩ := own7 oB
  obtain ⟨cC0, cC1, cC2, cC3, cC4, cC5, cC6, fC, zC⟩ := own7 oC
  obtain ⟨cD0, cD1, cD2, cD3, cD4, cD5, cD6, fD, zD⟩ := own7 oD
  go_wp2_with fail
  refine (start_any true _).mono ?_
  rintro e w9 ⟨rfl, hb⟩
  replace oA := oA.below hb
  replace oB := oB.below hb
  replace oC := oC.below hb
  replace oD := oD.below hb
  replace bel := belowTo bel hb (by exact bel.size)
  clear hb cA0 cA1 cA2 cA3 cA4 cA5 cA6 fA zA cB0 cB1 cB2 cB3 cB4 cB5 cB6 fB zB cC0 cC1 cC2 cC3 cC4 cC5 cC6 fC zC cD0 cD1 cD2 cD3 cD4 cD5 cD6 fD zD
  obtain ⟨cA0, cA1, cA2, cA3, cA4, cA5, cA6, fA, zA⟩ := own7 oA
  obtain ⟨cB0, cB1, cB2, cB3, cB4, cB5, cB6, fB, zB⟩ := own7 oB
  obtain ⟨cC0, cC1, cC2, cC3, cC4, cC5, cC6, fC, zC⟩ := own7 oC
  obtain ⟨cD0, cD1, cD2, cD3, cD4, cD5, cD6, fD, zD⟩ := own7 oD
  go_wp2_with fail
  refine (tbound_lit true 0 0 0 0 (-1) 0 12345 0 0 _ ⟨by decide +kernel, by decide +kernel⟩).mono ?_
  rintro e w10 ⟨rfl, hb⟩
  replace oA := oA.below hb
  replace oB := oB.below hb
  replace oC := oC.below hb
  replace oD := oD.below hb
  replace bel := belowTo bel hb (by exact bel.size)
  clear hb cA0 cA1 cA2 cA3 cA4 cA5 cA6 fA zA cB0 cB1 cB2 cB3 cB4 cB5 cB6 fB zB cC0 cC1 cC2 cC3 cC4 cC5 cC6 fC zC cD0 cD1 cD2 cD3 cD4 cD5 cD6 fD zD
  obtain ⟨cA0, cA1, cA2, cA3, cA4, cA5, cA6, fA, zA⟩ := own7 oA
  obtain ⟨cB0, cB1, cB2, cB3, cB4, cB5, cB6, fB, zB⟩ := own7 oB
  obtain ⟨cC0, cC1, cC2, cC3, cC4, cC5, cC6, fC, zC⟩ := own7 oC
  obtain ⟨cD0, cD1, cD2, cD3, cD4, cD5, cD6, fD, zD⟩ := own7 oD
  go_wp2_with fail
  have pA0 := fun x : Past w10 => (oA.past x).cell (i := 0) rfl
  have pA1 := fun x : Past w10 => (oA.past x).cell (i := 1) rfl
  have pA2 := fun x : Past w10 => (oA.past x).cell (i := 2) rfl
  have pA3 := fun x : Past w10 => (oA.past x).cell (i := 3) rfl
  have pA4 := fun x : Past w10 => (oA.past x).cell (i := 4) rfl
  have pA5 := fun x : Past w10 => (oA.past x).cell (i := 5) rfl
  have pA6 := fun x : Past w10 => (oA.past x).cell (i := 6) rfl
  have pB0 := fun x : Past w10 => (oB.past x).cell (i := 0) rfl
  have pB1 := fun x : Past w10 => (oB.past x).cell (i := 1) rfl
  have pB2 := fun x : Past w10 => (oB.past x).cell (i := 2) rfl
  have pB3 := fun x : Past w10 => (oB.past x).cell (i := 3) rfl
  have pB4 := fun x : Past w10 => (oB.past x).cell (i := 4) rfl
  have pB5 := fun x : Past w10 => (oB.past x).cell (i := 5) rfl
  have pB6 := fun x : Past w10 => (oB.past x).cell (i := 6) rfl
  have pC0 := fun x : Past w10 => (oC.past x).cell (i := 0) rfl
  have pC1 := fun x : Past w10 => (oC.past x).cell (i := 1) rfl
  have pC2 := fun x : Past w10 => (oC.past x).cell (i := 2) rfl
  have pC3 := fun x : Past w10 => (oC.past x).cell (i := 3) rfl
  have pC4 := fun x : Past w10 => (oC.past x).cell (i := 4) rfl
  have pC5 := fun x : Past w10 => (oC.past x).cell (i := 5) rfl
  have pC6 := fun x : Past w10 => (oC.past x).cell (i := 6) rfl
  have pD0 := fun x : Past w10 => (oD.past x).cell (i := 0) rfl
  have pD1 := fun x : Past w10 => (oD.past x).cell (i := 1) rfl
  have pD2 := fun x : Past w10 => (oD.past x).cell (i := 2) rfl
  have pD3 := fun x : Past w10 => (oD.past x).cell (i := 3) rfl
  have pD4 := fun x : Past w10 => (oD.past x).cell (i := 4) rfl
  have pD5 := fun x : Past w10 => (oD.past x).cell (i := 5) rfl
  have pD6 := fun x : Past w10 => (oD.past x).cell (i := 6) rfl
  refine wp_region_past (by kernel_rfl) (by kernel_rfl) ?_
  simp only [List.append_eq, List.cons_append, List.nil_append]
  repeat (go_big_quiet_step ((first | (go_at_call_of 16 (Value.int .i64 60000); exact calls_past (tick_same true 996 1004 59000 1 4 6 60000 _ (by decide +kernel))) | (go_at_call_of 16 (Value.int .i64 50059000); exact calls_past (tick_gone true 996 1004 59000 1 4 6 50059000 _ (by decide +kernel))) | (go_at_call 18; exact calls_past (start_any false _)))))
  refine wpQuiet_nil ?_
  rintro _ ⟨x, rfl⟩
  replace bel : Below w.heap.size w (past w10 x) := bel.trans (x.h.mono bel.size)
  clear pA0 pA1 pA2 pA3 pA4 pA5 pA6
  clear pB0 pB1 pB2 pB3 pB4 pB5 pB6
  clear pC0 pC1 pC2 pC3 pC4 pC5 pC6
  clear pD0 pD1 pD2 pD3 pD4 pD5 pD6
  clear cA0 cA1 cA2 cA3 cA4 cA5 cA6 fA zA cB0 cB1 cB2 cB3 cB4 cB5 cB6 fB zB cC0 cC1 cC2 cC3 cC4 cC5 cC6 fC zC cD0 cD1 cD2 cD3 cD4 cD5 cD6 fD zD
  replace oA := oA.past x
  replace oB := oB.past x
  replace oC := oC.past x
  replace oD := oD.past x
  generalize past w10 x = w11 at oA oB oC oD bel ⊢
  obtain ⟨cA0, cA1, cA2, cA3, cA4, cA5, cA6, fA, zA⟩ := own7 oA
  obtain ⟨cB0, cB1, cB2, cB3, cB4, cB5, cB6, fB, zB⟩ := own7 oB
  obtain ⟨cC0, cC1, cC2, cC3, cC4, cC5, cC6, fC, zC⟩ := own7 oC
  obtain ⟨cD0, cD1, cD2, cD3, cD4, cD5, cD6, fD, zD⟩ := own7 oD
  go_wp2
  go_ret
  exact ⟨rfl, bel⟩

end Go.Proofs.Ytfclodgfifbfbaa

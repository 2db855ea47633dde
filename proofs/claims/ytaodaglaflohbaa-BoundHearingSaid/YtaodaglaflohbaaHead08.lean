/- The fixed examples of the bound's laws: they hold. -/
import Derived.Test.YtaodaglaflohbaaLaw08
import Derived.Test.YtaodaglaflohbaaMeet
import Derived.Test.YtaodaglaflohbaaHeard
namespace Go.Proofs.Ytaodaglaflohbaa
open Go.RowKit
set_option maxRecDepth 100000 in
set_option maxHeartbeats 6400000 in
theorem head_any (w : World) :
    Calls Try.prog 11 #[] w fun e w' => e = .returned (.bool true) ∧ Below w.heap.size w w' := by
  go_enter Try.func11, Try.ntmps11
  go_wp2_with fail
  refine (bgrow_lit (-5) 5 100 100 (-6) 6 100 0 _ ⟨by decide +kernel, by decide +kernel, by decide +kernel, by decide +kernel⟩).mono ?_
  rintro e w1 ⟨rfl, hb⟩
  have oS : Own w1 w.heap.size [.int .i64 (-5), .int .i64 5, .int .i64 100] 23 := (own_at _ _ rfl).below hb
  have bel := belowTo ((Below.refl w.heap.size w).alloc (by simp) _) hb (by simp)
  clear hb 
  obtain ⟨cS0, cS1, cS2, fS, zS⟩ := own3 oS
  go_wp2_with fail
  refine (bgrow_lit (-5) 5 100 1000100 (-57) 57 1000100 0 _ ⟨by decide +kernel, by decide +kernel, by decide +kernel, by decide +kernel⟩).mono ?_
  rintro e w2 ⟨rfl, hb⟩
  replace oS := (oS.alloc _).below hb
  have oA : Own w2 w1.heap.size [.int .i64 (-6), .int .i64 6, .int .i64 100] 23 := (own_at _ _ rfl).below hb
  replace bel := belowTo (bel.alloc (by have := bel.size; simp; omega) _) hb (by have := bel.size; simp; omega)
  clear hb cS0 cS1 cS2 fS zS
  obtain ⟨cS0, cS1, cS2, fS, zS⟩ := own3 oS
  obtain ⟨cA0, cA1, cA2, fA, zA⟩ := own3 oA
  go_wp2_with fail
  refine (bgrow_lit (-5) 5 100 101 (-7) 7 101 0 _ ⟨by decide +kernel, by decide +kernel, by decide +kernel, by decide +kernel⟩).mono ?_
  rintro e w3 ⟨rfl, hb⟩
  replace oS := (oS.alloc _).below hb
  replace oA := (oA.alloc _).below hb
  have oB : Own w3 w2.heap.size [.int .i64 (-57), .int .i64 57, .int .i64 1000100] 23 := (own_at _ _ rfl).below hb
  replace bel := belowTo (bel.alloc (by have := bel.size; simp; omega) _) hb (by have := bel.size; simp; omega)
  clear hb cS0 cS1 cS2 fS zS cA0 cA1 cA2 fA zA
  obtain ⟨cS0, cS1, cS2, fS, zS⟩ := own3 oS
  obtain ⟨cA0, cA1, cA2, fA, zA⟩ := own3 oA
  obtain ⟨cB0, cB1, cB2, fB, zB⟩ := own3 oB
  go_wp2_with fail
  refine (meet_lit (-5) 5 100 0 9 1000100 0 9 1000100 0 _ ⟨by decide +kernel, by decide +kernel, by decide +kernel, by decide +kernel⟩).mono ?_
  rintro e w4 ⟨rfl, hb⟩
  replace oS := (oS.alloc _).below hb
  replace oA := (oA.alloc _).below hb
  replace oB := (oB.alloc _).below hb
  have oC : Own w4 w3.heap.size [.int .i64 (-7), .int .i64 7, .int .i64 101] 23 := (own_at _ _ rfl).below hb
  replace bel := belowTo (bel.alloc (by have := bel.size; simp; omega) _) hb (by have := bel.size; simp; omega)
  clear hb cS0 cS1 cS2 fS zS cA0 cA1 cA2 fA zA cB0 cB1 cB2 fB zB
  obtain ⟨cS0, cS1, cS2, fS, zS⟩ := own3 oS
  obtain ⟨cA0, cA1, cA2, fA, zA⟩ := own3 oA
  obtain ⟨cB0, cB1, cB2, fB, zB⟩ := own3 oB
  obtain ⟨cC0, cC1, cC2, fC, zC⟩ := own3 oC
  go_wp2_with fail
  refine (meet_lit (-5) 5 100 8 9 100 0 0 0 16 _ ⟨by decide +kernel, by decide +kernel, by decide +kernel, by decide +kernel⟩).mono ?_
  rintro e w5 ⟨rfl, hb⟩
  replace oS := (oS.alloc _).below hb
  replace oA := (oA.alloc _).below hb
  replace oB := (oB.alloc _).below hb
  replace oC := (oC.alloc _).below hb
  have oD : Own w5 w4.heap.size [.int .i64 0, .int .i64 9, .int .i64 1000100] 23 := (own_at _ _ rfl).below hb
  replace bel := belowTo (bel.alloc (by have := bel.size; simp; omega) _) hb (by have := bel.size; simp; omega)
  clear hb cS0 cS1 cS2 fS zS cA0 cA1 cA2 fA zA cB0 cB1 cB2 fB zB cC0 cC1 cC2 fC zC
  obtain ⟨cS0, cS1, cS2, fS, zS⟩ := own3 oS
  obtain ⟨cA0, cA1, cA2, fA, zA⟩ := own3 oA
  obtain ⟨cB0, cB1, cB2, fB, zB⟩ := own3 oB
  obtain ⟨cC0, cC1, cC2, fC, zC⟩ := own3 oC
  obtain ⟨cD0, cD1, cD2, fD, zD⟩ := own3 oD
  go_wp2_with fail
  refine (heard_lit 0 0 7 3 29990 3 17 29990 0 _ ⟨by decide +kernel, by decide +kernel, by decide +kernel, by decide +kernel⟩).mono ?_
  rintro e w6 ⟨rfl, hb⟩
  replace oS := (oS.alloc _).below hb
  replace oA := (oA.alloc _).below hb
  replace oB := (oB.alloc _).below hb
  replace oC := (oC.alloc _).below hb
  replace oD := (oD.alloc _).below hb
  replace bel := belowTo (bel.alloc (by have := bel.size; simp; omega) _) hb (by have := bel.size; simp; omega)
  clear hb cS0 cS1 cS2 fS zS cA0 cA1 cA2 fA zA cB0 cB1 cB2 fB zB cC0 cC1 cC2 fC zC cD0 cD1 cD2 fD zD
  obtain ⟨cS0, cS1, cS2, fS, zS⟩ := own3 oS
  obtain ⟨cA0, cA1, cA2, fA, zA⟩ := own3 oA
  obtain ⟨cB0, cB1, cB2, fB, zB⟩ := own3 oB
  obtain ⟨cC0, cC1, cC2, fC, zC⟩ := own3 oC
  obtain ⟨cD0, cD1, cD2, fD, zD⟩ := own3 oD
  go_wp2_with fail
  refine (bgrow_lit (-5) 5 100 99 0 0 0 1 _ ⟨by decide +kernel, by decide +kernel, by decide +kernel, by decide +kernel⟩).mono ?_
  rintro e w7 ⟨rfl, hb⟩
  replace oS := (oS.alloc _).below hb
  replace oA := (oA.alloc _).below hb
  replace oB := (oB.alloc _).below hb
  replace oC := (oC.alloc _).below hb
  replace oD := (oD.alloc _).below hb
  have oK : Own w7 w6.heap.size [.int .i64 3, .int .i64 17, .int .i64 29990] 23 := (own_at _ _ rfl).below hb
  replace bel := belowTo (bel.alloc (by have := bel.size; simp; omega) _) hb (by have := bel.size; simp; omega)
  clear hb cS0 cS1 cS2 fS zS cA0 cA1 cA2 fA zA cB0 cB1 cB2 fB zB cC0 cC1 cC2 fC zC cD0 cD1 cD2 fD zD
  obtain ⟨cS0, cS1, cS2, fS, zS⟩ := own3 oS
  obtain ⟨cA0, cA1, cA2, fA, zA⟩ := own3 oA
  obtain ⟨cB0, cB1, cB2, fB, zB⟩ := own3 oB
  obtain ⟨cC0, cC1, cC2, fC, zC⟩ := own3 oC
  obtain ⟨cD0, cD1, cD2, fD, zD⟩ := own3 oD
  obtain ⟨cK0, cK1, cK2, fK, zK⟩ := own3 oK
  go_wp2_with fail
  refine (is_lit (-6) 6 100 0 (-6) 6 100 true _ (by decide +kernel)).mono ?_
  rintro e w8 ⟨rfl, hb⟩
  replace oS := (oS.alloc _).below hb
  replace oA := (oA.alloc _).below hb
  replace oB := (oB.alloc _).below hb
  replace oC := (oC.alloc _).below hb
  replace oD := (oD.alloc _).below hb
  replace oK := (oK.alloc _).below hb
  replace bel := belowTo (bel.alloc (by have := bel.size; simp; omega) _) hb (by have := bel.size; simp; omega)
  clear hb cS0 cS1 cS2 fS zS cA0 cA1 cA2 fA zA cB0 cB1 cB2 fB zB cC0 cC1 cC2 fC zC cD0 cD1 cD2 fD zD cK0 cK1 cK2 fK zK
  obtain ⟨cS0, cS1, cS2, fS, zS⟩ := own3 oS
  obtain ⟨cA0, cA1, cA2, fA, zA⟩ := own3 oA
  obtain ⟨cB0, cB1, cB2, fB, zB⟩ := own3 oB
  obtain ⟨cC0, cC1, cC2, fC, zC⟩ := own3 oC
  obtain ⟨cD0, cD1, cD2, fD, zD⟩ := own3 oD
  obtain ⟨cK0, cK1, cK2, fK, zK⟩ := own3 oK
  go_wp2_with fail
  refine (is_lit (-57) 57 1000100 0 (-57) 57 1000100 true _ (by decide +kernel)).mono ?_
  rintro e w9 ⟨rfl, hb⟩
  clear oA cA0 cA1 cA2 fA zA
  replace oS := oS.below hb
  replace oB := oB.below hb
  replace oC := oC.below hb
  replace oD := oD.below hb
  replace oK := oK.below hb
  replace bel := belowTo bel hb (by exact bel.size)
  clear hb cS0 cS1 cS2 fS zS cB0 cB1 cB2 fB zB cC0 cC1 cC2 fC zC cD0 cD1 cD2 fD zD cK0 cK1 cK2 fK zK
  obtain ⟨cS0, cS1, cS2, fS, zS⟩ := own3 oS
  obtain ⟨cB0, cB1, cB2, fB, zB⟩ := own3 oB
  obtain ⟨cC0, cC1, cC2, fC, zC⟩ := own3 oC
  obtain ⟨cD0, cD1, cD2, fD, zD⟩ := own3 oD
  obtain ⟨cK0, cK1, cK2, fK, zK⟩ := own3 oK
  go_wp2_with fail
  refine (is_lit (-7) 7 101 0 (-7) 7 101 true _ (by decide +kernel)).mono ?_
  rintro e w10 ⟨rfl, hb⟩
  clear oB cB0 cB1 cB2 fB zB
  replace oS := oS.below hb
  replace oC := oC.below hb
  replace oD := oD.below hb
  replace oK := oK.below hb
  replace bel := belowTo bel hb (by exact bel.size)
  clear hb cS0 cS1 cS2 fS zS cC0 cC1 cC2 fC zC cD0 cD1 cD2 fD zD cK0 cK1 cK2 fK zK
  obtain ⟨cS0, cS1, cS2, fS, zS⟩ := own3 oS
  obtain ⟨cC0, cC1, cC2, fC, zC⟩ := own3 oC
  obtain ⟨cD0, cD1, cD2, fD, zD⟩ := own3 oD
  obtain ⟨cK0, cK1, cK2, fK, zK⟩ := own3 oK
  go_wp2_with fail
  refine (is_lit 0 9 1000100 0 0 9 1000100 true _ (by decide +kernel)).mono ?_
  rintro e w11 ⟨rfl, hb⟩
  clear oC cC0 cC1 cC2 fC zC
  replace oS := oS.below hb
  replace oD := oD.below hb
  replace oK := oK.below hb
  replace bel := belowTo bel hb (by exact bel.size)
  clear hb cS0 cS1 cS2 fS zS cD0 cD1 cD2 fD zD cK0 cK1 cK2 fK zK
  obtain ⟨cS0, cS1, cS2, fS, zS⟩ := own3 oS
  obtain ⟨cD0, cD1, cD2, fD, zD⟩ := own3 oD
  obtain ⟨cK0, cK1, cK2, fK, zK⟩ := own3 oK
  go_wp2_with fail
  refine (is_lit 3 17 29990 0 3 17 29990 true _ (by decide +kernel)).mono ?_
  rintro e w12 ⟨rfl, hb⟩
  clear oD cD0 cD1 cD2 fD zD
  replace oS := oS.below hb
  replace oK := oK.below hb
  replace bel := belowTo bel hb (by exact bel.size)
  clear hb cS0 cS1 cS2 fS zS cK0 cK1 cK2 fK zK
  obtain ⟨cS0, cS1, cS2, fS, zS⟩ := own3 oS
  obtain ⟨cK0, cK1, cK2, fK, zK⟩ := own3 oK
  go_wp2_with fail
  refine (bvalid_lit (-5) 5 100 true _ (by decide +kernel)).mono ?_
  rintro e w13 ⟨rfl, hb⟩
  clear oK cK0 cK1 cK2 fK zK
  replace oS := oS.below hb
  replace bel := belowTo bel hb (by exact bel.size)
  clear hb cS0 cS1 cS2 fS zS
  obtain ⟨cS0, cS1, cS2, fS, zS⟩ := own3 oS
  go_wp2_with fail
  refine (bwidth_lit (-5) 5 100 10 _ (by decide +kernel)).mono ?_
  rintro e w14 ⟨rfl, hb⟩
  replace oS := oS.below hb
  replace bel := belowTo bel hb (by exact bel.size)
  clear hb cS0 cS1 cS2 fS zS
  obtain ⟨cS0, cS1, cS2, fS, zS⟩ := own3 oS
  go_wp2_with fail
  refine (bwidth_lit 1 0 0 (-1) _ (by decide +kernel)).mono ?_
  rintro e w15 ⟨rfl, hb⟩
  replace oS := oS.below hb
  replace bel := belowTo bel hb (by exact bel.size)
  clear hb cS0 cS1 cS2 fS zS
  obtain ⟨cS0, cS1, cS2, fS, zS⟩ := own3 oS
  go_wp2
  go_ret
  exact ⟨rfl, bel⟩

end Go.Proofs.Ytaodaglaflohbaa

/- The fixed examples of the statements of layer 10: they hold. -/
import Derived.Test.YtcbadbcdjejjcaaHelp10
namespace Go.Proofs.Ytcbadbcdjejjcaa
open Go.RowKit

set_option linter.unusedVariables false in
set_option maxRecDepth 100000 in
set_option maxHeartbeats 4000000 in
theorem head_any (w : World) :
    Calls Try.prog 10 #[] w
      fun e w' => e = .returned (.bool true) ∧ Below w.heap.size w w' := by
  go_enter Try.func10, Try.ntmps10
  go_wp2_with fail
  refine (rstart_any true _).mono ?_
  rintro e w1 ⟨rfl, hb⟩
  have bel := belowTo (Below.refl w.heap.size w) hb (by simp)
  clear hb 
  go_wp2_with fail
  refine (sends_yes true 0 0 0 0 (-1) 0 0 0 7 0 (-2004) 2004 _ ⟨by decide +kernel, by decide +kernel⟩ ⟨by decide +kernel, by decide +kernel, by decide +kernel⟩).mono ?_
  rintro e w2 ⟨rfl, hb⟩
  replace bel := belowTo bel hb (by exact bel.size)
  clear hb 
  go_wp2_with fail
  refine (example_any _).mono ?_
  rintro e w3 ⟨rfl, hb⟩
  replace bel := belowTo bel hb (by exact bel.size)
  clear hb 
  go_wp2_with fail
  refine (sends_yes true 90 110 9900 1 0 0 (-100) 0 1 0 (-2015) 2015 _ ⟨by decide +kernel, by decide +kernel⟩ ⟨by decide +kernel, by decide +kernel, by decide +kernel⟩).mono ?_
  rintro e w4 ⟨rfl, hb⟩
  have oL : Own w4 w3.heap.size [.bool true, .int .i64 90, .int .i64 110, .int .i64 9900, .int .i64 1, .int .i64 0, .int .i64 0] 25 := (own_at _ _ rfl).below hb
  replace bel := belowTo (bel.alloc (by have := bel.size; simp; omega) _) hb (by have := bel.size; simp; omega)
  clear hb 
  obtain ⟨cL0, cL1, cL2, cL3, cL4, cL5, cL6, fL, zL⟩ := own7 oL
  go_wp2_with fail
  refine (sends_yes true 90 110 9900 1 0 0 (-95) 0 1 (-5) (-2020) 2010 _ ⟨by decide +kernel, by decide +kernel⟩ ⟨by decide +kernel, by decide +kernel, by decide +kernel⟩).mono ?_
  rintro e w5 ⟨rfl, hb⟩
  replace oL := oL.below hb
  replace bel := belowTo bel hb (by exact bel.size)
  clear hb cL0 cL1 cL2 cL3 cL4 cL5 cL6 fL zL
  obtain ⟨cL0, cL1, cL2, cL3, cL4, cL5, cL6, fL, zL⟩ := own7 oL
  go_wp2_with fail
  refine (rstart_any false _).mono ?_
  rintro e w6 ⟨rfl, hb⟩
  replace oL := oL.below hb
  replace bel := belowTo bel hb (by exact bel.size)
  clear hb cL0 cL1 cL2 cL3 cL4 cL5 cL6 fL zL
  obtain ⟨cL0, cL1, cL2, cL3, cL4, cL5, cL6, fL, zL⟩ := own7 oL
  go_wp2_with fail
  refine (send_lit false 0 0 0 60 (-1) 0 0 0 0 0 16 _ ⟨by decide +kernel, by decide +kernel⟩).mono ?_
  rintro e w7 ⟨rfl, hb⟩
  replace oL := oL.below hb
  replace bel := belowTo bel hb (by exact bel.size)
  clear hb cL0 cL1 cL2 cL3 cL4 cL5 cL6 fL zL
  obtain ⟨cL0, cL1, cL2, cL3, cL4, cL5, cL6, fL, zL⟩ := own7 oL
  go_wp2_with fail
  refine (send_lit true 90 110 9900 1 0 0 0 51 0 0 1 _ ⟨by decide +kernel, by decide +kernel⟩).mono ?_
  rintro e w8 ⟨rfl, hb⟩
  replace oL := oL.below hb
  replace bel := belowTo bel hb (by exact bel.size)
  clear hb cL0 cL1 cL2 cL3 cL4 cL5 cL6 fL zL
  obtain ⟨cL0, cL1, cL2, cL3, cL4, cL5, cL6, fL, zL⟩ := own7 oL
  go_wp2_with fail
  refine (listen_lit true 90 110 9900 1 0 0 0 0 1000000000 0 0 1 _ ⟨by decide +kernel, by decide +kernel, by decide +kernel⟩).mono ?_
  rintro e w9 ⟨rfl, hb⟩
  replace oL := oL.below hb
  replace bel := belowTo bel hb (by exact bel.size)
  clear hb cL0 cL1 cL2 cL3 cL4 cL5 cL6 fL zL
  obtain ⟨cL0, cL1, cL2, cL3, cL4, cL5, cL6, fL, zL⟩ := own7 oL
  go_wp2_with fail
  refine (catches_lit (-2) (-2) 3 true _ (by decide +kernel)).mono ?_
  rintro e w10 ⟨rfl, hb⟩
  replace oL := ((oL.alloc _).alloc _).below hb
  have oR : Own w10 (w9.heap.size + 1) [.int .i64 (-2), .int .i64 3] 29 := (own_at _ _ (by simp)).below hb
  replace bel := belowTo ((bel.alloc (by have := bel.size; simp; omega) _).alloc (by have := bel.size; simp; omega) _) hb (by have := bel.size; simp; omega)
  clear hb cL0 cL1 cL2 cL3 cL4 cL5 cL6 fL zL
  obtain ⟨cL0, cL1, cL2, cL3, cL4, cL5, cL6, fL, zL⟩ := own7 oL
  obtain ⟨cR0, cR1, fR, zR⟩ := own2 oR
  go_wp2_with fail
  refine (catches_lit 3 (-2) 3 true _ (by decide +kernel)).mono ?_
  rintro e w11 ⟨rfl, hb⟩
  replace oL := oL.below hb
  replace oR := oR.below hb
  replace bel := belowTo bel hb (by exact bel.size)
  clear hb cL0 cL1 cL2 cL3 cL4 cL5 cL6 fL zL cR0 cR1 fR zR
  obtain ⟨cL0, cL1, cL2, cL3, cL4, cL5, cL6, fL, zL⟩ := own7 oL
  obtain ⟨cR0, cR1, fR, zR⟩ := own2 oR
  go_wp2_with fail
  refine (catches_lit 4 (-2) 3 false _ (by decide +kernel)).mono ?_
  rintro e w12 ⟨rfl, hb⟩
  replace oL := oL.below hb
  replace oR := oR.below hb
  replace bel := belowTo bel hb (by exact bel.size)
  clear hb cL0 cL1 cL2 cL3 cL4 cL5 cL6 fL zL cR0 cR1 fR zR
  obtain ⟨cL0, cL1, cL2, cL3, cL4, cL5, cL6, fL, zL⟩ := own7 oL
  obtain ⟨cR0, cR1, fR, zR⟩ := own2 oR
  go_wp2_with fail
  refine (catches_lit (-3) (-2) 3 false _ (by decide +kernel)).mono ?_
  rintro e w13 ⟨rfl, hb⟩
  replace oL := oL.below hb
  replace oR := oR.below hb
  replace bel := belowTo bel hb (by exact bel.size)
  clear hb cL0 cL1 cL2 cL3 cL4 cL5 cL6 fL zL cR0 cR1 fR zR
  obtain ⟨cL0, cL1, cL2, cL3, cL4, cL5, cL6, fL, zL⟩ := own7 oL
  obtain ⟨cR0, cR1, fR, zR⟩ := own2 oR
  go_wp2
  go_ret
  exact ⟨rfl, bel⟩

end Go.Proofs.Ytcbadbcdjejjcaa

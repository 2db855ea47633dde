/- The fixed examples of the statements over timesync and guard: they hold. -/
import Derived.Test.YthnilgmafbkdkaaSend
namespace Go.Proofs.Ythnilgmafbkdkaa
open Go.RowKit

set_option linter.unusedVariables false in
set_option maxRecDepth 100000 in
set_option maxHeartbeats 4000000 in
theorem time17_any (w : World) : Calls Try.prog 5 #[] w fun e w' => e = .returned (.bool true) ∧ Below w.heap.size w w' := by
  go_enter Try.func5, Try.ntmps5
  go_wp2_with fail
  refine (start_any false _).mono ?_
  rintro e w1 ⟨rfl, hb⟩
  have bel := belowTo (Below.refl w.heap.size w) hb (by simp)
  clear hb 
  go_wp2_with fail
  refine (hear_new false 0 0 0 60 (-1) 0 0 0 0 3 30100 (-100) (-100) 30100 _ (by decide +kernel) ⟨by decide +kernel, by decide +kernel, by decide +kernel⟩).mono ?_
  rintro e w2 ⟨rfl, hb⟩
  replace bel := belowTo bel hb (by exact bel.size)
  clear hb 
  go_wp2_with fail
  refine (send_lit true (-100) (-100) 30100 1 0 3 100 0 4 0 0 _ ⟨by decide +kernel, by decide +kernel⟩).mono ?_
  rintro e w3 ⟨rfl, hb⟩
  have oS : Own w3 w2.heap.size [.bool true, .int .i64 (-100), .int .i64 (-100), .int .i64 30100, .int .i64 1, .int .i64 0, .int .i64 3] 25 := (own_at _ _ rfl).below hb
  replace bel := belowTo (bel.alloc (by have := bel.size; simp; omega) _) hb (by have := bel.size; simp; omega)
  clear hb 
  obtain ⟨cS0, cS1, cS2, cS3, cS4, cS5, cS6, fS, zS⟩ := own7 oS
  go_wp2_with fail
  refine (send_lit true (-100) (-100) 30100 1 0 3 100 0 24003 0 16 _ ⟨by decide +kernel, by decide +kernel⟩).mono ?_
  rintro e w4 ⟨rfl, hb⟩
  replace oS := oS.below hb
  replace bel := belowTo bel hb (by exact bel.size)
  clear hb cS0 cS1 cS2 cS3 cS4 cS5 cS6 fS zS
  obtain ⟨cS0, cS1, cS2, cS3, cS4, cS5, cS6, fS, zS⟩ := own7 oS
  go_wp2_with fail
  refine (start_any false _).mono ?_
  rintro e w5 ⟨rfl, hb⟩
  replace oS := oS.below hb
  replace bel := belowTo bel hb (by exact bel.size)
  clear hb cS0 cS1 cS2 cS3 cS4 cS5 cS6 fS zS
  obtain ⟨cS0, cS1, cS2, cS3, cS4, cS5, cS6, fS, zS⟩ := own7 oS
  go_wp2_with fail
  refine (send_lit false 0 0 0 60 (-1) 0 0 0 4 0 16 _ ⟨by decide +kernel, by decide +kernel⟩).mono ?_
  rintro e w6 ⟨rfl, hb⟩
  replace oS := oS.below hb
  replace bel := belowTo bel hb (by exact bel.size)
  clear hb cS0 cS1 cS2 cS3 cS4 cS5 cS6 fS zS
  obtain ⟨cS0, cS1, cS2, cS3, cS4, cS5, cS6, fS, zS⟩ := own7 oS
  go_wp2
  go_ret
  exact ⟨rfl, bel⟩

end Go.Proofs.Ythnilgmafbkdkaa

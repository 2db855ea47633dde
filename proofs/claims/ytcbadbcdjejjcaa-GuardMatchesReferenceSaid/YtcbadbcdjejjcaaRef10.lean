/- The contracts of the reference's layer 10: Send, Listen, Catches. -/
import Derived.Test.YtcbadbcdjejjcaaFirst10
import Derived.Test.YtcbadbcdjejjcaaOwn10
import Derived.Test.YtcbadbcdjejjcaaRef09
import Derived.Test.YtcbadbcdjejjcaaSend
import Derived.Test.YtcbadbcdjejjcaaRValid
namespace Go.Proofs.Ytcbadbcdjejjcaa
open Go.RowKit

set_option linter.unusedVariables false in
set_option maxRecDepth 100000 in
set_option maxHeartbeats 4000000 in
theorem rsend_clock_true (sy : Bool) (l h a k src he o d asn : Int) (w : World) (hc : vldB o d = false) (hv : vldT sy l h a k src he = true) :
    Calls Try.prog 12 #[.agg #[.bool sy, .int .i64 l, .int .i64 h, .int .i64 a, .int .i64 k, .int .i64 src, .int .i64 he], .agg #[.int .i64 o, .int .i64 d], .int .i64 asn] w
      fun e w' => e = .returned (.tuple #[.int .i64 0, .int .i64 1]) ∧ Below w.heap.size w w' := by
  have Hhc := Lib.hid hc
  clear hc
  have Hhv := Lib.hid hv
  clear hv
  go_enter Try.func12, Try.ntmps12
  go_wp2_with fail
  refine (rvalid_lit o d false _ Hhc.out).mono ?_
  rintro e w1 ⟨rfl, hb⟩
  have oS : Own w1 w.heap.size [.bool sy, .int .i64 l, .int .i64 h, .int .i64 a, .int .i64 k, .int .i64 src, .int .i64 he] 25 := ((own_at _ _ rfl).alloc _).below hb
  have oC : Own w1 (w.heap.size + 1) [.int .i64 o, .int .i64 d] 27 := (own_at _ _ (by simp)).below hb
  have bel := belowTo (((Below.refl w.heap.size w).alloc (by simp) _).alloc (by simp) _) hb (by simp; omega)
  clear hb 
  obtain ⟨cS0, cS1, cS2, cS3, cS4, cS5, cS6, fS, zS⟩ := own7 oS
  obtain ⟨cC0, cC1, fC, zC⟩ := own2 oC
  go_wp2_with fail
  refine (rtvalid_lit sy l h a k src he true _ Hhv.out).mono ?_
  rintro e w2 ⟨rfl, hb⟩
  replace oS := oS.below hb
  replace oC := oC.below hb
  replace bel := belowTo bel hb (by exact bel.size)
  clear hb cS0 cS1 cS2 cS3 cS4 cS5 cS6 fS zS cC0 cC1 fC zC
  obtain ⟨cS0, cS1, cS2, cS3, cS4, cS5, cS6, fS, zS⟩ := own7 oS
  obtain ⟨cC0, cC1, fC, zC⟩ := own2 oC
  go_wp2
  go_ret2
  exact ⟨rfl, bel⟩

set_option linter.unusedVariables false in
set_option maxRecDepth 100000 in
set_option maxHeartbeats 4000000 in
theorem rsend_clock_false (sy : Bool) (l h a k src he o d asn : Int) (w : World) (hc : vldB o d = false) (hv : vldT sy l h a k src he = false) :
    Calls Try.prog 12 #[.agg #[.bool sy, .int .i64 l, .int .i64 h, .int .i64 a, .int .i64 k, .int .i64 src, .int .i64 he], .agg #[.int .i64 o, .int .i64 d], .int .i64 asn] w
      fun e w' => e = .returned (.tuple #[.int .i64 0, .int .i64 1]) ∧ Below w.heap.size w w' := by
  have Hhc := Lib.hid hc
  clear hc
  have Hhv := Lib.hid hv
  clear hv
  go_enter Try.func12, Try.ntmps12
  go_wp2_with fail
  refine (rvalid_lit o d false _ Hhc.out).mono ?_
  rintro e w1 ⟨rfl, hb⟩
  have oS : Own w1 w.heap.size [.bool sy, .int .i64 l, .int .i64 h, .int .i64 a, .int .i64 k, .int .i64 src, .int .i64 he] 25 := ((own_at _ _ rfl).alloc _).below hb
  have oC : Own w1 (w.heap.size + 1) [.int .i64 o, .int .i64 d] 27 := (own_at _ _ (by simp)).below hb
  have bel := belowTo (((Below.refl w.heap.size w).alloc (by simp) _).alloc (by simp) _) hb (by simp; omega)
  clear hb 
  obtain ⟨cS0, cS1, cS2, cS3, cS4, cS5, cS6, fS, zS⟩ := own7 oS
  obtain ⟨cC0, cC1, fC, zC⟩ := own2 oC
  go_wp2_with fail
  refine (rtvalid_lit sy l h a k src he false _ Hhv.out).mono ?_
  rintro e w2 ⟨rfl, hb⟩
  replace oS := oS.below hb
  replace oC := oC.below hb
  replace bel := belowTo bel hb (by exact bel.size)
  clear hb cS0 cS1 cS2 cS3 cS4 cS5 cS6 fS zS cC0 cC1 fC zC
  obtain ⟨cS0, cS1, cS2, cS3, cS4, cS5, cS6, fS, zS⟩ := own7 oS
  obtain ⟨cC0, cC1, fC, zC⟩ := own2 oC
  go_wp2
  go_ret2
  exact ⟨rfl, bel⟩

set_option linter.unusedVariables false in
set_option maxRecDepth 100000 in
set_option maxHeartbeats 4000000 in
theorem rsend_state (sy : Bool) (l h a k src he o d asn : Int) (w : World) (hc : vldB o d = true) (hv : vldT sy l h a k src he = false) :
    Calls Try.prog 12 #[.agg #[.bool sy, .int .i64 l, .int .i64 h, .int .i64 a, .int .i64 k, .int .i64 src, .int .i64 he], .agg #[.int .i64 o, .int .i64 d], .int .i64 asn] w
      fun e w' => e = .returned (.tuple #[.int .i64 0, .int .i64 1]) ∧ Below w.heap.size w w' := by
  have Hhc := Lib.hid hc
  clear hc
  have Hhv := Lib.hid hv
  clear hv
  go_enter Try.func12, Try.ntmps12
  go_wp2_with fail
  refine (rvalid_lit o d true _ Hhc.out).mono ?_
  rintro e w1 ⟨rfl, hb⟩
  have oS : Own w1 w.heap.size [.bool sy, .int .i64 l, .int .i64 h, .int .i64 a, .int .i64 k, .int .i64 src, .int .i64 he] 25 := ((own_at _ _ rfl).alloc _).below hb
  have oC : Own w1 (w.heap.size + 1) [.int .i64 o, .int .i64 d] 27 := (own_at _ _ (by simp)).below hb
  have bel := belowTo (((Below.refl w.heap.size w).alloc (by simp) _).alloc (by simp) _) hb (by simp; omega)
  clear hb 
  obtain ⟨cS0, cS1, cS2, cS3, cS4, cS5, cS6, fS, zS⟩ := own7 oS
  obtain ⟨cC0, cC1, fC, zC⟩ := own2 oC
  go_wp2_with fail
  refine (rtvalid_lit sy l h a k src he false _ Hhv.out).mono ?_
  rintro e w2 ⟨rfl, hb⟩
  replace oS := oS.below hb
  replace oC := oC.below hb
  replace bel := belowTo bel hb (by exact bel.size)
  clear hb cS0 cS1 cS2 cS3 cS4 cS5 cS6 fS zS cC0 cC1 fC zC
  obtain ⟨cS0, cS1, cS2, cS3, cS4, cS5, cS6, fS, zS⟩ := own7 oS
  obtain ⟨cC0, cC1, fC, zC⟩ := own2 oC
  go_wp2
  go_ret2
  exact ⟨rfl, bel⟩

set_option linter.unusedVariables false in
set_option maxRecDepth 100000 in
set_option maxHeartbeats 4000000 in
theorem rsend_neg (sy : Bool) (l h a k src he o d asn : Int) (w : World) (hc : vldB o d = true) (hv : vldT sy l h a k src he = true) (h1 : asn < 0) :
    Calls Try.prog 12 #[.agg #[.bool sy, .int .i64 l, .int .i64 h, .int .i64 a, .int .i64 k, .int .i64 src, .int .i64 he], .agg #[.int .i64 o, .int .i64 d], .int .i64 asn] w
      fun e w' => e = .returned (.tuple #[.int .i64 0, .int .i64 1]) ∧ Below w.heap.size w w' := by
  have Hhc := Lib.hid hc
  clear hc
  have Hhv := Lib.hid hv
  clear hv
  go_enter Try.func12, Try.ntmps12
  go_wp2_with fail
  refine (rvalid_lit o d true _ Hhc.out).mono ?_
  rintro e w1 ⟨rfl, hb⟩
  have oS : Own w1 w.heap.size [.bool sy, .int .i64 l, .int .i64 h, .int .i64 a, .int .i64 k, .int .i64 src, .int .i64 he] 25 := ((own_at _ _ rfl).alloc _).below hb
  have oC : Own w1 (w.heap.size + 1) [.int .i64 o, .int .i64 d] 27 := (own_at _ _ (by simp)).below hb
  have bel := belowTo (((Below.refl w.heap.size w).alloc (by simp) _).alloc (by simp) _) hb (by simp; omega)
  clear hb 
  obtain ⟨cS0, cS1, cS2, cS3, cS4, cS5, cS6, fS, zS⟩ := own7 oS
  obtain ⟨cC0, cC1, fC, zC⟩ := own2 oC
  go_wp2_with fail
  refine (rtvalid_lit sy l h a k src he true _ Hhv.out).mono ?_
  rintro e w2 ⟨rfl, hb⟩
  replace oS := oS.below hb
  replace oC := oC.below hb
  replace bel := belowTo bel hb (by exact bel.size)
  clear hb cS0 cS1 cS2 cS3 cS4 cS5 cS6 fS zS cC0 cC1 fC zC
  obtain ⟨cS0, cS1, cS2, cS3, cS4, cS5, cS6, fS, zS⟩ := own7 oS
  obtain ⟨cC0, cC1, fC, zC⟩ := own2 oC
  go_wp2
  go_ret2
  exact ⟨rfl, bel⟩

set_option linter.unusedVariables false in
set_option maxRecDepth 100000 in
set_option maxHeartbeats 4000000 in
theorem rsend_big (sy : Bool) (l h a k src he o d asn : Int) (w : World) (hc : vldB o d = true) (hv : vldT sy l h a k src he = true) (h1 : 0 ≤ asn) (h2 : 999999999 < asn) :
    Calls Try.prog 12 #[.agg #[.bool sy, .int .i64 l, .int .i64 h, .int .i64 a, .int .i64 k, .int .i64 src, .int .i64 he], .agg #[.int .i64 o, .int .i64 d], .int .i64 asn] w
      fun e w' => e = .returned (.tuple #[.int .i64 0, .int .i64 1]) ∧ Below w.heap.size w w' := by
  have Hhc := Lib.hid hc
  clear hc
  have Hhv := Lib.hid hv
  clear hv
  go_enter Try.func12, Try.ntmps12
  go_wp2_with fail
  refine (rvalid_lit o d true _ Hhc.out).mono ?_
  rintro e w1 ⟨rfl, hb⟩
  have oS : Own w1 w.heap.size [.bool sy, .int .i64 l, .int .i64 h, .int .i64 a, .int .i64 k, .int .i64 src, .int .i64 he] 25 := ((own_at _ _ rfl).alloc _).below hb
  have oC : Own w1 (w.heap.size + 1) [.int .i64 o, .int .i64 d] 27 := (own_at _ _ (by simp)).below hb
  have bel := belowTo (((Below.refl w.heap.size w).alloc (by simp) _).alloc (by simp) _) hb (by simp; omega)
  clear hb 
  obtain ⟨cS0, cS1, cS2, cS3, cS4, cS5, cS6, fS, zS⟩ := own7 oS
  obtain ⟨cC0, cC1, fC, zC⟩ := own2 oC
  go_wp2_with fail
  refine (rtvalid_lit sy l h a k src he true _ Hhv.out).mono ?_
  rintro e w2 ⟨rfl, hb⟩
  replace oS := oS.below hb
  replace oC := oC.below hb
  replace bel := belowTo bel hb (by exact bel.size)
  clear hb cS0 cS1 cS2 cS3 cS4 cS5 cS6 fS zS cC0 cC1 fC zC
  obtain ⟨cS0, cS1, cS2, cS3, cS4, cS5, cS6, fS, zS⟩ := own7 oS
  obtain ⟨cC0, cC1, fC, zC⟩ := own2 oC
  go_wp2
  go_ret2
  exact ⟨rfl, bel⟩

set_option linter.unusedVariables false in
set_option maxRecDepth 100000 in
set_option maxHeartbeats 4000000 in
theorem rsend_off (l h a k src he o d asn : Int) (w : World) (hc : vldB o d = true) (hv : vldT false l h a k src he = true) (h1 : 0 ≤ asn) (h2 : asn ≤ 999999999)  :
    Calls Try.prog 12 #[.agg #[.bool false, .int .i64 l, .int .i64 h, .int .i64 a, .int .i64 k, .int .i64 src, .int .i64 he], .agg #[.int .i64 o, .int .i64 d], .int .i64 asn] w
      fun e w' => e = .returned (.tuple #[.int .i64 0, .int .i64 16]) ∧ Below w.heap.size w w' := by
  have Hhc := Lib.hid hc
  clear hc
  have Hhv := Lib.hid hv
  clear hv
  go_enter Try.func12, Try.ntmps12
  go_wp2_with fail
  refine (rvalid_lit o d true _ Hhc.out).mono ?_
  rintro e w1 ⟨rfl, hb⟩
  have oS : Own w1 w.heap.size [.bool false, .int .i64 l, .int .i64 h, .int .i64 a, .int .i64 k, .int .i64 src, .int .i64 he] 25 := ((own_at _ _ rfl).alloc _).below hb
  have oC : Own w1 (w.heap.size + 1) [.int .i64 o, .int .i64 d] 27 := (own_at _ _ (by simp)).below hb
  have bel := belowTo (((Below.refl w.heap.size w).alloc (by simp) _).alloc (by simp) _) hb (by simp; omega)
  clear hb 
  obtain ⟨cS0, cS1, cS2, cS3, cS4, cS5, cS6, fS, zS⟩ := own7 oS
  obtain ⟨cC0, cC1, fC, zC⟩ := own2 oC
  go_wp2_with fail
  refine (rtvalid_lit false l h a k src he true _ Hhv.out).mono ?_
  rintro e w2 ⟨rfl, hb⟩
  replace oS := oS.below hb
  replace oC := oC.below hb
  replace bel := belowTo bel hb (by exact bel.size)
  clear hb cS0 cS1 cS2 cS3 cS4 cS5 cS6 fS zS cC0 cC1 fC zC
  obtain ⟨cS0, cS1, cS2, cS3, cS4, cS5, cS6, fS, zS⟩ := own7 oS
  obtain ⟨cC0, cC1, fC, zC⟩ := own2 oC
  go_wp2
  go_ret2
  exact ⟨rfl, bel⟩

set_option linter.unusedVariables false in
set_option maxRecDepth 100000 in
set_option maxHeartbeats 4000000 in
theorem rsend_late (l h a k src he o d asn O B E : Int) (w : World) (hc : vldB o d = true) (hv : vldT true l h a k src he = true) (h1 : 0 ≤ asn) (h2 : asn ≤ 999999999) (ho : ownX k l h asn = O) (hb : bdN true l h a k src he O = B ∧ bdE true l h a k src he O = E) (hE : (E == 0) = false) :
    Calls Try.prog 12 #[.agg #[.bool true, .int .i64 l, .int .i64 h, .int .i64 a, .int .i64 k, .int .i64 src, .int .i64 he], .agg #[.int .i64 o, .int .i64 d], .int .i64 asn] w
      fun e w' => e = .returned (.tuple #[.int .i64 0, .int .i64 E]) ∧ Below w.heap.size w w' := by
  have Hhc := Lib.hid hc
  clear hc
  have Hhv := Lib.hid hv
  clear hv
  have Hho := Lib.hid ho
  clear ho
  have Hhb := Lib.hid hb
  clear hb
  go_enter Try.func12, Try.ntmps12
  go_wp2_with fail
  refine (rvalid_lit o d true _ Hhc.out).mono ?_
  rintro e w1 ⟨rfl, hb⟩
  have oS : Own w1 w.heap.size [.bool true, .int .i64 l, .int .i64 h, .int .i64 a, .int .i64 k, .int .i64 src, .int .i64 he] 25 := ((own_at _ _ rfl).alloc _).below hb
  have oC : Own w1 (w.heap.size + 1) [.int .i64 o, .int .i64 d] 27 := (own_at _ _ (by simp)).below hb
  have bel := belowTo (((Below.refl w.heap.size w).alloc (by simp) _).alloc (by simp) _) hb (by simp; omega)
  clear hb 
  obtain ⟨cS0, cS1, cS2, cS3, cS4, cS5, cS6, fS, zS⟩ := own7 oS
  obtain ⟨cC0, cC1, fC, zC⟩ := own2 oC
  go_wp2_with fail
  refine (rtvalid_lit true l h a k src he true _ Hhv.out).mono ?_
  rintro e w2 ⟨rfl, hb⟩
  replace oS := oS.below hb
  replace oC := oC.below hb
  replace bel := belowTo bel hb (by exact bel.size)
  clear hb cS0 cS1 cS2 cS3 cS4 cS5 cS6 fS zS cC0 cC1 fC zC
  obtain ⟨cS0, cS1, cS2, cS3, cS4, cS5, cS6, fS, zS⟩ := own7 oS
  obtain ⟨cC0, cC1, fC, zC⟩ := own2 oC
  go_wp2_with fail
  refine (rown_lit true l h a k src he asn O _ h1 (by omega) Hho.out).mono ?_
  rintro e w3 ⟨rfl, hb⟩
  replace oS := oS.below hb
  replace oC := oC.below hb
  replace bel := belowTo bel hb (by exact bel.size)
  clear hb cS0 cS1 cS2 cS3 cS4 cS5 cS6 fS zS cC0 cC1 fC zC
  obtain ⟨cS0, cS1, cS2, cS3, cS4, cS5, cS6, fS, zS⟩ := own7 oS
  obtain ⟨cC0, cC1, fC, zC⟩ := own2 oC
  go_wp2_with fail
  refine (rbound_lit true l h a k src he O B E _ Hhb.out).mono ?_
  rintro e w4 ⟨rfl, hb⟩
  replace oS := oS.below hb
  replace oC := oC.below hb
  replace bel := belowTo bel hb (by exact bel.size)
  clear hb cS0 cS1 cS2 cS3 cS4 cS5 cS6 fS zS cC0 cC1 fC zC
  obtain ⟨cS0, cS1, cS2, cS3, cS4, cS5, cS6, fS, zS⟩ := own7 oS
  obtain ⟨cC0, cC1, fC, zC⟩ := own2 oC
  go_wp2
  go_ret2
  exact ⟨rfl, bel⟩

set_option linter.unusedVariables false in
set_option maxRecDepth 100000 in
set_option maxHeartbeats 4000000 in
theorem rsend_far (l h a k src he o d asn O B L : Int) (w : World) (hc : vldB o d = true) (hv : vldT true l h a k src he = true) (h1 : 0 ≤ asn) (h2 : asn ≤ 999999999) (ho : ownX k l h asn = O) (hb : bdN true l h a k src he O = B ∧ bdE true l h a k src he O = 0) (hl : lst o d O = L) (h3 : 10000000000000 < L) :
    Calls Try.prog 12 #[.agg #[.bool true, .int .i64 l, .int .i64 h, .int .i64 a, .int .i64 k, .int .i64 src, .int .i64 he], .agg #[.int .i64 o, .int .i64 d], .int .i64 asn] w
      fun e w' => e = .returned (.tuple #[.int .i64 0, .int .i64 3]) ∧ Below w.heap.size w w' := by
  have Hhc := Lib.hid hc
  clear hc
  have Hhv := Lib.hid hv
  clear hv
  have Hho := Lib.hid ho
  clear ho
  have Hhb := Lib.hid hb
  clear hb
  have Hhl := Lib.hid hl
  clear hl
  go_enter Try.func12, Try.ntmps12
  go_wp2_with fail
  refine (rvalid_lit o d true _ Hhc.out).mono ?_
  rintro e w1 ⟨rfl, hb⟩
  have oS : Own w1 w.heap.size [.bool true, .int .i64 l, .int .i64 h, .int .i64 a, .int .i64 k, .int .i64 src, .int .i64 he] 25 := ((own_at _ _ rfl).alloc _).below hb
  have oC : Own w1 (w.heap.size + 1) [.int .i64 o, .int .i64 d] 27 := (own_at _ _ (by simp)).below hb
  have bel := belowTo (((Below.refl w.heap.size w).alloc (by simp) _).alloc (by simp) _) hb (by simp; omega)
  clear hb 
  obtain ⟨cS0, cS1, cS2, cS3, cS4, cS5, cS6, fS, zS⟩ := own7 oS
  obtain ⟨cC0, cC1, fC, zC⟩ := own2 oC
  go_wp2_with fail
  refine (rtvalid_lit true l h a k src he true _ Hhv.out).mono ?_
  rintro e w2 ⟨rfl, hb⟩
  replace oS := oS.below hb
  replace oC := oC.below hb
  replace bel := belowTo bel hb (by exact bel.size)
  clear hb cS0 cS1 cS2 cS3 cS4 cS5 cS6 fS zS cC0 cC1 fC zC
  obtain ⟨cS0, cS1, cS2, cS3, cS4, cS5, cS6, fS, zS⟩ := own7 oS
  obtain ⟨cC0, cC1, fC, zC⟩ := own2 oC
  go_wp2_with fail
  refine (rown_lit true l h a k src he asn O _ h1 (by omega) Hho.out).mono ?_
  rintro e w3 ⟨rfl, hb⟩
  replace oS := oS.below hb
  replace oC := oC.below hb
  replace bel := belowTo bel hb (by exact bel.size)
  clear hb cS0 cS1 cS2 cS3 cS4 cS5 cS6 fS zS cC0 cC1 fC zC
  obtain ⟨cS0, cS1, cS2, cS3, cS4, cS5, cS6, fS, zS⟩ := own7 oS
  obtain ⟨cC0, cC1, fC, zC⟩ := own2 oC
  go_wp2_with fail
  refine (rbound_lit true l h a k src he O B 0 _ Hhb.out).mono ?_
  rintro e w4 ⟨rfl, hb⟩
  replace oS := oS.below hb
  replace oC := oC.below hb
  replace bel := belowTo bel hb (by exact bel.size)
  clear hb cS0 cS1 cS2 cS3 cS4 cS5 cS6 fS zS cC0 cC1 fC zC
  obtain ⟨cS0, cS1, cS2, cS3, cS4, cS5, cS6, fS, zS⟩ := own7 oS
  obtain ⟨cC0, cC1, fC, zC⟩ := own2 oC
  go_wp2_with fail
  refine (rfirst_lit o d O L _ Hhc.out Hhl.out).mono ?_
  rintro e w5 ⟨rfl, hb⟩
  replace oS := oS.below hb
  replace oC := oC.below hb
  replace bel := belowTo bel hb (by exact bel.size)
  clear hb cS0 cS1 cS2 cS3 cS4 cS5 cS6 fS zS cC0 cC1 fC zC
  obtain ⟨cS0, cS1, cS2, cS3, cS4, cS5, cS6, fS, zS⟩ := own7 oS
  obtain ⟨cC0, cC1, fC, zC⟩ := own2 oC
  go_wp2
  go_ret2
  exact ⟨rfl, bel⟩

set_option linter.unusedVariables false in
set_option maxRecDepth 100000 in
set_option maxHeartbeats 4000000 in
theorem rsend_ok (l h a k src he o d asn O B L : Int) (w : World) (hc : vldB o d = true) (hv : vldT true l h a k src he = true) (h1 : 0 ≤ asn) (h2 : asn ≤ 999999999) (ho : ownX k l h asn = O) (hb : bdN true l h a k src he O = B ∧ bdE true l h a k src he O = 0) (hl : lst o d O = L) (h3 : L ≤ 10000000000000) (h4 : 0 ≤ L) :
    Calls Try.prog 12 #[.agg #[.bool true, .int .i64 l, .int .i64 h, .int .i64 a, .int .i64 k, .int .i64 src, .int .i64 he], .agg #[.int .i64 o, .int .i64 d], .int .i64 asn] w
      fun e w' => e = .returned (.tuple #[.int .i64 (L - 10000 * asn), .int .i64 0]) ∧ Below w.heap.size w w' := by
  have Hhc := Lib.hid hc
  clear hc
  have Hhv := Lib.hid hv
  clear hv
  have Hho := Lib.hid ho
  clear ho
  have Hhb := Lib.hid hb
  clear hb
  have Hhl := Lib.hid hl
  clear hl
  go_enter Try.func12, Try.ntmps12
  go_wp2_with fail
  refine (rvalid_lit o d true _ Hhc.out).mono ?_
  rintro e w1 ⟨rfl, hb⟩
  have oS : Own w1 w.heap.size [.bool true, .int .i64 l, .int .i64 h, .int .i64 a, .int .i64 k, .int .i64 src, .int .i64 he] 25 := ((own_at _ _ rfl).alloc _).below hb
  have oC : Own w1 (w.heap.size + 1) [.int .i64 o, .int .i64 d] 27 := (own_at _ _ (by simp)).below hb
  have bel := belowTo (((Below.refl w.heap.size w).alloc (by simp) _).alloc (by simp) _) hb (by simp; omega)
  clear hb 
  obtain ⟨cS0, cS1, cS2, cS3, cS4, cS5, cS6, fS, zS⟩ := own7 oS
  obtain ⟨cC0, cC1, fC, zC⟩ := own2 oC
  go_wp2_with fail
  refine (rtvalid_lit true l h a k src he true _ Hhv.out).mono ?_
  rintro e w2 ⟨rfl, hb⟩
  replace oS := oS.below hb
  replace oC := oC.below hb
  replace bel := belowTo bel hb (by exact bel.size)
  clear hb cS0 cS1 cS2 cS3 cS4 cS5 cS6 fS zS cC0 cC1 fC zC
  obtain ⟨cS0, cS1, cS2, cS3, cS4, cS5, cS6, fS, zS⟩ := own7 oS
  obtain ⟨cC0, cC1, fC, zC⟩ := own2 oC
  go_wp2_with fail
  refine (rown_lit true l h a k src he asn O _ h1 (by omega) Hho.out).mono ?_
  rintro e w3 ⟨rfl, hb⟩
  replace oS := oS.below hb
  replace oC := oC.below hb
  replace bel := belowTo bel hb (by exact bel.size)
  clear hb cS0 cS1 cS2 cS3 cS4 cS5 cS6 fS zS cC0 cC1 fC zC
  obtain ⟨cS0, cS1, cS2, cS3, cS4, cS5, cS6, fS, zS⟩ := own7 oS
  obtain ⟨cC0, cC1, fC, zC⟩ := own2 oC
  go_wp2_with fail
  refine (rbound_lit true l h a k src he O B 0 _ Hhb.out).mono ?_
  rintro e w4 ⟨rfl, hb⟩
  replace oS := oS.below hb
  replace oC := oC.below hb
  replace bel := belowTo bel hb (by exact bel.size)
  clear hb cS0 cS1 cS2 cS3 cS4 cS5 cS6 fS zS cC0 cC1 fC zC
  obtain ⟨cS0, cS1, cS2, cS3, cS4, cS5, cS6, fS, zS⟩ := own7 oS
  obtain ⟨cC0, cC1, fC, zC⟩ := own2 oC
  go_wp2_with fail
  refine (rfirst_lit o d O L _ Hhc.out Hhl.out).mono ?_
  rintro e w5 ⟨rfl, hb⟩
  replace oS := oS.below hb
  replace oC := oC.below hb
  replace bel := belowTo bel hb (by exact bel.size)
  clear hb cS0 cS1 cS2 cS3 cS4 cS5 cS6 fS zS cC0 cC1 fC zC
  obtain ⟨cS0, cS1, cS2, cS3, cS4, cS5, cS6, fS, zS⟩ := own7 oS
  obtain ⟨cC0, cC1, fC, zC⟩ := own2 oC
  go_wp2
  go_ret2
  exact ⟨rfl, bel⟩

theorem rsend_lit (sy : Bool) (l h a k src he o d asn N E : Int) (w : World) (hN : gsN sy l h a k src he o d asn = N ∧ gsE sy l h a k src he o d asn = E) :
    Calls Try.prog 12 #[.agg #[.bool sy, .int .i64 l, .int .i64 h, .int .i64 a, .int .i64 k, .int .i64 src, .int .i64 he], .agg #[.int .i64 o, .int .i64 d], .int .i64 asn] w
      fun e w' => e = .returned (.tuple #[.int .i64 N, .int .i64 E]) ∧ Below w.heap.size w w' := by
  obtain ⟨rfl, rfl⟩ := hN
  cases hc : vldB o d with
  | false =>
    have e : gsE sy l h a k src he o d asn = 1 := by simp [gsE, gsV, hc]
    rw [show gsN sy l h a k src he o d asn = 0 from by simp [gsN, e], e]
    cases hv : vldT sy l h a k src he with
    | false => exact rsend_clock_false sy l h a k src he o d asn w hc hv
    | true => exact rsend_clock_true sy l h a k src he o d asn w hc hv
  | true =>
    cases hv : vldT sy l h a k src he with
    | false =>
      have e : gsE sy l h a k src he o d asn = 1 := by simp [gsE, gsV, hv]
      rw [show gsN sy l h a k src he o d asn = 0 from by simp [gsN, e], e]
      exact rsend_state sy l h a k src he o d asn w hc hv
    | true =>
      by_cases h1 : 0 ≤ asn
      · by_cases h2 : asn < 1000000000
        · have hV : gsV sy l h a k src he o d asn = true := by simp [gsV, hc, hv, h1, h2]
          cases sy with
          | false =>
            have e : gsE false l h a k src he o d asn = 16 := by simp [gsE, hV]
            rw [show gsN false l h a k src he o d asn = 0 from by simp [gsN, e], e]
            exact rsend_off l h a k src he o d asn w hc hv h1 (by omega)
          | true =>
            have hx := ownX_vld hv rfl h1 h2
            by_cases hb : bdE true l h a k src he (ownT k l h asn) = 0
            · by_cases hl : lst o d (ownT k l h asn) ≤ 10000000000000
              · have e := gs_mk hc h1 h2 hv rfl hb hl
                rw [show gsN true l h a k src he o d asn = lst o d (ownT k l h asn) - 10000 * asn from by simp [gsN, e]; omega, e]
                exact rsend_ok l h a k src he o d asn _ _ _ w hc hv h1 (by omega) hx ⟨rfl, hb⟩ rfl hl (lst_bd _ _ _).1
              · have e : gsE true l h a k src he o d asn = 3 := by simp [gsE, hV, hb, hl]
                rw [show gsN true l h a k src he o d asn = 0 from by simp [gsN, e], e]
                exact rsend_far l h a k src he o d asn _ _ _ w hc hv h1 (by omega) hx ⟨rfl, hb⟩ rfl (by omega)
            · have e : gsE true l h a k src he o d asn = bdE true l h a k src he (ownT k l h asn) := by simp [gsE, hV, hb]
              rw [show gsN true l h a k src he o d asn = 0 from by simp [gsN, e, hb], e]
              exact rsend_late l h a k src he o d asn _ _ _ w hc hv h1 (by omega) hx ⟨rfl, rfl⟩ (by simpa using hb)
        · have e : gsE sy l h a k src he o d asn = 1 := by simp [gsE, gsV, h2]
          rw [show gsN sy l h a k src he o d asn = 0 from by simp [gsN, e], e]
          exact rsend_big sy l h a k src he o d asn w hc hv h1 (by omega)
      · have e : gsE sy l h a k src he o d asn = 1 := by simp [gsE, gsV, h1]
        rw [show gsN sy l h a k src he o d asn = 0 from by simp [gsN, e], e]
        exact rsend_neg sy l h a k src he o d asn w hc hv (by omega)

set_option linter.unusedVariables false in
set_option maxRecDepth 100000 in
set_option maxHeartbeats 4000000 in
theorem rlisten_no (sy : Bool) (l h a k src he o d asn E : Int) (w : World) (hs : gsN sy l h a k src he o d asn = 0 ∧ gsE sy l h a k src he o d asn = E) (hE : (E == 0) = false) :
    Calls Try.prog 14 #[.agg #[.bool sy, .int .i64 l, .int .i64 h, .int .i64 a, .int .i64 k, .int .i64 src, .int .i64 he], .agg #[.int .i64 o, .int .i64 d], .int .i64 asn] w
      fun e w' => e = .returned (.tuple #[.agg #[.int .i64 0, .int .i64 0], .int .i64 E]) ∧ Below w.heap.size w w' := by
  have Hhs := Lib.hid hs
  clear hs
  go_enter Try.func14, Try.ntmps14
  go_wp2_with fail
  refine (rsend_lit sy l h a k src he o d asn 0 E _ Hhs.out).mono ?_
  rintro e w1 ⟨rfl, hb⟩
  have oS : Own w1 w.heap.size [.bool sy, .int .i64 l, .int .i64 h, .int .i64 a, .int .i64 k, .int .i64 src, .int .i64 he] 25 := (((own_at _ _ rfl).alloc _).alloc _).below hb
  have oC : Own w1 (w.heap.size + 1) [.int .i64 o, .int .i64 d] 27 := ((own_at _ _ (by simp)).alloc _).below hb
  have oR : Own w1 (w.heap.size + 2) [.int .i64 0, .int .i64 0] 29 := (own_at _ _ (by simp)).below hb
  have bel := belowTo ((((Below.refl w.heap.size w).alloc (by simp) _).alloc (by simp) _).alloc (by simp; omega) _) hb (by simp; omega)
  clear hb 
  obtain ⟨cS0, cS1, cS2, cS3, cS4, cS5, cS6, fS, zS⟩ := own7 oS
  obtain ⟨cC0, cC1, fC, zC⟩ := own2 oC
  obtain ⟨cR0, cR1, fR, zR⟩ := own2 oR
  go_wp2
  refine bodyPost_ret (v := .tuple #[.agg #[.int .i64 0, .int .i64 0], .int .i64 E]) (by simp [results, Try.results14, go_sem, *]) rfl ⟨rfl, ?_⟩
  repeat (first | (with_reducible exact bel) | (with_reducible refine belowSet ?_ _ _ _ ?_) | (with_reducible refine Below.drew ?_) | (with_reducible refine belowN ?_) | (with_reducible refine Below.alloc ?_ ?_ _))
  all_goals (first | omega | (simp; omega) | (simp; done) | (have := bel.size; simp; omega))

set_option linter.unusedVariables false in
set_option maxRecDepth 100000 in
set_option maxHeartbeats 4000000 in
theorem rlisten_ok (sy : Bool) (l h a k src he o d asn N O B : Int) (w : World) (hs : gsN sy l h a k src he o d asn = N ∧ gsE sy l h a k src he o d asn = 0) (h1 : 0 ≤ asn) (h2 : asn < 1000000000) (ho : ownX k l h asn = O) (hb : bdN sy l h a k src he O = B ∧ bdE sy l h a k src he O = 0) (b1 : -40000000000000 ≤ N) (b2 : N ≤ 40000000000000) (b3 : 0 ≤ B) (b4 : B ≤ 2000) :
    Calls Try.prog 14 #[.agg #[.bool sy, .int .i64 l, .int .i64 h, .int .i64 a, .int .i64 k, .int .i64 src, .int .i64 he], .agg #[.int .i64 o, .int .i64 d], .int .i64 asn] w
      fun e w' => e = .returned (.tuple #[.agg #[.int .i64 (N - 2004 - B), .int .i64 (N + 2004 + B)], .int .i64 0]) ∧ Below w.heap.size w w' := by
  have Hhs := Lib.hid hs
  clear hs
  have Hho := Lib.hid ho
  clear ho
  have Hhb := Lib.hid hb
  clear hb
  go_enter Try.func14, Try.ntmps14
  go_wp2_with fail
  refine (rsend_lit sy l h a k src he o d asn N 0 _ Hhs.out).mono ?_
  rintro e w1 ⟨rfl, hb⟩
  have oS : Own w1 w.heap.size [.bool sy, .int .i64 l, .int .i64 h, .int .i64 a, .int .i64 k, .int .i64 src, .int .i64 he] 25 := (((own_at _ _ rfl).alloc _).alloc _).below hb
  have oC : Own w1 (w.heap.size + 1) [.int .i64 o, .int .i64 d] 27 := ((own_at _ _ (by simp)).alloc _).below hb
  have oR : Own w1 (w.heap.size + 2) [.int .i64 0, .int .i64 0] 29 := (own_at _ _ (by simp)).below hb
  have bel := belowTo ((((Below.refl w.heap.size w).alloc (by simp) _).alloc (by simp) _).alloc (by simp; omega) _) hb (by simp; omega)
  clear hb 
  obtain ⟨cS0, cS1, cS2, cS3, cS4, cS5, cS6, fS, zS⟩ := own7 oS
  obtain ⟨cC0, cC1, fC, zC⟩ := own2 oC
  obtain ⟨cR0, cR1, fR, zR⟩ := own2 oR
  go_wp2_with fail
  have pS0 := fun x : Past w1 => (oS.past x).cell (i := 0) rfl
  have pS1 := fun x : Past w1 => (oS.past x).cell (i := 1) rfl
  have pS2 := fun x : Past w1 => (oS.past x).cell (i := 2) rfl
  have pS3 := fun x : Past w1 => (oS.past x).cell (i := 3) rfl
  have pS4 := fun x : Past w1 => (oS.past x).cell (i := 4) rfl
  have pS5 := fun x : Past w1 => (oS.past x).cell (i := 5) rfl
  have pS6 := fun x : Past w1 => (oS.past x).cell (i := 6) rfl
  refine wp_region_past (by kernel_rfl) (by kernel_rfl) ?_
  repeat (go_big_quiet_step ((first | (go_at_call 19; exact calls_past (rown_lit sy l h a k src he asn O _ h1 h2 Hho.out)) | (go_at_call 28; exact calls_past (rbound_lit sy l h a k src he O B 0 _ Hhb.out)))))
  refine wpQuiet_nil ?_
  rintro _ ⟨x, rfl⟩
  have bel2 : Below w.heap.size w (past w1 x) := bel.trans (x.h.mono bel.size)
  have oR2 := oR.past x
  clear cR0 cR1 fR zR
  obtain ⟨cR0, cR1, fR, zR⟩ := own2 oR2
  go_wp2
  refine bodyPost_ret (v := .tuple #[.agg #[.int .i64 (N - 2004 - B), .int .i64 (N + 2004 + B)], .int .i64 0]) (by simp [results, Try.results14, go_sem, *]) rfl ⟨rfl, ?_⟩
  repeat (first | (with_reducible exact bel2) | (with_reducible refine belowSet ?_ _ _ _ ?_) | (with_reducible refine Below.drew ?_) | (with_reducible refine belowN ?_) | (with_reducible refine Below.alloc ?_ ?_ _))
  all_goals (first | omega | (simp; omega) | (simp; done) | (have := bel2.size; simp; omega))

theorem rlisten_lit (sy : Bool) (l h a k src he o d asn L H E : Int) (w : World) (hN : lsL sy l h a k src he o d asn = L ∧ lsH sy l h a k src he o d asn = H ∧ gsE sy l h a k src he o d asn = E) :
    Calls Try.prog 14 #[.agg #[.bool sy, .int .i64 l, .int .i64 h, .int .i64 a, .int .i64 k, .int .i64 src, .int .i64 he], .agg #[.int .i64 o, .int .i64 d], .int .i64 asn] w
      fun e w' => e = .returned (.tuple #[.agg #[.int .i64 L, .int .i64 H], .int .i64 E]) ∧ Below w.heap.size w w' := by
  obtain ⟨rfl, rfl, rfl⟩ := hN
  by_cases q : gsE sy l h a k src he o d asn = 0
  · obtain ⟨b1, b2, b3, b4⟩ := gs_bd q
    obtain ⟨g1, ⟨g2, g3⟩, g4, g5, g6, g7⟩ := gs_zero q
    have eB : gsB sy l h a k src he o d asn = bdN sy l h a k src he (ownT k l h asn) := by simp [gsB, q]
    rw [show lsL sy l h a k src he o d asn = gsN sy l h a k src he o d asn - 2004 - gsB sy l h a k src he o d asn from by rw [lsL, if_pos q]; omega, show lsH sy l h a k src he o d asn = gsN sy l h a k src he o d asn + 2004 + gsB sy l h a k src he o d asn from by rw [lsH, if_pos q]; omega, q]
    exact rlisten_ok sy l h a k src he o d asn _ _ _ w ⟨rfl, q⟩ g2 g3 (ownX_vld g4 g5 g2 g3) ⟨eB.symm, g6⟩ b1 b2 b3 b4
  · rw [show lsL sy l h a k src he o d asn = 0 from by rw [lsL, if_neg q], show lsH sy l h a k src he o d asn = 0 from by rw [lsH, if_neg q]]
    exact rlisten_no sy l h a k src he o d asn _ w ⟨by simp [gsN, q], rfl⟩ (by simpa using q)

set_option maxHeartbeats 1000000 in
theorem rcatches_lit (n l h : Int) (r : Bool) (w : World) (k : catB n l h = r) :
    Calls Try.prog 16 #[.int .i64 n, .agg #[.int .i64 l, .int .i64 h]] w fun e w' => e = .returned (.bool r) ∧ Below w.heap.size w w' := by
  subst k
  go_enter Try.func16, Try.ntmps16
  go_wp2
  all_goals (go_ret; refine ⟨ret_bool ?_, belowNew _ _⟩; refine Bool.eq_iff_iff.2 ?_; simp only [catB, decide_eq_true_eq, Bool.false_eq_true]; first | omega | (rw [false_iff]; omega))

end Go.Proofs.Ytcbadbcdjejjcaa

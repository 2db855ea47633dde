/- What a node tells in its beacon (w17Tells). -/
import Derived.Test.YthnilgmafbkdkaaTime17
import Derived.Test.YthnilgmafbkdkaaClockLit
import Derived.Test.YthnilgmafbkdkaaTime3
import Derived.IntWalk
namespace Go.Proofs.Ythnilgmafbkdkaa
open Go.RowKit

/-- The bound that is told, and whether it can be. -/
def telB (root : Bool) (B : Int) : Int := if root = true then B else B + 4
def telOk (E1 E2 E3 B k : Int) : Bool := (E1 == 0) && (E2 == 0) && (E3 == 0) && decide (B ≤ 2000) && decide (k < 60)

set_option linter.unusedVariables false in
set_option maxRecDepth 100000 in
set_option maxHeartbeats 2000000 in
theorem tells_ta (sy : Bool) (l h a k src he o d asn N E1 LO E2 B E3 : Int) (w : World) (h1 : 0 ≤ asn) (h2 : asn ≤ 1000000000) (hs : gsN sy l h a k src he o d asn = N ∧ gsE sy l h a k src he o d asn = E1) (hc : shN o d (asn * 10000) = LO ∧ shE o d (asn * 10000) = E2) (hb : bdN sy l h a k src he LO = B ∧ bdE sy l h a k src he LO = E3) (b1 : 0 ≤ B) (b2 : B ≤ 2000) (e1 : (E1 == 0) = false) :
    Calls Try.prog 11 #[.agg #[.bool sy, .int .i64 l, .int .i64 h, .int .i64 a, .int .i64 k, .int .i64 src, .int .i64 he], .agg #[.int .i64 o, .int .i64 d], .bool true, .int .i64 asn] w fun e w' => e = .returned (.tuple #[.int .i64 N, .int .i64 (B), .bool false]) ∧ Below w.heap.size w w' := by
  have Hs := Lib.hid hs
  have Hc := Lib.hid hc
  have Hb := Lib.hid hb
  have wr1 : IntKind.i64.wrap (asn * 10000) = asn * 10000 := IntWalk.i64_in _ (by omega)
  clear hs hc hb
  go_enter Try.func11, Try.ntmps11
  go_wp2_with fail
  refine (send_lit sy l h a k src he o d asn N E1 _ Hs.out).mono ?_
  rintro e w1 ⟨rfl, hb⟩
  have oS : Own w1 w.heap.size [.bool sy, .int .i64 l, .int .i64 h, .int .i64 a, .int .i64 k, .int .i64 src, .int .i64 he] 25 := ((own_at _ _ rfl).alloc _).below hb
  have oC : Own w1 (w.heap.size + 1) [.int .i64 o, .int .i64 d] 27 := (own_at _ _ (by simp)).below hb
  have bel := belowTo (((Below.refl w.heap.size w).alloc (by simp) _).alloc (by simp) _) hb (by simp; omega)
  clear hb
  obtain ⟨cS0, cS1, cS2, cS3, cS4, cS5, cS6, fS, zS⟩ := own7 oS
  obtain ⟨cC0, cC1, fC, zC⟩ := own2 oC
  go_wp2_with fail
  refine (show_lit o d (asn * 10000) LO E2 _ Hc.out).mono ?_
  rintro e w2 ⟨rfl, hb⟩
  replace oS := oS.below hb
  replace oC := oC.below hb
  replace bel := belowTo bel hb (by exact bel.size)
  clear hb
  clear cS0 cS1 cS2 cS3 cS4 cS5 cS6 fS zS cC0 cC1 fC zC
  obtain ⟨cS0, cS1, cS2, cS3, cS4, cS5, cS6, fS, zS⟩ := own7 oS
  obtain ⟨cC0, cC1, fC, zC⟩ := own2 oC
  go_wp2_with fail
  refine (tbound_lit sy l h a k src he LO B E3 _ Hb.out).mono ?_
  rintro e w3 ⟨rfl, hb⟩
  replace oS := oS.below hb
  replace oC := oC.below hb
  replace bel := belowTo bel hb (by exact bel.size)
  clear hb
  clear cS0 cS1 cS2 cS3 cS4 cS5 cS6 fS zS cC0 cC1 fC zC
  obtain ⟨cS0, cS1, cS2, cS3, cS4, cS5, cS6, fS, zS⟩ := own7 oS
  obtain ⟨cC0, cC1, fC, zC⟩ := own2 oC
  go_wp2_with fail
  go_quiet (fail)
  go_wp2_with fail
  go_ret3
  exact ⟨rfl, belowN bel⟩

set_option linter.unusedVariables false in
set_option maxRecDepth 100000 in
set_option maxHeartbeats 2000000 in
theorem tells_tb (sy : Bool) (l h a k src he o d asn N E1 LO E2 B E3 : Int) (w : World) (h1 : 0 ≤ asn) (h2 : asn ≤ 1000000000) (hs : gsN sy l h a k src he o d asn = N ∧ gsE sy l h a k src he o d asn = E1) (hc : shN o d (asn * 10000) = LO ∧ shE o d (asn * 10000) = E2) (hb : bdN sy l h a k src he LO = B ∧ bdE sy l h a k src he LO = E3) (b1 : 0 ≤ B) (b2 : B ≤ 2000) (e1 : (E1 == 0) = true) (e2 : (E2 == 0) = false) :
    Calls Try.prog 11 #[.agg #[.bool sy, .int .i64 l, .int .i64 h, .int .i64 a, .int .i64 k, .int .i64 src, .int .i64 he], .agg #[.int .i64 o, .int .i64 d], .bool true, .int .i64 asn] w fun e w' => e = .returned (.tuple #[.int .i64 N, .int .i64 (B), .bool false]) ∧ Below w.heap.size w w' := by
  have Hs := Lib.hid hs
  have Hc := Lib.hid hc
  have Hb := Lib.hid hb
  have wr1 : IntKind.i64.wrap (asn * 10000) = asn * 10000 := IntWalk.i64_in _ (by omega)
  clear hs hc hb
  go_enter Try.func11, Try.ntmps11
  go_wp2_with fail
  refine (send_lit sy l h a k src he o d asn N E1 _ Hs.out).mono ?_
  rintro e w1 ⟨rfl, hb⟩
  have oS : Own w1 w.heap.size [.bool sy, .int .i64 l, .int .i64 h, .int .i64 a, .int .i64 k, .int .i64 src, .int .i64 he] 25 := ((own_at _ _ rfl).alloc _).below hb
  have oC : Own w1 (w.heap.size + 1) [.int .i64 o, .int .i64 d] 27 := (own_at _ _ (by simp)).below hb
  have bel := belowTo (((Below.refl w.heap.size w).alloc (by simp) _).alloc (by simp) _) hb (by simp; omega)
  clear hb
  obtain ⟨cS0, cS1, cS2, cS3, cS4, cS5, cS6, fS, zS⟩ := own7 oS
  obtain ⟨cC0, cC1, fC, zC⟩ := own2 oC
  go_wp2_with fail
  refine (show_lit o d (asn * 10000) LO E2 _ Hc.out).mono ?_
  rintro e w2 ⟨rfl, hb⟩
  replace oS := oS.below hb
  replace oC := oC.below hb
  replace bel := belowTo bel hb (by exact bel.size)
  clear hb
  clear cS0 cS1 cS2 cS3 cS4 cS5 cS6 fS zS cC0 cC1 fC zC
  obtain ⟨cS0, cS1, cS2, cS3, cS4, cS5, cS6, fS, zS⟩ := own7 oS
  obtain ⟨cC0, cC1, fC, zC⟩ := own2 oC
  go_wp2_with fail
  refine (tbound_lit sy l h a k src he LO B E3 _ Hb.out).mono ?_
  rintro e w3 ⟨rfl, hb⟩
  replace oS := oS.below hb
  replace oC := oC.below hb
  replace bel := belowTo bel hb (by exact bel.size)
  clear hb
  clear cS0 cS1 cS2 cS3 cS4 cS5 cS6 fS zS cC0 cC1 fC zC
  obtain ⟨cS0, cS1, cS2, cS3, cS4, cS5, cS6, fS, zS⟩ := own7 oS
  obtain ⟨cC0, cC1, fC, zC⟩ := own2 oC
  go_wp2_with fail
  go_quiet (fail)
  go_wp2_with fail
  go_ret3
  exact ⟨rfl, belowN bel⟩

set_option linter.unusedVariables false in
set_option maxRecDepth 100000 in
set_option maxHeartbeats 2000000 in
theorem tells_tc (sy : Bool) (l h a k src he o d asn N E1 LO E2 B E3 : Int) (w : World) (h1 : 0 ≤ asn) (h2 : asn ≤ 1000000000) (hs : gsN sy l h a k src he o d asn = N ∧ gsE sy l h a k src he o d asn = E1) (hc : shN o d (asn * 10000) = LO ∧ shE o d (asn * 10000) = E2) (hb : bdN sy l h a k src he LO = B ∧ bdE sy l h a k src he LO = E3) (b1 : 0 ≤ B) (b2 : B ≤ 2000) (e1 : (E1 == 0) = true) (e2 : (E2 == 0) = true) (e3 : (E3 == 0) = false) :
    Calls Try.prog 11 #[.agg #[.bool sy, .int .i64 l, .int .i64 h, .int .i64 a, .int .i64 k, .int .i64 src, .int .i64 he], .agg #[.int .i64 o, .int .i64 d], .bool true, .int .i64 asn] w fun e w' => e = .returned (.tuple #[.int .i64 N, .int .i64 (B), .bool false]) ∧ Below w.heap.size w w' := by
  have Hs := Lib.hid hs
  have Hc := Lib.hid hc
  have Hb := Lib.hid hb
  have wr1 : IntKind.i64.wrap (asn * 10000) = asn * 10000 := IntWalk.i64_in _ (by omega)
  clear hs hc hb
  go_enter Try.func11, Try.ntmps11
  go_wp2_with fail
  refine (send_lit sy l h a k src he o d asn N E1 _ Hs.out).mono ?_
  rintro e w1 ⟨rfl, hb⟩
  have oS : Own w1 w.heap.size [.bool sy, .int .i64 l, .int .i64 h, .int .i64 a, .int .i64 k, .int .i64 src, .int .i64 he] 25 := ((own_at _ _ rfl).alloc _).below hb
  have oC : Own w1 (w.heap.size + 1) [.int .i64 o, .int .i64 d] 27 := (own_at _ _ (by simp)).below hb
  have bel := belowTo (((Below.refl w.heap.size w).alloc (by simp) _).alloc (by simp) _) hb (by simp; omega)
  clear hb
  obtain ⟨cS0, cS1, cS2, cS3, cS4, cS5, cS6, fS, zS⟩ := own7 oS
  obtain ⟨cC0, cC1, fC, zC⟩ := own2 oC
  go_wp2_with fail
  refine (show_lit o d (asn * 10000) LO E2 _ Hc.out).mono ?_
  rintro e w2 ⟨rfl, hb⟩
  replace oS := oS.below hb
  replace oC := oC.below hb
  replace bel := belowTo bel hb (by exact bel.size)
  clear hb
  clear cS0 cS1 cS2 cS3 cS4 cS5 cS6 fS zS cC0 cC1 fC zC
  obtain ⟨cS0, cS1, cS2, cS3, cS4, cS5, cS6, fS, zS⟩ := own7 oS
  obtain ⟨cC0, cC1, fC, zC⟩ := own2 oC
  go_wp2_with fail
  refine (tbound_lit sy l h a k src he LO B E3 _ Hb.out).mono ?_
  rintro e w3 ⟨rfl, hb⟩
  replace oS := oS.below hb
  replace oC := oC.below hb
  replace bel := belowTo bel hb (by exact bel.size)
  clear hb
  clear cS0 cS1 cS2 cS3 cS4 cS5 cS6 fS zS cC0 cC1 fC zC
  obtain ⟨cS0, cS1, cS2, cS3, cS4, cS5, cS6, fS, zS⟩ := own7 oS
  obtain ⟨cC0, cC1, fC, zC⟩ := own2 oC
  go_wp2_with fail
  go_quiet (fail)
  go_wp2_with fail
  go_ret3
  exact ⟨rfl, belowN bel⟩

set_option linter.unusedVariables false in
set_option maxRecDepth 100000 in
set_option maxHeartbeats 2000000 in
theorem tells_te (sy : Bool) (l h a k src he o d asn N E1 LO E2 B E3 : Int) (w : World) (h1 : 0 ≤ asn) (h2 : asn ≤ 1000000000) (hs : gsN sy l h a k src he o d asn = N ∧ gsE sy l h a k src he o d asn = E1) (hc : shN o d (asn * 10000) = LO ∧ shE o d (asn * 10000) = E2) (hb : bdN sy l h a k src he LO = B ∧ bdE sy l h a k src he LO = E3) (b1 : 0 ≤ B) (b2 : B ≤ 2000) (e1 : (E1 == 0) = true) (e2 : (E2 == 0) = true) (e3 : (E3 == 0) = true) (e6 : 60 ≤ k) :
    Calls Try.prog 11 #[.agg #[.bool sy, .int .i64 l, .int .i64 h, .int .i64 a, .int .i64 k, .int .i64 src, .int .i64 he], .agg #[.int .i64 o, .int .i64 d], .bool true, .int .i64 asn] w fun e w' => e = .returned (.tuple #[.int .i64 N, .int .i64 (B), .bool false]) ∧ Below w.heap.size w w' := by
  have Hs := Lib.hid hs
  have Hc := Lib.hid hc
  have Hb := Lib.hid hb
  have wr1 : IntKind.i64.wrap (asn * 10000) = asn * 10000 := IntWalk.i64_in _ (by omega)
  clear hs hc hb
  have e5 : decide (B ≤ 2000) = true := decide_eq_true (by omega)
  have e7 : decide (k < 60) = false := decide_eq_false (by omega)
  go_enter Try.func11, Try.ntmps11
  go_wp2_with fail
  refine (send_lit sy l h a k src he o d asn N E1 _ Hs.out).mono ?_
  rintro e w1 ⟨rfl, hb⟩
  have oS : Own w1 w.heap.size [.bool sy, .int .i64 l, .int .i64 h, .int .i64 a, .int .i64 k, .int .i64 src, .int .i64 he] 25 := ((own_at _ _ rfl).alloc _).below hb
  have oC : Own w1 (w.heap.size + 1) [.int .i64 o, .int .i64 d] 27 := (own_at _ _ (by simp)).below hb
  have bel := belowTo (((Below.refl w.heap.size w).alloc (by simp) _).alloc (by simp) _) hb (by simp; omega)
  clear hb
  obtain ⟨cS0, cS1, cS2, cS3, cS4, cS5, cS6, fS, zS⟩ := own7 oS
  obtain ⟨cC0, cC1, fC, zC⟩ := own2 oC
  go_wp2_with fail
  refine (show_lit o d (asn * 10000) LO E2 _ Hc.out).mono ?_
  rintro e w2 ⟨rfl, hb⟩
  replace oS := oS.below hb
  replace oC := oC.below hb
  replace bel := belowTo bel hb (by exact bel.size)
  clear hb
  clear cS0 cS1 cS2 cS3 cS4 cS5 cS6 fS zS cC0 cC1 fC zC
  obtain ⟨cS0, cS1, cS2, cS3, cS4, cS5, cS6, fS, zS⟩ := own7 oS
  obtain ⟨cC0, cC1, fC, zC⟩ := own2 oC
  go_wp2_with fail
  refine (tbound_lit sy l h a k src he LO B E3 _ Hb.out).mono ?_
  rintro e w3 ⟨rfl, hb⟩
  replace oS := oS.below hb
  replace oC := oC.below hb
  replace bel := belowTo bel hb (by exact bel.size)
  clear hb
  clear cS0 cS1 cS2 cS3 cS4 cS5 cS6 fS zS cC0 cC1 fC zC
  obtain ⟨cS0, cS1, cS2, cS3, cS4, cS5, cS6, fS, zS⟩ := own7 oS
  obtain ⟨cC0, cC1, fC, zC⟩ := own2 oC
  go_wp2_with fail
  go_quiet (fail)
  go_wp2_with fail
  go_ret3
  exact ⟨rfl, belowN bel⟩

set_option linter.unusedVariables false in
set_option maxRecDepth 100000 in
set_option maxHeartbeats 2000000 in
theorem tells_tf (sy : Bool) (l h a k src he o d asn N E1 LO E2 B E3 : Int) (w : World) (h1 : 0 ≤ asn) (h2 : asn ≤ 1000000000) (hs : gsN sy l h a k src he o d asn = N ∧ gsE sy l h a k src he o d asn = E1) (hc : shN o d (asn * 10000) = LO ∧ shE o d (asn * 10000) = E2) (hb : bdN sy l h a k src he LO = B ∧ bdE sy l h a k src he LO = E3) (b1 : 0 ≤ B) (b2 : B ≤ 2000) (e1 : (E1 == 0) = true) (e2 : (E2 == 0) = true) (e3 : (E3 == 0) = true) (e6 : k < 60) :
    Calls Try.prog 11 #[.agg #[.bool sy, .int .i64 l, .int .i64 h, .int .i64 a, .int .i64 k, .int .i64 src, .int .i64 he], .agg #[.int .i64 o, .int .i64 d], .bool true, .int .i64 asn] w fun e w' => e = .returned (.tuple #[.int .i64 N, .int .i64 (B), .bool true]) ∧ Below w.heap.size w w' := by
  have Hs := Lib.hid hs
  have Hc := Lib.hid hc
  have Hb := Lib.hid hb
  have wr1 : IntKind.i64.wrap (asn * 10000) = asn * 10000 := IntWalk.i64_in _ (by omega)
  clear hs hc hb
  have e5 : decide (B ≤ 2000) = true := decide_eq_true (by omega)
  have e7 : decide (k < 60) = true := decide_eq_true (by omega)
  go_enter Try.func11, Try.ntmps11
  go_wp2_with fail
  refine (send_lit sy l h a k src he o d asn N E1 _ Hs.out).mono ?_
  rintro e w1 ⟨rfl, hb⟩
  have oS : Own w1 w.heap.size [.bool sy, .int .i64 l, .int .i64 h, .int .i64 a, .int .i64 k, .int .i64 src, .int .i64 he] 25 := ((own_at _ _ rfl).alloc _).below hb
  have oC : Own w1 (w.heap.size + 1) [.int .i64 o, .int .i64 d] 27 := (own_at _ _ (by simp)).below hb
  have bel := belowTo (((Below.refl w.heap.size w).alloc (by simp) _).alloc (by simp) _) hb (by simp; omega)
  clear hb
  obtain ⟨cS0, cS1, cS2, cS3, cS4, cS5, cS6, fS, zS⟩ := own7 oS
  obtain ⟨cC0, cC1, fC, zC⟩ := own2 oC
  go_wp2_with fail
  refine (show_lit o d (asn * 10000) LO E2 _ Hc.out).mono ?_
  rintro e w2 ⟨rfl, hb⟩
  replace oS := oS.below hb
  replace oC := oC.below hb
  replace bel := belowTo bel hb (by exact bel.size)
  clear hb
  clear cS0 cS1 cS2 cS3 cS4 cS5 cS6 fS zS cC0 cC1 fC zC
  obtain ⟨cS0, cS1, cS2, cS3, cS4, cS5, cS6, fS, zS⟩ := own7 oS
  obtain ⟨cC0, cC1, fC, zC⟩ := own2 oC
  go_wp2_with fail
  refine (tbound_lit sy l h a k src he LO B E3 _ Hb.out).mono ?_
  rintro e w3 ⟨rfl, hb⟩
  replace oS := oS.below hb
  replace oC := oC.below hb
  replace bel := belowTo bel hb (by exact bel.size)
  clear hb
  clear cS0 cS1 cS2 cS3 cS4 cS5 cS6 fS zS cC0 cC1 fC zC
  obtain ⟨cS0, cS1, cS2, cS3, cS4, cS5, cS6, fS, zS⟩ := own7 oS
  obtain ⟨cC0, cC1, fC, zC⟩ := own2 oC
  go_wp2_with fail
  go_quiet (fail)
  go_wp2_with fail
  go_ret3
  exact ⟨rfl, belowN bel⟩

set_option linter.unusedVariables false in
set_option maxRecDepth 100000 in
set_option maxHeartbeats 2000000 in
theorem tells_fa (sy : Bool) (l h a k src he o d asn N E1 LO E2 B E3 : Int) (w : World) (h1 : 0 ≤ asn) (h2 : asn ≤ 1000000000) (hs : gsN sy l h a k src he o d asn = N ∧ gsE sy l h a k src he o d asn = E1) (hc : shN o d (asn * 10000) = LO ∧ shE o d (asn * 10000) = E2) (hb : bdN sy l h a k src he LO = B ∧ bdE sy l h a k src he LO = E3) (b1 : 0 ≤ B) (b2 : B ≤ 2000) (e1 : (E1 == 0) = false) :
    Calls Try.prog 11 #[.agg #[.bool sy, .int .i64 l, .int .i64 h, .int .i64 a, .int .i64 k, .int .i64 src, .int .i64 he], .agg #[.int .i64 o, .int .i64 d], .bool false, .int .i64 asn] w fun e w' => e = .returned (.tuple #[.int .i64 N, .int .i64 (B + 4), .bool false]) ∧ Below w.heap.size w w' := by
  have Hs := Lib.hid hs
  have Hc := Lib.hid hc
  have Hb := Lib.hid hb
  have wr1 : IntKind.i64.wrap (asn * 10000) = asn * 10000 := IntWalk.i64_in _ (by omega)
  clear hs hc hb
  go_enter Try.func11, Try.ntmps11
  go_wp2_with fail
  refine (send_lit sy l h a k src he o d asn N E1 _ Hs.out).mono ?_
  rintro e w1 ⟨rfl, hb⟩
  have oS : Own w1 w.heap.size [.bool sy, .int .i64 l, .int .i64 h, .int .i64 a, .int .i64 k, .int .i64 src, .int .i64 he] 25 := ((own_at _ _ rfl).alloc _).below hb
  have oC : Own w1 (w.heap.size + 1) [.int .i64 o, .int .i64 d] 27 := (own_at _ _ (by simp)).below hb
  have bel := belowTo (((Below.refl w.heap.size w).alloc (by simp) _).alloc (by simp) _) hb (by simp; omega)
  clear hb
  obtain ⟨cS0, cS1, cS2, cS3, cS4, cS5, cS6, fS, zS⟩ := own7 oS
  obtain ⟨cC0, cC1, fC, zC⟩ := own2 oC
  go_wp2_with fail
  refine (show_lit o d (asn * 10000) LO E2 _ Hc.out).mono ?_
  rintro e w2 ⟨rfl, hb⟩
  replace oS := oS.below hb
  replace oC := oC.below hb
  replace bel := belowTo bel hb (by exact bel.size)
  clear hb
  clear cS0 cS1 cS2 cS3 cS4 cS5 cS6 fS zS cC0 cC1 fC zC
  obtain ⟨cS0, cS1, cS2, cS3, cS4, cS5, cS6, fS, zS⟩ := own7 oS
  obtain ⟨cC0, cC1, fC, zC⟩ := own2 oC
  go_wp2_with fail
  refine (tbound_lit sy l h a k src he LO B E3 _ Hb.out).mono ?_
  rintro e w3 ⟨rfl, hb⟩
  replace oS := oS.below hb
  replace oC := oC.below hb
  replace bel := belowTo bel hb (by exact bel.size)
  clear hb
  clear cS0 cS1 cS2 cS3 cS4 cS5 cS6 fS zS cC0 cC1 fC zC
  obtain ⟨cS0, cS1, cS2, cS3, cS4, cS5, cS6, fS, zS⟩ := own7 oS
  obtain ⟨cC0, cC1, fC, zC⟩ := own2 oC
  go_wp2_with fail
  go_quiet (fail)
  go_wp2_with fail
  go_ret3
  exact ⟨rfl, belowN bel⟩

set_option linter.unusedVariables false in
set_option maxRecDepth 100000 in
set_option maxHeartbeats 2000000 in
theorem tells_fb (sy : Bool) (l h a k src he o d asn N E1 LO E2 B E3 : Int) (w : World) (h1 : 0 ≤ asn) (h2 : asn ≤ 1000000000) (hs : gsN sy l h a k src he o d asn = N ∧ gsE sy l h a k src he o d asn = E1) (hc : shN o d (asn * 10000) = LO ∧ shE o d (asn * 10000) = E2) (hb : bdN sy l h a k src he LO = B ∧ bdE sy l h a k src he LO = E3) (b1 : 0 ≤ B) (b2 : B ≤ 2000) (e1 : (E1 == 0) = true) (e2 : (E2 == 0) = false) :
    Calls Try.prog 11 #[.agg #[.bool sy, .int .i64 l, .int .i64 h, .int .i64 a, .int .i64 k, .int .i64 src, .int .i64 he], .agg #[.int .i64 o, .int .i64 d], .bool false, .int .i64 asn] w fun e w' => e = .returned (.tuple #[.int .i64 N, .int .i64 (B + 4), .bool false]) ∧ Below w.heap.size w w' := by
  have Hs := Lib.hid hs
  have Hc := Lib.hid hc
  have Hb := Lib.hid hb
  have wr1 : IntKind.i64.wrap (asn * 10000) = asn * 10000 := IntWalk.i64_in _ (by omega)
  clear hs hc hb
  go_enter Try.func11, Try.ntmps11
  go_wp2_with fail
  refine (send_lit sy l h a k src he o d asn N E1 _ Hs.out).mono ?_
  rintro e w1 ⟨rfl, hb⟩
  have oS : Own w1 w.heap.size [.bool sy, .int .i64 l, .int .i64 h, .int .i64 a, .int .i64 k, .int .i64 src, .int .i64 he] 25 := ((own_at _ _ rfl).alloc _).below hb
  have oC : Own w1 (w.heap.size + 1) [.int .i64 o, .int .i64 d] 27 := (own_at _ _ (by simp)).below hb
  have bel := belowTo (((Below.refl w.heap.size w).alloc (by simp) _).alloc (by simp) _) hb (by simp; omega)
  clear hb
  obtain ⟨cS0, cS1, cS2, cS3, cS4, cS5, cS6, fS, zS⟩ := own7 oS
  obtain ⟨cC0, cC1, fC, zC⟩ := own2 oC
  go_wp2_with fail
  refine (show_lit o d (asn * 10000) LO E2 _ Hc.out).mono ?_
  rintro e w2 ⟨rfl, hb⟩
  replace oS := oS.below hb
  replace oC := oC.below hb
  replace bel := belowTo bel hb (by exact bel.size)
  clear hb
  clear cS0 cS1 cS2 cS3 cS4 cS5 cS6 fS zS cC0 cC1 fC zC
  obtain ⟨cS0, cS1, cS2, cS3, cS4, cS5, cS6, fS, zS⟩ := own7 oS
  obtain ⟨cC0, cC1, fC, zC⟩ := own2 oC
  go_wp2_with fail
  refine (tbound_lit sy l h a k src he LO B E3 _ Hb.out).mono ?_
  rintro e w3 ⟨rfl, hb⟩
  replace oS := oS.below hb
  replace oC := oC.below hb
  replace bel := belowTo bel hb (by exact bel.size)
  clear hb
  clear cS0 cS1 cS2 cS3 cS4 cS5 cS6 fS zS cC0 cC1 fC zC
  obtain ⟨cS0, cS1, cS2, cS3, cS4, cS5, cS6, fS, zS⟩ := own7 oS
  obtain ⟨cC0, cC1, fC, zC⟩ := own2 oC
  go_wp2_with fail
  go_quiet (fail)
  go_wp2_with fail
  go_ret3
  exact ⟨rfl, belowN bel⟩

set_option linter.unusedVariables false in
set_option maxRecDepth 100000 in
set_option maxHeartbeats 2000000 in
theorem tells_fc (sy : Bool) (l h a k src he o d asn N E1 LO E2 B E3 : Int) (w : World) (h1 : 0 ≤ asn) (h2 : asn ≤ 1000000000) (hs : gsN sy l h a k src he o d asn = N ∧ gsE sy l h a k src he o d asn = E1) (hc : shN o d (asn * 10000) = LO ∧ shE o d (asn * 10000) = E2) (hb : bdN sy l h a k src he LO = B ∧ bdE sy l h a k src he LO = E3) (b1 : 0 ≤ B) (b2 : B ≤ 2000) (e1 : (E1 == 0) = true) (e2 : (E2 == 0) = true) (e3 : (E3 == 0) = false) :
    Calls Try.prog 11 #[.agg #[.bool sy, .int .i64 l, .int .i64 h, .int .i64 a, .int .i64 k, .int .i64 src, .int .i64 he], .agg #[.int .i64 o, .int .i64 d], .bool false, .int .i64 asn] w fun e w' => e = .returned (.tuple #[.int .i64 N, .int .i64 (B + 4), .bool false]) ∧ Below w.heap.size w w' := by
  have Hs := Lib.hid hs
  have Hc := Lib.hid hc
  have Hb := Lib.hid hb
  have wr1 : IntKind.i64.wrap (asn * 10000) = asn * 10000 := IntWalk.i64_in _ (by omega)
  clear hs hc hb
  go_enter Try.func11, Try.ntmps11
  go_wp2_with fail
  refine (send_lit sy l h a k src he o d asn N E1 _ Hs.out).mono ?_
  rintro e w1 ⟨rfl, hb⟩
  have oS : Own w1 w.heap.size [.bool sy, .int .i64 l, .int .i64 h, .int .i64 a, .int .i64 k, .int .i64 src, .int .i64 he] 25 := ((own_at _ _ rfl).alloc _).below hb
  have oC : Own w1 (w.heap.size + 1) [.int .i64 o, .int .i64 d] 27 := (own_at _ _ (by simp)).below hb
  have bel := belowTo (((Below.refl w.heap.size w).alloc (by simp) _).alloc (by simp) _) hb (by simp; omega)
  clear hb
  obtain ⟨cS0, cS1, cS2, cS3, cS4, cS5, cS6, fS, zS⟩ := own7 oS
  obtain ⟨cC0, cC1, fC, zC⟩ := own2 oC
  go_wp2_with fail
  refine (show_lit o d (asn * 10000) LO E2 _ Hc.out).mono ?_
  rintro e w2 ⟨rfl, hb⟩
  replace oS := oS.below hb
  replace oC := oC.below hb
  replace bel := belowTo bel hb (by exact bel.size)
  clear hb
  clear cS0 cS1 cS2 cS3 cS4 cS5 cS6 fS zS cC0 cC1 fC zC
  obtain ⟨cS0, cS1, cS2, cS3, cS4, cS5, cS6, fS, zS⟩ := own7 oS
  obtain ⟨cC0, cC1, fC, zC⟩ := own2 oC
  go_wp2_with fail
  refine (tbound_lit sy l h a k src he LO B E3 _ Hb.out).mono ?_
  rintro e w3 ⟨rfl, hb⟩
  replace oS := oS.below hb
  replace oC := oC.below hb
  replace bel := belowTo bel hb (by exact bel.size)
  clear hb
  clear cS0 cS1 cS2 cS3 cS4 cS5 cS6 fS zS cC0 cC1 fC zC
  obtain ⟨cS0, cS1, cS2, cS3, cS4, cS5, cS6, fS, zS⟩ := own7 oS
  obtain ⟨cC0, cC1, fC, zC⟩ := own2 oC
  go_wp2_with fail
  go_quiet (fail)
  go_wp2_with fail
  go_ret3
  exact ⟨rfl, belowN bel⟩

set_option linter.unusedVariables false in
set_option maxRecDepth 100000 in
set_option maxHeartbeats 2000000 in
theorem tells_fd (sy : Bool) (l h a k src he o d asn N E1 LO E2 B E3 : Int) (w : World) (h1 : 0 ≤ asn) (h2 : asn ≤ 1000000000) (hs : gsN sy l h a k src he o d asn = N ∧ gsE sy l h a k src he o d asn = E1) (hc : shN o d (asn * 10000) = LO ∧ shE o d (asn * 10000) = E2) (hb : bdN sy l h a k src he LO = B ∧ bdE sy l h a k src he LO = E3) (b1 : 0 ≤ B) (b2 : B ≤ 2000) (e1 : (E1 == 0) = true) (e2 : (E2 == 0) = true) (e3 : (E3 == 0) = true) (e4 : 2000 < B + 4) :
    Calls Try.prog 11 #[.agg #[.bool sy, .int .i64 l, .int .i64 h, .int .i64 a, .int .i64 k, .int .i64 src, .int .i64 he], .agg #[.int .i64 o, .int .i64 d], .bool false, .int .i64 asn] w fun e w' => e = .returned (.tuple #[.int .i64 N, .int .i64 (B + 4), .bool false]) ∧ Below w.heap.size w w' := by
  have Hs := Lib.hid hs
  have Hc := Lib.hid hc
  have Hb := Lib.hid hb
  have wr1 : IntKind.i64.wrap (asn * 10000) = asn * 10000 := IntWalk.i64_in _ (by omega)
  clear hs hc hb
  have e5 : decide (B + 4 ≤ 2000) = false := decide_eq_false (by omega)
  go_enter Try.func11, Try.ntmps11
  go_wp2_with fail
  refine (send_lit sy l h a k src he o d asn N E1 _ Hs.out).mono ?_
  rintro e w1 ⟨rfl, hb⟩
  have oS : Own w1 w.heap.size [.bool sy, .int .i64 l, .int .i64 h, .int .i64 a, .int .i64 k, .int .i64 src, .int .i64 he] 25 := ((own_at _ _ rfl).alloc _).below hb
  have oC : Own w1 (w.heap.size + 1) [.int .i64 o, .int .i64 d] 27 := (own_at _ _ (by simp)).below hb
  have bel := belowTo (((Below.refl w.heap.size w).alloc (by simp) _).alloc (by simp) _) hb (by simp; omega)
  clear hb
  obtain ⟨cS0, cS1, cS2, cS3, cS4, cS5, cS6, fS, zS⟩ := own7 oS
  obtain ⟨cC0, cC1, fC, zC⟩ := own2 oC
  go_wp2_with fail
  refine (show_lit o d (asn * 10000) LO E2 _ Hc.out).mono ?_
  rintro e w2 ⟨rfl, hb⟩
  replace oS := oS.below hb
  replace oC := oC.below hb
  replace bel := belowTo bel hb (by exact bel.size)
  clear hb
  clear cS0 cS1 cS2 cS3 cS4 cS5 cS6 fS zS cC0 cC1 fC zC
  obtain ⟨cS0, cS1, cS2, cS3, cS4, cS5, cS6, fS, zS⟩ := own7 oS
  obtain ⟨cC0, cC1, fC, zC⟩ := own2 oC
  go_wp2_with fail
  refine (tbound_lit sy l h a k src he LO B E3 _ Hb.out).mono ?_
  rintro e w3 ⟨rfl, hb⟩
  replace oS := oS.below hb
  replace oC := oC.below hb
  replace bel := belowTo bel hb (by exact bel.size)
  clear hb
  clear cS0 cS1 cS2 cS3 cS4 cS5 cS6 fS zS cC0 cC1 fC zC
  obtain ⟨cS0, cS1, cS2, cS3, cS4, cS5, cS6, fS, zS⟩ := own7 oS
  obtain ⟨cC0, cC1, fC, zC⟩ := own2 oC
  go_wp2_with fail
  go_quiet (fail)
  go_wp2_with fail
  go_ret3
  exact ⟨rfl, belowN bel⟩

set_option linter.unusedVariables false in
set_option maxRecDepth 100000 in
set_option maxHeartbeats 2000000 in
theorem tells_fe (sy : Bool) (l h a k src he o d asn N E1 LO E2 B E3 : Int) (w : World) (h1 : 0 ≤ asn) (h2 : asn ≤ 1000000000) (hs : gsN sy l h a k src he o d asn = N ∧ gsE sy l h a k src he o d asn = E1) (hc : shN o d (asn * 10000) = LO ∧ shE o d (asn * 10000) = E2) (hb : bdN sy l h a k src he LO = B ∧ bdE sy l h a k src he LO = E3) (b1 : 0 ≤ B) (b2 : B ≤ 2000) (e1 : (E1 == 0) = true) (e2 : (E2 == 0) = true) (e3 : (E3 == 0) = true) (e4 : B + 4 ≤ 2000) (e6 : 60 ≤ k) :
    Calls Try.prog 11 #[.agg #[.bool sy, .int .i64 l, .int .i64 h, .int .i64 a, .int .i64 k, .int .i64 src, .int .i64 he], .agg #[.int .i64 o, .int .i64 d], .bool false, .int .i64 asn] w fun e w' => e = .returned (.tuple #[.int .i64 N, .int .i64 (B + 4), .bool false]) ∧ Below w.heap.size w w' := by
  have Hs := Lib.hid hs
  have Hc := Lib.hid hc
  have Hb := Lib.hid hb
  have wr1 : IntKind.i64.wrap (asn * 10000) = asn * 10000 := IntWalk.i64_in _ (by omega)
  clear hs hc hb
  have e5 : decide (B + 4 ≤ 2000) = true := decide_eq_true (by omega)
  have e7 : decide (k < 60) = false := decide_eq_false (by omega)
  go_enter Try.func11, Try.ntmps11
  go_wp2_with fail
  refine (send_lit sy l h a k src he o d asn N E1 _ Hs.out).mono ?_
  rintro e w1 ⟨rfl, hb⟩
  have oS : Own w1 w.heap.size [.bool sy, .int .i64 l, .int .i64 h, .int .i64 a, .int .i64 k, .int .i64 src, .int .i64 he] 25 := ((own_at _ _ rfl).alloc _).below hb
  have oC : Own w1 (w.heap.size + 1) [.int .i64 o, .int .i64 d] 27 := (own_at _ _ (by simp)).below hb
  have bel := belowTo (((Below.refl w.heap.size w).alloc (by simp) _).alloc (by simp) _) hb (by simp; omega)
  clear hb
  obtain ⟨cS0, cS1, cS2, cS3, cS4, cS5, cS6, fS, zS⟩ := own7 oS
  obtain ⟨cC0, cC1, fC, zC⟩ := own2 oC
  go_wp2_with fail
  refine (show_lit o d (asn * 10000) LO E2 _ Hc.out).mono ?_
  rintro e w2 ⟨rfl, hb⟩
  replace oS := oS.below hb
  replace oC := oC.below hb
  replace bel := belowTo bel hb (by exact bel.size)
  clear hb
  clear cS0 cS1 cS2 cS3 cS4 cS5 cS6 fS zS cC0 cC1 fC zC
  obtain ⟨cS0, cS1, cS2, cS3, cS4, cS5, cS6, fS, zS⟩ := own7 oS
  obtain ⟨cC0, cC1, fC, zC⟩ := own2 oC
  go_wp2_with fail
  refine (tbound_lit sy l h a k src he LO B E3 _ Hb.out).mono ?_
  rintro e w3 ⟨rfl, hb⟩
  replace oS := oS.below hb
  replace oC := oC.below hb
  replace bel := belowTo bel hb (by exact bel.size)
  clear hb
  clear cS0 cS1 cS2 cS3 cS4 cS5 cS6 fS zS cC0 cC1 fC zC
  obtain ⟨cS0, cS1, cS2, cS3, cS4, cS5, cS6, fS, zS⟩ := own7 oS
  obtain ⟨cC0, cC1, fC, zC⟩ := own2 oC
  go_wp2_with fail
  go_quiet (fail)
  go_wp2_with fail
  go_ret3
  exact ⟨rfl, belowN bel⟩

set_option linter.unusedVariables false in
set_option maxRecDepth 100000 in
set_option maxHeartbeats 2000000 in
theorem tells_ff (sy : Bool) (l h a k src he o d asn N E1 LO E2 B E3 : Int) (w : World) (h1 : 0 ≤ asn) (h2 : asn ≤ 1000000000) (hs : gsN sy l h a k src he o d asn = N ∧ gsE sy l h a k src he o d asn = E1) (hc : shN o d (asn * 10000) = LO ∧ shE o d (asn * 10000) = E2) (hb : bdN sy l h a k src he LO = B ∧ bdE sy l h a k src he LO = E3) (b1 : 0 ≤ B) (b2 : B ≤ 2000) (e1 : (E1 == 0) = true) (e2 : (E2 == 0) = true) (e3 : (E3 == 0) = true) (e4 : B + 4 ≤ 2000) (e6 : k < 60) :
    Calls Try.prog 11 #[.agg #[.bool sy, .int .i64 l, .int .i64 h, .int .i64 a, .int .i64 k, .int .i64 src, .int .i64 he], .agg #[.int .i64 o, .int .i64 d], .bool false, .int .i64 asn] w fun e w' => e = .returned (.tuple #[.int .i64 N, .int .i64 (B + 4), .bool true]) ∧ Below w.heap.size w w' := by
  have Hs := Lib.hid hs
  have Hc := Lib.hid hc
  have Hb := Lib.hid hb
  have wr1 : IntKind.i64.wrap (asn * 10000) = asn * 10000 := IntWalk.i64_in _ (by omega)
  clear hs hc hb
  have e5 : decide (B + 4 ≤ 2000) = true := decide_eq_true (by omega)
  have e7 : decide (k < 60) = true := decide_eq_true (by omega)
  go_enter Try.func11, Try.ntmps11
  go_wp2_with fail
  refine (send_lit sy l h a k src he o d asn N E1 _ Hs.out).mono ?_
  rintro e w1 ⟨rfl, hb⟩
  have oS : Own w1 w.heap.size [.bool sy, .int .i64 l, .int .i64 h, .int .i64 a, .int .i64 k, .int .i64 src, .int .i64 he] 25 := ((own_at _ _ rfl).alloc _).below hb
  have oC : Own w1 (w.heap.size + 1) [.int .i64 o, .int .i64 d] 27 := (own_at _ _ (by simp)).below hb
  have bel := belowTo (((Below.refl w.heap.size w).alloc (by simp) _).alloc (by simp) _) hb (by simp; omega)
  clear hb
  obtain ⟨cS0, cS1, cS2, cS3, cS4, cS5, cS6, fS, zS⟩ := own7 oS
  obtain ⟨cC0, cC1, fC, zC⟩ := own2 oC
  go_wp2_with fail
  refine (show_lit o d (asn * 10000) LO E2 _ Hc.out).mono ?_
  rintro e w2 ⟨rfl, hb⟩
  replace oS := oS.below hb
  replace oC := oC.below hb
  replace bel := belowTo bel hb (by exact bel.size)
  clear hb
  clear cS0 cS1 cS2 cS3 cS4 cS5 cS6 fS zS cC0 cC1 fC zC
  obtain ⟨cS0, cS1, cS2, cS3, cS4, cS5, cS6, fS, zS⟩ := own7 oS
  obtain ⟨cC0, cC1, fC, zC⟩ := own2 oC
  go_wp2_with fail
  refine (tbound_lit sy l h a k src he LO B E3 _ Hb.out).mono ?_
  rintro e w3 ⟨rfl, hb⟩
  replace oS := oS.below hb
  replace oC := oC.below hb
  replace bel := belowTo bel hb (by exact bel.size)
  clear hb
  clear cS0 cS1 cS2 cS3 cS4 cS5 cS6 fS zS cC0 cC1 fC zC
  obtain ⟨cS0, cS1, cS2, cS3, cS4, cS5, cS6, fS, zS⟩ := own7 oS
  obtain ⟨cC0, cC1, fC, zC⟩ := own2 oC
  go_wp2_with fail
  go_quiet (fail)
  go_wp2_with fail
  go_ret3
  exact ⟨rfl, belowN bel⟩

end Go.Proofs.Ythnilgmafbkdkaa

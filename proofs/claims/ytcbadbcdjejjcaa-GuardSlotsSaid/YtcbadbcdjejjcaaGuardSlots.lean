/- GuardSlots: the walk of the law. It returns true for every input, and leaves old memory alone. -/
import Derived.Test.YtcbadbcdjejjcaaHead10
namespace Go.Proofs.Ytcbadbcdjejjcaa
open Go.RowKit

set_option linter.unusedVariables false in
set_option maxRecDepth 100000 in
set_option maxHeartbeats 4000000 in
theorem guardSlots_neg (sy : Bool) (l h a k src he o d asn : Int) (w : World) (q1 : asn < 0) :
    Calls Try.prog 8 #[.agg #[.bool sy, .int .i64 l, .int .i64 h, .int .i64 a, .int .i64 k, .int .i64 src, .int .i64 he], .agg #[.int .i64 o, .int .i64 d], .int .i64 asn] w fun e w' => e = .returned (.bool true) ∧ Below w.heap.size w w' := by
  go_enter Try.func8, Try.ntmps8
  go_wp2_with fail
  refine (head_any _).mono ?_
  rintro e w1 ⟨rfl, hb⟩
  have oS : Own w1 w.heap.size [.bool sy, .int .i64 l, .int .i64 h, .int .i64 a, .int .i64 k, .int .i64 src, .int .i64 he] 25 := ((own_at _ _ rfl).alloc _).below hb
  have oC : Own w1 (w.heap.size + 1) [.int .i64 o, .int .i64 d] 27 := (own_at _ _ (by simp)).below hb
  have bel := belowTo (((Below.refl w.heap.size w).alloc (by simp) _).alloc (by simp) _) hb (by simp; omega)
  clear hb 
  obtain ⟨cS0, cS1, cS2, cS3, cS4, cS5, cS6, fS, zS⟩ := own7 oS
  obtain ⟨cC0, cC1, fC, zC⟩ := own2 oC
  go_wp2
  all_goals (go_ret; exact ⟨by first | rfl | simp_all, (by repeat (first | exact bel | refine Below.alloc ?_ (by have := bel.size; simp; omega) _))⟩)

set_option linter.unusedVariables false in
set_option maxRecDepth 100000 in
set_option maxHeartbeats 4000000 in
theorem guardSlots_big (sy : Bool) (l h a k src he o d asn : Int) (w : World) (q1 : 0 ≤ asn) (q2 : 999999999 ≤ asn) :
    Calls Try.prog 8 #[.agg #[.bool sy, .int .i64 l, .int .i64 h, .int .i64 a, .int .i64 k, .int .i64 src, .int .i64 he], .agg #[.int .i64 o, .int .i64 d], .int .i64 asn] w fun e w' => e = .returned (.bool true) ∧ Below w.heap.size w w' := by
  go_enter Try.func8, Try.ntmps8
  go_wp2_with fail
  refine (head_any _).mono ?_
  rintro e w1 ⟨rfl, hb⟩
  have oS : Own w1 w.heap.size [.bool sy, .int .i64 l, .int .i64 h, .int .i64 a, .int .i64 k, .int .i64 src, .int .i64 he] 25 := ((own_at _ _ rfl).alloc _).below hb
  have oC : Own w1 (w.heap.size + 1) [.int .i64 o, .int .i64 d] 27 := (own_at _ _ (by simp)).below hb
  have bel := belowTo (((Below.refl w.heap.size w).alloc (by simp) _).alloc (by simp) _) hb (by simp; omega)
  clear hb 
  obtain ⟨cS0, cS1, cS2, cS3, cS4, cS5, cS6, fS, zS⟩ := own7 oS
  obtain ⟨cC0, cC1, fC, zC⟩ := own2 oC
  go_wp2
  all_goals (go_ret; exact ⟨by first | rfl | simp_all, (by repeat (first | exact bel | refine Below.alloc ?_ (by have := bel.size; simp; omega) _))⟩)

set_option linter.unusedVariables false in
set_option maxRecDepth 100000 in
set_option maxHeartbeats 4000000 in
theorem guardSlots_err1 (sy : Bool) (l h a k src he o d asn N E M F : Int) (w : World) (q1 : 0 ≤ asn) (q2 : asn < 999999999) (s : gsN sy l h a k src he o d asn = N ∧ gsE sy l h a k src he o d asn = E) (s2 : gsN sy l h a k src he o d (asn + 1) = M ∧ gsE sy l h a k src he o d (asn + 1) = F) (Eb : (E == 0) = false) (En : (E != 0) = true)  :
    Calls Try.prog 8 #[.agg #[.bool sy, .int .i64 l, .int .i64 h, .int .i64 a, .int .i64 k, .int .i64 src, .int .i64 he], .agg #[.int .i64 o, .int .i64 d], .int .i64 asn] w fun e w' => e = .returned (.bool true) ∧ Below w.heap.size w w' := by
  have Hs := Lib.hid s
  clear s
  have Hs2 := Lib.hid s2
  clear s2
  go_enter Try.func8, Try.ntmps8
  go_wp2_with fail
  refine (head_any _).mono ?_
  rintro e w1 ⟨rfl, hb⟩
  have oS : Own w1 w.heap.size [.bool sy, .int .i64 l, .int .i64 h, .int .i64 a, .int .i64 k, .int .i64 src, .int .i64 he] 25 := ((own_at _ _ rfl).alloc _).below hb
  have oC : Own w1 (w.heap.size + 1) [.int .i64 o, .int .i64 d] 27 := (own_at _ _ (by simp)).below hb
  have bel := belowTo (((Below.refl w.heap.size w).alloc (by simp) _).alloc (by simp) _) hb (by simp; omega)
  clear hb 
  obtain ⟨cS0, cS1, cS2, cS3, cS4, cS5, cS6, fS, zS⟩ := own7 oS
  obtain ⟨cC0, cC1, fC, zC⟩ := own2 oC
  go_wp2_with fail
  refine (send_lit sy l h a k src he o d asn N E _ Hs.out).mono ?_
  rintro e w2 ⟨rfl, hb⟩
  replace oS := oS.below hb
  replace oC := oC.below hb
  replace bel := belowTo bel hb (by exact bel.size)
  clear hb cS0 cS1 cS2 cS3 cS4 cS5 cS6 fS zS cC0 cC1 fC zC
  obtain ⟨cS0, cS1, cS2, cS3, cS4, cS5, cS6, fS, zS⟩ := own7 oS
  obtain ⟨cC0, cC1, fC, zC⟩ := own2 oC
  go_wp2_with fail
  refine (send_lit sy l h a k src he o d (asn + 1) M F _ Hs2.out).mono ?_
  rintro e w3 ⟨rfl, hb⟩
  replace oS := oS.below hb
  replace oC := oC.below hb
  replace bel := belowTo bel hb (by exact bel.size)
  clear hb cS0 cS1 cS2 cS3 cS4 cS5 cS6 fS zS cC0 cC1 fC zC
  obtain ⟨cS0, cS1, cS2, cS3, cS4, cS5, cS6, fS, zS⟩ := own7 oS
  obtain ⟨cC0, cC1, fC, zC⟩ := own2 oC
  go_wp2
  all_goals (go_ret; exact ⟨by first | rfl | simp_all, (by repeat (first | exact bel | refine Below.alloc ?_ (by have := bel.size; simp; omega) _))⟩)

set_option linter.unusedVariables false in
set_option maxRecDepth 100000 in
set_option maxHeartbeats 4000000 in
theorem guardSlots_err2 (sy : Bool) (l h a k src he o d asn N M F : Int) (w : World) (q1 : 0 ≤ asn) (q2 : asn < 999999999) (s : gsN sy l h a k src he o d asn = N ∧ gsE sy l h a k src he o d asn = 0) (s2 : gsN sy l h a k src he o d (asn + 1) = M ∧ gsE sy l h a k src he o d (asn + 1) = F) (Fb : (F == 0) = false) (Fn : (F != 0) = true)  :
    Calls Try.prog 8 #[.agg #[.bool sy, .int .i64 l, .int .i64 h, .int .i64 a, .int .i64 k, .int .i64 src, .int .i64 he], .agg #[.int .i64 o, .int .i64 d], .int .i64 asn] w fun e w' => e = .returned (.bool true) ∧ Below w.heap.size w w' := by
  have Hs := Lib.hid s
  clear s
  have Hs2 := Lib.hid s2
  clear s2
  go_enter Try.func8, Try.ntmps8
  go_wp2_with fail
  refine (head_any _).mono ?_
  rintro e w1 ⟨rfl, hb⟩
  have oS : Own w1 w.heap.size [.bool sy, .int .i64 l, .int .i64 h, .int .i64 a, .int .i64 k, .int .i64 src, .int .i64 he] 25 := ((own_at _ _ rfl).alloc _).below hb
  have oC : Own w1 (w.heap.size + 1) [.int .i64 o, .int .i64 d] 27 := (own_at _ _ (by simp)).below hb
  have bel := belowTo (((Below.refl w.heap.size w).alloc (by simp) _).alloc (by simp) _) hb (by simp; omega)
  clear hb 
  obtain ⟨cS0, cS1, cS2, cS3, cS4, cS5, cS6, fS, zS⟩ := own7 oS
  obtain ⟨cC0, cC1, fC, zC⟩ := own2 oC
  go_wp2_with fail
  refine (send_lit sy l h a k src he o d asn N 0 _ Hs.out).mono ?_
  rintro e w2 ⟨rfl, hb⟩
  replace oS := oS.below hb
  replace oC := oC.below hb
  replace bel := belowTo bel hb (by exact bel.size)
  clear hb cS0 cS1 cS2 cS3 cS4 cS5 cS6 fS zS cC0 cC1 fC zC
  obtain ⟨cS0, cS1, cS2, cS3, cS4, cS5, cS6, fS, zS⟩ := own7 oS
  obtain ⟨cC0, cC1, fC, zC⟩ := own2 oC
  go_wp2_with fail
  refine (send_lit sy l h a k src he o d (asn + 1) M F _ Hs2.out).mono ?_
  rintro e w3 ⟨rfl, hb⟩
  replace oS := oS.below hb
  replace oC := oC.below hb
  replace bel := belowTo bel hb (by exact bel.size)
  clear hb cS0 cS1 cS2 cS3 cS4 cS5 cS6 fS zS cC0 cC1 fC zC
  obtain ⟨cS0, cS1, cS2, cS3, cS4, cS5, cS6, fS, zS⟩ := own7 oS
  obtain ⟨cC0, cC1, fC, zC⟩ := own2 oC
  go_wp2
  all_goals (go_ret; exact ⟨by first | rfl | simp_all, (by repeat (first | exact bel | refine Below.alloc ?_ (by have := bel.size; simp; omega) _))⟩)

set_option linter.unusedVariables false in
set_option maxRecDepth 100000 in
set_option maxHeartbeats 4000000 in
theorem guardSlots_zero (sy : Bool) (l h a k src he o d asn N M : Int) (w : World) (q1 : 0 ≤ asn) (q2 : asn < 999999999) (s : gsN sy l h a k src he o d asn = N ∧ gsE sy l h a k src he o d asn = 0) (s2 : gsN sy l h a k src he o d (asn + 1) = M ∧ gsE sy l h a k src he o d (asn + 1) = 0) (z : (N == -asn * 10000) = true) :
    Calls Try.prog 8 #[.agg #[.bool sy, .int .i64 l, .int .i64 h, .int .i64 a, .int .i64 k, .int .i64 src, .int .i64 he], .agg #[.int .i64 o, .int .i64 d], .int .i64 asn] w fun e w' => e = .returned (.bool true) ∧ Below w.heap.size w w' := by
  have Hs := Lib.hid s
  clear s
  have Hs2 := Lib.hid s2
  clear s2
  go_enter Try.func8, Try.ntmps8
  go_wp2_with fail
  refine (head_any _).mono ?_
  rintro e w1 ⟨rfl, hb⟩
  have oS : Own w1 w.heap.size [.bool sy, .int .i64 l, .int .i64 h, .int .i64 a, .int .i64 k, .int .i64 src, .int .i64 he] 25 := ((own_at _ _ rfl).alloc _).below hb
  have oC : Own w1 (w.heap.size + 1) [.int .i64 o, .int .i64 d] 27 := (own_at _ _ (by simp)).below hb
  have bel := belowTo (((Below.refl w.heap.size w).alloc (by simp) _).alloc (by simp) _) hb (by simp; omega)
  clear hb 
  obtain ⟨cS0, cS1, cS2, cS3, cS4, cS5, cS6, fS, zS⟩ := own7 oS
  obtain ⟨cC0, cC1, fC, zC⟩ := own2 oC
  go_wp2_with fail
  refine (send_lit sy l h a k src he o d asn N 0 _ Hs.out).mono ?_
  rintro e w2 ⟨rfl, hb⟩
  replace oS := oS.below hb
  replace oC := oC.below hb
  replace bel := belowTo bel hb (by exact bel.size)
  clear hb cS0 cS1 cS2 cS3 cS4 cS5 cS6 fS zS cC0 cC1 fC zC
  obtain ⟨cS0, cS1, cS2, cS3, cS4, cS5, cS6, fS, zS⟩ := own7 oS
  obtain ⟨cC0, cC1, fC, zC⟩ := own2 oC
  go_wp2_with fail
  refine (send_lit sy l h a k src he o d (asn + 1) M 0 _ Hs2.out).mono ?_
  rintro e w3 ⟨rfl, hb⟩
  replace oS := oS.below hb
  replace oC := oC.below hb
  replace bel := belowTo bel hb (by exact bel.size)
  clear hb cS0 cS1 cS2 cS3 cS4 cS5 cS6 fS zS cC0 cC1 fC zC
  obtain ⟨cS0, cS1, cS2, cS3, cS4, cS5, cS6, fS, zS⟩ := own7 oS
  obtain ⟨cC0, cC1, fC, zC⟩ := own2 oC
  go_wp2
  all_goals (go_ret; exact ⟨by first | rfl | simp_all, (by repeat (first | exact bel | refine Below.alloc ?_ (by have := bel.size; simp; omega) _))⟩)

set_option linter.unusedVariables false in
set_option maxRecDepth 100000 in
set_option maxHeartbeats 4000000 in
theorem guardSlots_ok (sy : Bool) (l h a k src he o d asn N M : Int) (w : World) (q1 : 0 ≤ asn) (q2 : asn < 999999999) (s : gsN sy l h a k src he o d asn = N ∧ gsE sy l h a k src he o d asn = 0) (s2 : gsN sy l h a k src he o d (asn + 1) = M ∧ gsE sy l h a k src he o d (asn + 1) = 0) (z : (N == -asn * 10000) = false) (b1 : -50000000000000 ≤ N) (b2 : N ≤ 50000000000000) (b3 : -50000000000000 ≤ M) (b4 : M ≤ 50000000000000) (c1 : 9998 ≤ M + 10000 - N) (c2 : M + 10000 - N ≤ 10002) :
    Calls Try.prog 8 #[.agg #[.bool sy, .int .i64 l, .int .i64 h, .int .i64 a, .int .i64 k, .int .i64 src, .int .i64 he], .agg #[.int .i64 o, .int .i64 d], .int .i64 asn] w fun e w' => e = .returned (.bool true) ∧ Below w.heap.size w w' := by
  have Hs := Lib.hid s
  clear s
  have Hs2 := Lib.hid s2
  clear s2
  go_enter Try.func8, Try.ntmps8
  go_wp2_with fail
  refine (head_any _).mono ?_
  rintro e w1 ⟨rfl, hb⟩
  have oS : Own w1 w.heap.size [.bool sy, .int .i64 l, .int .i64 h, .int .i64 a, .int .i64 k, .int .i64 src, .int .i64 he] 25 := ((own_at _ _ rfl).alloc _).below hb
  have oC : Own w1 (w.heap.size + 1) [.int .i64 o, .int .i64 d] 27 := (own_at _ _ (by simp)).below hb
  have bel := belowTo (((Below.refl w.heap.size w).alloc (by simp) _).alloc (by simp) _) hb (by simp; omega)
  clear hb 
  obtain ⟨cS0, cS1, cS2, cS3, cS4, cS5, cS6, fS, zS⟩ := own7 oS
  obtain ⟨cC0, cC1, fC, zC⟩ := own2 oC
  go_wp2_with fail
  refine (send_lit sy l h a k src he o d asn N 0 _ Hs.out).mono ?_
  rintro e w2 ⟨rfl, hb⟩
  replace oS := oS.below hb
  replace oC := oC.below hb
  replace bel := belowTo bel hb (by exact bel.size)
  clear hb cS0 cS1 cS2 cS3 cS4 cS5 cS6 fS zS cC0 cC1 fC zC
  obtain ⟨cS0, cS1, cS2, cS3, cS4, cS5, cS6, fS, zS⟩ := own7 oS
  obtain ⟨cC0, cC1, fC, zC⟩ := own2 oC
  go_wp2_with fail
  refine (send_lit sy l h a k src he o d (asn + 1) M 0 _ Hs2.out).mono ?_
  rintro e w3 ⟨rfl, hb⟩
  replace oS := oS.below hb
  replace oC := oC.below hb
  replace bel := belowTo bel hb (by exact bel.size)
  clear hb cS0 cS1 cS2 cS3 cS4 cS5 cS6 fS zS cC0 cC1 fC zC
  obtain ⟨cS0, cS1, cS2, cS3, cS4, cS5, cS6, fS, zS⟩ := own7 oS
  obtain ⟨cC0, cC1, fC, zC⟩ := own2 oC
  go_wp2
  all_goals (go_ret; exact ⟨by first | rfl | simp_all, (by repeat (first | exact bel | refine Below.alloc ?_ (by have := bel.size; simp; omega) _))⟩)

theorem guardSlots_walk (sy : Bool) (l h a k src he o d asn : Int) (w : World) (_0 : IntKind.i64.has l) (_1 : IntKind.i64.has h) (_2 : IntKind.i64.has a) (_3 : IntKind.i64.has k) (_4 : IntKind.i64.has src) (_5 : IntKind.i64.has he) (_6 : IntKind.i64.has o) (_7 : IntKind.i64.has d) (_8 : IntKind.i64.has asn) :
    Calls Try.prog 8 #[.agg #[.bool sy, .int .i64 l, .int .i64 h, .int .i64 a, .int .i64 k, .int .i64 src, .int .i64 he], .agg #[.int .i64 o, .int .i64 d], .int .i64 asn] w fun e w' => e = .returned (.bool true) ∧ Below w.heap.size w w' := by
  by_cases q1 : 0 ≤ asn
  · by_cases q2 : asn < 999999999
    · by_cases e : gsE sy l h a k src he o d asn = 0
      · by_cases f : gsE sy l h a k src he o d (asn + 1) = 0
        · by_cases z : gsN sy l h a k src he o d asn = -(asn * 10000)
          · exact guardSlots_zero sy l h a k src he o d asn _ _ w q1 q2 ⟨rfl, e⟩ ⟨rfl, f⟩ (by rw [beq_iff_eq]; omega)
          · obtain ⟨c1, c2⟩ := slots e f z
            obtain ⟨b1, b2, _, _⟩ := gs_bd e
            obtain ⟨b3, b4, _, _⟩ := gs_bd f
            exact guardSlots_ok sy l h a k src he o d asn _ _ w q1 q2 ⟨rfl, e⟩ ⟨rfl, f⟩ (by rw [beq_eq_false_iff_ne]; omega) (by omega) (by omega) (by omega) (by omega) c1 c2
        · exact guardSlots_err2 sy l h a k src he o d asn _ _ _ w q1 q2 ⟨rfl, e⟩ ⟨rfl, rfl⟩ (by simpa using f) (by simpa using f)
      · exact guardSlots_err1 sy l h a k src he o d asn _ _ _ _ w q1 q2 ⟨rfl, rfl⟩ ⟨rfl, rfl⟩ (by simpa using e) (by simpa using e)
    · exact guardSlots_big sy l h a k src he o d asn w q1 (by omega)
  · exact guardSlots_neg sy l h a k src he o d asn w (by omega)

end Go.Proofs.Ytcbadbcdjejjcaa

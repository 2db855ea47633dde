/- TopOnceSilent: the walk of the law. It returns true for every input, and leaves old memory alone. -/
import Derived.Test.YthnilgmafbkdkaaTime17
import Derived.Test.YthnilgmafbkdkaaOwn10
namespace Go.Proofs.Ythnilgmafbkdkaa
open Go.RowKit

set_option linter.unusedVariables false in
set_option maxRecDepth 100000 in
set_option maxHeartbeats 4000000 in
theorem once_out (sy : Bool) (l h a k src he o d asn more : Int) (w : World) (hq : asn < 0 ∨ (0 ≤ asn ∧ more < 0) ∨ (0 ≤ asn ∧ 0 ≤ more ∧ 1000000000 ≤ asn) ∨ (0 ≤ asn ∧ asn < 1000000000 ∧ 0 ≤ more ∧ 1000000000 - asn ≤ more)) :
    Calls Try.prog 3 #[.agg #[.bool sy, .int .i64 l, .int .i64 h, .int .i64 a, .int .i64 k, .int .i64 src, .int .i64 he], .agg #[.int .i64 o, .int .i64 d], .int .i64 asn, .int .i64 more] w fun e w' => e = .returned (.bool true) ∧ Below w.heap.size w w' := by
  rcases hq with h1 | ⟨h1, h2⟩ | ⟨h1, h2, h3⟩ | ⟨h1, h2, h3, h4⟩
  all_goals
    go_enter Try.func3, Try.ntmps3
    go_wp2_with fail
    refine (time17_any _).mono ?_
    rintro e w1 ⟨rfl, hb⟩
    have oS : Own w1 w.heap.size [.bool sy, .int .i64 l, .int .i64 h, .int .i64 a, .int .i64 k, .int .i64 src, .int .i64 he] 25 := ((own_at _ _ rfl).alloc _).below hb
    have oC : Own w1 (w.heap.size + 1) [.int .i64 o, .int .i64 d] 27 := (own_at _ _ (by simp)).below hb
    have bel := belowTo (((Below.refl w.heap.size w).alloc (by simp) _).alloc (by simp) _) hb (by simp; omega)
    clear hb 
    obtain ⟨cS0, cS1, cS2, cS3, cS4, cS5, cS6, fS, zS⟩ := own7 oS
    obtain ⟨cC0, cC1, fC, zC⟩ := own2 oC
    go_wp2
    go_ret
    exact ⟨rfl, bel⟩

set_option linter.unusedVariables false in
set_option maxRecDepth 100000 in
set_option maxHeartbeats 4000000 in
theorem once_time_near (sy : Bool) (l h a k src he o d asn more N1 E1 N2 E2 : Int) (w : World) (h1 : 0 ≤ asn) (h2 : 0 ≤ more) (h3 : asn < 1000000000) (h4 : more < 1000000000 - asn) (s1 : gsN sy l h a k src he o d asn = N1 ∧ gsE sy l h a k src he o d asn = E1) (s2 : gsN sy l h a k src he o d (asn + more) = N2 ∧ gsE sy l h a k src he o d (asn + more) = E2) (e1 : (E1 == 16) = true) (e2 : (E2 == 0) = false) (e2n : (E2 != 0) = true) (hk : k ≤ 0) :
    Calls Try.prog 3 #[.agg #[.bool sy, .int .i64 l, .int .i64 h, .int .i64 a, .int .i64 k, .int .i64 src, .int .i64 he], .agg #[.int .i64 o, .int .i64 d], .int .i64 asn, .int .i64 more] w fun e w' => e = .returned (.bool true) ∧ Below w.heap.size w w' := by
  have Hs1 := Lib.hid s1
  clear s1
  have Hs2 := Lib.hid s2
  clear s2
  go_enter Try.func3, Try.ntmps3
  go_wp2_with fail
  refine (time17_any _).mono ?_
  rintro e w1 ⟨rfl, hb⟩
  have oS : Own w1 w.heap.size [.bool sy, .int .i64 l, .int .i64 h, .int .i64 a, .int .i64 k, .int .i64 src, .int .i64 he] 25 := ((own_at _ _ rfl).alloc _).below hb
  have oC : Own w1 (w.heap.size + 1) [.int .i64 o, .int .i64 d] 27 := (own_at _ _ (by simp)).below hb
  have bel := belowTo (((Below.refl w.heap.size w).alloc (by simp) _).alloc (by simp) _) hb (by simp; omega)
  clear hb 
  obtain ⟨cS0, cS1, cS2, cS3, cS4, cS5, cS6, fS, zS⟩ := own7 oS
  obtain ⟨cC0, cC1, fC, zC⟩ := own2 oC
  go_wp2_with fail
  refine (send_lit sy l h a k src he o d asn N1 E1 _ Hs1.out).mono ?_
  rintro e w2 ⟨rfl, hb⟩
  replace oS := oS.below hb
  replace oC := oC.below hb
  replace bel := belowTo bel hb (by exact bel.size)
  clear hb cS0 cS1 cS2 cS3 cS4 cS5 cS6 fS zS cC0 cC1 fC zC
  obtain ⟨cS0, cS1, cS2, cS3, cS4, cS5, cS6, fS, zS⟩ := own7 oS
  obtain ⟨cC0, cC1, fC, zC⟩ := own2 oC
  go_wp2_with fail
  refine (send_lit sy l h a k src he o d (asn + more) N2 E2 _ Hs2.out).mono ?_
  rintro e w3 ⟨rfl, hb⟩
  replace oS := oS.below hb
  replace oC := oC.below hb
  replace bel := belowTo bel hb (by exact bel.size)
  clear hb cS0 cS1 cS2 cS3 cS4 cS5 cS6 fS zS cC0 cC1 fC zC
  obtain ⟨cS0, cS1, cS2, cS3, cS4, cS5, cS6, fS, zS⟩ := own7 oS
  obtain ⟨cC0, cC1, fC, zC⟩ := own2 oC
  go_wp2_with fail
  all_goals
    have hd : decide (0 < k) = false := by simpa using hk
    go_quiet (fail)
    go_wp2
    go_ret
    exact ⟨by first | rfl | simp_all, (by repeat (first | exact bel | refine belowN ?_))⟩

set_option linter.unusedVariables false in
set_option maxRecDepth 100000 in
set_option maxHeartbeats 4000000 in
theorem once_time_far (sy : Bool) (l h a k src he o d asn more N1 E1 N2 E2 O : Int) (w : World) (h1 : 0 ≤ asn) (h2 : 0 ≤ more) (h3 : asn < 1000000000) (h4 : more < 1000000000 - asn) (s1 : gsN sy l h a k src he o d asn = N1 ∧ gsE sy l h a k src he o d asn = E1) (s2 : gsN sy l h a k src he o d (asn + more) = N2 ∧ gsE sy l h a k src he o d (asn + more) = E2) (e1 : (E1 == 16) = true) (e2 : (E2 == 0) = false) (e2n : (E2 != 0) = true) (hk : 0 < k) (ho : ownX k l h asn = O)  :
    Calls Try.prog 3 #[.agg #[.bool sy, .int .i64 l, .int .i64 h, .int .i64 a, .int .i64 k, .int .i64 src, .int .i64 he], .agg #[.int .i64 o, .int .i64 d], .int .i64 asn, .int .i64 more] w fun e w' => e = .returned (.bool true) ∧ Below w.heap.size w w' := by
  have Hs1 := Lib.hid s1
  clear s1
  have Hs2 := Lib.hid s2
  clear s2
  have Hho := Lib.hid ho
  clear ho
  go_enter Try.func3, Try.ntmps3
  go_wp2_with fail
  refine (time17_any _).mono ?_
  rintro e w1 ⟨rfl, hb⟩
  have oS : Own w1 w.heap.size [.bool sy, .int .i64 l, .int .i64 h, .int .i64 a, .int .i64 k, .int .i64 src, .int .i64 he] 25 := ((own_at _ _ rfl).alloc _).below hb
  have oC : Own w1 (w.heap.size + 1) [.int .i64 o, .int .i64 d] 27 := (own_at _ _ (by simp)).below hb
  have bel := belowTo (((Below.refl w.heap.size w).alloc (by simp) _).alloc (by simp) _) hb (by simp; omega)
  clear hb 
  obtain ⟨cS0, cS1, cS2, cS3, cS4, cS5, cS6, fS, zS⟩ := own7 oS
  obtain ⟨cC0, cC1, fC, zC⟩ := own2 oC
  go_wp2_with fail
  refine (send_lit sy l h a k src he o d asn N1 E1 _ Hs1.out).mono ?_
  rintro e w2 ⟨rfl, hb⟩
  replace oS := oS.below hb
  replace oC := oC.below hb
  replace bel := belowTo bel hb (by exact bel.size)
  clear hb cS0 cS1 cS2 cS3 cS4 cS5 cS6 fS zS cC0 cC1 fC zC
  obtain ⟨cS0, cS1, cS2, cS3, cS4, cS5, cS6, fS, zS⟩ := own7 oS
  obtain ⟨cC0, cC1, fC, zC⟩ := own2 oC
  go_wp2_with fail
  refine (send_lit sy l h a k src he o d (asn + more) N2 E2 _ Hs2.out).mono ?_
  rintro e w3 ⟨rfl, hb⟩
  replace oS := oS.below hb
  replace oC := oC.below hb
  replace bel := belowTo bel hb (by exact bel.size)
  clear hb cS0 cS1 cS2 cS3 cS4 cS5 cS6 fS zS cC0 cC1 fC zC
  obtain ⟨cS0, cS1, cS2, cS3, cS4, cS5, cS6, fS, zS⟩ := own7 oS
  obtain ⟨cC0, cC1, fC, zC⟩ := own2 oC
  go_wp2_with fail
  all_goals
    have pS0 := fun x : Past w3 => (oS.past x).cell (i := 0) rfl
    have pS1 := fun x : Past w3 => (oS.past x).cell (i := 1) rfl
    have pS2 := fun x : Past w3 => (oS.past x).cell (i := 2) rfl
    have pS3 := fun x : Past w3 => (oS.past x).cell (i := 3) rfl
    have pS4 := fun x : Past w3 => (oS.past x).cell (i := 4) rfl
    have pS5 := fun x : Past w3 => (oS.past x).cell (i := 5) rfl
    have pS6 := fun x : Past w3 => (oS.past x).cell (i := 6) rfl
    refine wp_region_past (by kernel_rfl) (by kernel_rfl) ?_
    repeat (go_big_quiet_step ((go_at_call 7; exact calls_past (rown_lit sy l h a k src he asn O _ h1 h3 Hho.out))))
    refine wpQuiet_nil ?_
    rintro _ ⟨x, rfl⟩
    have bel2 := bel.trans (x.h.mono bel.size)
    go_wp2
    all_goals (go_ret; exact ⟨by first | rfl | simp_all, bel2⟩)

set_option linter.unusedVariables false in
set_option maxRecDepth 100000 in
set_option maxHeartbeats 4000000 in
theorem once_late_near (sy : Bool) (l h a k src he o d asn more N1 E1 N2 E2 : Int) (w : World) (h1 : 0 ≤ asn) (h2 : 0 ≤ more) (h3 : asn < 1000000000) (h4 : more < 1000000000 - asn) (s1 : gsN sy l h a k src he o d asn = N1 ∧ gsE sy l h a k src he o d asn = E1) (s2 : gsN sy l h a k src he o d (asn + more) = N2 ∧ gsE sy l h a k src he o d (asn + more) = E2) (e1 : (E1 == 16) = false) (e2 : (E2 == 0) = false) (e2n : (E2 != 0) = true) (hk : k ≤ 0) :
    Calls Try.prog 3 #[.agg #[.bool sy, .int .i64 l, .int .i64 h, .int .i64 a, .int .i64 k, .int .i64 src, .int .i64 he], .agg #[.int .i64 o, .int .i64 d], .int .i64 asn, .int .i64 more] w fun e w' => e = .returned (.bool true) ∧ Below w.heap.size w w' := by
  have Hs1 := Lib.hid s1
  clear s1
  have Hs2 := Lib.hid s2
  clear s2
  go_enter Try.func3, Try.ntmps3
  go_wp2_with fail
  refine (time17_any _).mono ?_
  rintro e w1 ⟨rfl, hb⟩
  have oS : Own w1 w.heap.size [.bool sy, .int .i64 l, .int .i64 h, .int .i64 a, .int .i64 k, .int .i64 src, .int .i64 he] 25 := ((own_at _ _ rfl).alloc _).below hb
  have oC : Own w1 (w.heap.size + 1) [.int .i64 o, .int .i64 d] 27 := (own_at _ _ (by simp)).below hb
  have bel := belowTo (((Below.refl w.heap.size w).alloc (by simp) _).alloc (by simp) _) hb (by simp; omega)
  clear hb 
  obtain ⟨cS0, cS1, cS2, cS3, cS4, cS5, cS6, fS, zS⟩ := own7 oS
  obtain ⟨cC0, cC1, fC, zC⟩ := own2 oC
  go_wp2_with fail
  refine (send_lit sy l h a k src he o d asn N1 E1 _ Hs1.out).mono ?_
  rintro e w2 ⟨rfl, hb⟩
  replace oS := oS.below hb
  replace oC := oC.below hb
  replace bel := belowTo bel hb (by exact bel.size)
  clear hb cS0 cS1 cS2 cS3 cS4 cS5 cS6 fS zS cC0 cC1 fC zC
  obtain ⟨cS0, cS1, cS2, cS3, cS4, cS5, cS6, fS, zS⟩ := own7 oS
  obtain ⟨cC0, cC1, fC, zC⟩ := own2 oC
  go_wp2_with fail
  refine (send_lit sy l h a k src he o d (asn + more) N2 E2 _ Hs2.out).mono ?_
  rintro e w3 ⟨rfl, hb⟩
  replace oS := oS.below hb
  replace oC := oC.below hb
  replace bel := belowTo bel hb (by exact bel.size)
  clear hb cS0 cS1 cS2 cS3 cS4 cS5 cS6 fS zS cC0 cC1 fC zC
  obtain ⟨cS0, cS1, cS2, cS3, cS4, cS5, cS6, fS, zS⟩ := own7 oS
  obtain ⟨cC0, cC1, fC, zC⟩ := own2 oC
  go_wp2_with fail
  all_goals
    have hd : decide (0 < k) = false := by simpa using hk
    go_quiet (fail)
    go_wp2
    go_ret
    exact ⟨by first | rfl | simp_all, (by repeat (first | exact bel | refine belowN ?_))⟩

set_option linter.unusedVariables false in
set_option maxRecDepth 100000 in
set_option maxHeartbeats 4000000 in
theorem once_late_far (sy : Bool) (l h a k src he o d asn more N1 E1 N2 E2 O : Int) (w : World) (h1 : 0 ≤ asn) (h2 : 0 ≤ more) (h3 : asn < 1000000000) (h4 : more < 1000000000 - asn) (s1 : gsN sy l h a k src he o d asn = N1 ∧ gsE sy l h a k src he o d asn = E1) (s2 : gsN sy l h a k src he o d (asn + more) = N2 ∧ gsE sy l h a k src he o d (asn + more) = E2) (e1 : (E1 == 16) = false) (e2 : (E2 == 0) = false) (e2n : (E2 != 0) = true) (hk : 0 < k) (ho : ownX k l h asn = O)  :
    Calls Try.prog 3 #[.agg #[.bool sy, .int .i64 l, .int .i64 h, .int .i64 a, .int .i64 k, .int .i64 src, .int .i64 he], .agg #[.int .i64 o, .int .i64 d], .int .i64 asn, .int .i64 more] w fun e w' => e = .returned (.bool true) ∧ Below w.heap.size w w' := by
  have Hs1 := Lib.hid s1
  clear s1
  have Hs2 := Lib.hid s2
  clear s2
  have Hho := Lib.hid ho
  clear ho
  go_enter Try.func3, Try.ntmps3
  go_wp2_with fail
  refine (time17_any _).mono ?_
  rintro e w1 ⟨rfl, hb⟩
  have oS : Own w1 w.heap.size [.bool sy, .int .i64 l, .int .i64 h, .int .i64 a, .int .i64 k, .int .i64 src, .int .i64 he] 25 := ((own_at _ _ rfl).alloc _).below hb
  have oC : Own w1 (w.heap.size + 1) [.int .i64 o, .int .i64 d] 27 := (own_at _ _ (by simp)).below hb
  have bel := belowTo (((Below.refl w.heap.size w).alloc (by simp) _).alloc (by simp) _) hb (by simp; omega)
  clear hb 
  obtain ⟨cS0, cS1, cS2, cS3, cS4, cS5, cS6, fS, zS⟩ := own7 oS
  obtain ⟨cC0, cC1, fC, zC⟩ := own2 oC
  go_wp2_with fail
  refine (send_lit sy l h a k src he o d asn N1 E1 _ Hs1.out).mono ?_
  rintro e w2 ⟨rfl, hb⟩
  replace oS := oS.below hb
  replace oC := oC.below hb
  replace bel := belowTo bel hb (by exact bel.size)
  clear hb cS0 cS1 cS2 cS3 cS4 cS5 cS6 fS zS cC0 cC1 fC zC
  obtain ⟨cS0, cS1, cS2, cS3, cS4, cS5, cS6, fS, zS⟩ := own7 oS
  obtain ⟨cC0, cC1, fC, zC⟩ := own2 oC
  go_wp2_with fail
  refine (send_lit sy l h a k src he o d (asn + more) N2 E2 _ Hs2.out).mono ?_
  rintro e w3 ⟨rfl, hb⟩
  replace oS := oS.below hb
  replace oC := oC.below hb
  replace bel := belowTo bel hb (by exact bel.size)
  clear hb cS0 cS1 cS2 cS3 cS4 cS5 cS6 fS zS cC0 cC1 fC zC
  obtain ⟨cS0, cS1, cS2, cS3, cS4, cS5, cS6, fS, zS⟩ := own7 oS
  obtain ⟨cC0, cC1, fC, zC⟩ := own2 oC
  go_wp2_with fail
  all_goals
    have pS0 := fun x : Past w3 => (oS.past x).cell (i := 0) rfl
    have pS1 := fun x : Past w3 => (oS.past x).cell (i := 1) rfl
    have pS2 := fun x : Past w3 => (oS.past x).cell (i := 2) rfl
    have pS3 := fun x : Past w3 => (oS.past x).cell (i := 3) rfl
    have pS4 := fun x : Past w3 => (oS.past x).cell (i := 4) rfl
    have pS5 := fun x : Past w3 => (oS.past x).cell (i := 5) rfl
    have pS6 := fun x : Past w3 => (oS.past x).cell (i := 6) rfl
    refine wp_region_past (by kernel_rfl) (by kernel_rfl) ?_
    repeat (go_big_quiet_step ((go_at_call 7; exact calls_past (rown_lit sy l h a k src he asn O _ h1 h3 Hho.out))))
    refine wpQuiet_nil ?_
    rintro _ ⟨x, rfl⟩
    have bel2 := bel.trans (x.h.mono bel.size)
    go_wp2
    all_goals (go_ret; exact ⟨by first | rfl | simp_all, bel2⟩)

set_option linter.unusedVariables false in
set_option maxRecDepth 100000 in
set_option maxHeartbeats 4000000 in
theorem once_both_near (sy : Bool) (l h a k src he o d asn more N1 E1 N2 E2 : Int) (w : World) (h1 : 0 ≤ asn) (h2 : 0 ≤ more) (h3 : asn < 1000000000) (h4 : more < 1000000000 - asn) (s1 : gsN sy l h a k src he o d asn = N1 ∧ gsE sy l h a k src he o d asn = E1) (s2 : gsN sy l h a k src he o d (asn + more) = N2 ∧ gsE sy l h a k src he o d (asn + more) = E2) (e1 : (E1 == 16) = false) (e2 : (E2 == 0) = true) (e2n : (E2 != 0) = false) (e3 : (E1 == 0) = true) (hk : k ≤ 0) :
    Calls Try.prog 3 #[.agg #[.bool sy, .int .i64 l, .int .i64 h, .int .i64 a, .int .i64 k, .int .i64 src, .int .i64 he], .agg #[.int .i64 o, .int .i64 d], .int .i64 asn, .int .i64 more] w fun e w' => e = .returned (.bool true) ∧ Below w.heap.size w w' := by
  have Hs1 := Lib.hid s1
  clear s1
  have Hs2 := Lib.hid s2
  clear s2
  go_enter Try.func3, Try.ntmps3
  go_wp2_with fail
  refine (time17_any _).mono ?_
  rintro e w1 ⟨rfl, hb⟩
  have oS : Own w1 w.heap.size [.bool sy, .int .i64 l, .int .i64 h, .int .i64 a, .int .i64 k, .int .i64 src, .int .i64 he] 25 := ((own_at _ _ rfl).alloc _).below hb
  have oC : Own w1 (w.heap.size + 1) [.int .i64 o, .int .i64 d] 27 := (own_at _ _ (by simp)).below hb
  have bel := belowTo (((Below.refl w.heap.size w).alloc (by simp) _).alloc (by simp) _) hb (by simp; omega)
  clear hb 
  obtain ⟨cS0, cS1, cS2, cS3, cS4, cS5, cS6, fS, zS⟩ := own7 oS
  obtain ⟨cC0, cC1, fC, zC⟩ := own2 oC
  go_wp2_with fail
  refine (send_lit sy l h a k src he o d asn N1 E1 _ Hs1.out).mono ?_
  rintro e w2 ⟨rfl, hb⟩
  replace oS := oS.below hb
  replace oC := oC.below hb
  replace bel := belowTo bel hb (by exact bel.size)
  clear hb cS0 cS1 cS2 cS3 cS4 cS5 cS6 fS zS cC0 cC1 fC zC
  obtain ⟨cS0, cS1, cS2, cS3, cS4, cS5, cS6, fS, zS⟩ := own7 oS
  obtain ⟨cC0, cC1, fC, zC⟩ := own2 oC
  go_wp2_with fail
  refine (send_lit sy l h a k src he o d (asn + more) N2 E2 _ Hs2.out).mono ?_
  rintro e w3 ⟨rfl, hb⟩
  replace oS := oS.below hb
  replace oC := oC.below hb
  replace bel := belowTo bel hb (by exact bel.size)
  clear hb cS0 cS1 cS2 cS3 cS4 cS5 cS6 fS zS cC0 cC1 fC zC
  obtain ⟨cS0, cS1, cS2, cS3, cS4, cS5, cS6, fS, zS⟩ := own7 oS
  obtain ⟨cC0, cC1, fC, zC⟩ := own2 oC
  go_wp2_with fail
  all_goals
    have hd : decide (0 < k) = false := by simpa using hk
    go_quiet (fail)
    go_wp2
    go_ret
    exact ⟨by first | rfl | simp_all, (by repeat (first | exact bel | refine belowN ?_))⟩

set_option linter.unusedVariables false in
set_option maxRecDepth 100000 in
set_option maxHeartbeats 4000000 in
theorem once_both_far (sy : Bool) (l h a k src he o d asn more N1 E1 N2 E2 O : Int) (w : World) (h1 : 0 ≤ asn) (h2 : 0 ≤ more) (h3 : asn < 1000000000) (h4 : more < 1000000000 - asn) (s1 : gsN sy l h a k src he o d asn = N1 ∧ gsE sy l h a k src he o d asn = E1) (s2 : gsN sy l h a k src he o d (asn + more) = N2 ∧ gsE sy l h a k src he o d (asn + more) = E2) (e1 : (E1 == 16) = false) (e2 : (E2 == 0) = true) (e2n : (E2 != 0) = false) (e3 : (E1 == 0) = true) (hk : 0 < k) (ho : ownX k l h asn = O)  :
    Calls Try.prog 3 #[.agg #[.bool sy, .int .i64 l, .int .i64 h, .int .i64 a, .int .i64 k, .int .i64 src, .int .i64 he], .agg #[.int .i64 o, .int .i64 d], .int .i64 asn, .int .i64 more] w fun e w' => e = .returned (.bool true) ∧ Below w.heap.size w w' := by
  have Hs1 := Lib.hid s1
  clear s1
  have Hs2 := Lib.hid s2
  clear s2
  have Hho := Lib.hid ho
  clear ho
  go_enter Try.func3, Try.ntmps3
  go_wp2_with fail
  refine (time17_any _).mono ?_
  rintro e w1 ⟨rfl, hb⟩
  have oS : Own w1 w.heap.size [.bool sy, .int .i64 l, .int .i64 h, .int .i64 a, .int .i64 k, .int .i64 src, .int .i64 he] 25 := ((own_at _ _ rfl).alloc _).below hb
  have oC : Own w1 (w.heap.size + 1) [.int .i64 o, .int .i64 d] 27 := (own_at _ _ (by simp)).below hb
  have bel := belowTo (((Below.refl w.heap.size w).alloc (by simp) _).alloc (by simp) _) hb (by simp; omega)
  clear hb 
  obtain ⟨cS0, cS1, cS2, cS3, cS4, cS5, cS6, fS, zS⟩ := own7 oS
  obtain ⟨cC0, cC1, fC, zC⟩ := own2 oC
  go_wp2_with fail
  refine (send_lit sy l h a k src he o d asn N1 E1 _ Hs1.out).mono ?_
  rintro e w2 ⟨rfl, hb⟩
  replace oS := oS.below hb
  replace oC := oC.below hb
  replace bel := belowTo bel hb (by exact bel.size)
  clear hb cS0 cS1 cS2 cS3 cS4 cS5 cS6 fS zS cC0 cC1 fC zC
  obtain ⟨cS0, cS1, cS2, cS3, cS4, cS5, cS6, fS, zS⟩ := own7 oS
  obtain ⟨cC0, cC1, fC, zC⟩ := own2 oC
  go_wp2_with fail
  refine (send_lit sy l h a k src he o d (asn + more) N2 E2 _ Hs2.out).mono ?_
  rintro e w3 ⟨rfl, hb⟩
  replace oS := oS.below hb
  replace oC := oC.below hb
  replace bel := belowTo bel hb (by exact bel.size)
  clear hb cS0 cS1 cS2 cS3 cS4 cS5 cS6 fS zS cC0 cC1 fC zC
  obtain ⟨cS0, cS1, cS2, cS3, cS4, cS5, cS6, fS, zS⟩ := own7 oS
  obtain ⟨cC0, cC1, fC, zC⟩ := own2 oC
  go_wp2_with fail
  all_goals
    have pS0 := fun x : Past w3 => (oS.past x).cell (i := 0) rfl
    have pS1 := fun x : Past w3 => (oS.past x).cell (i := 1) rfl
    have pS2 := fun x : Past w3 => (oS.past x).cell (i := 2) rfl
    have pS3 := fun x : Past w3 => (oS.past x).cell (i := 3) rfl
    have pS4 := fun x : Past w3 => (oS.past x).cell (i := 4) rfl
    have pS5 := fun x : Past w3 => (oS.past x).cell (i := 5) rfl
    have pS6 := fun x : Past w3 => (oS.past x).cell (i := 6) rfl
    refine wp_region_past (by kernel_rfl) (by kernel_rfl) ?_
    repeat (go_big_quiet_step ((go_at_call 7; exact calls_past (rown_lit sy l h a k src he asn O _ h1 h3 Hho.out))))
    refine wpQuiet_nil ?_
    rintro _ ⟨x, rfl⟩
    have bel2 := bel.trans (x.h.mono bel.size)
    go_wp2
    all_goals (go_ret; exact ⟨by first | rfl | simp_all, bel2⟩)

set_option linter.unusedVariables false in
set_option maxRecDepth 100000 in
set_option maxHeartbeats 4000000 in
theorem once_early' (sy : Bool) (l h a k src he o d asn more N1 E1 N2 E2 O : Int) (w : World) (h1 : 0 ≤ asn) (h2 : 0 ≤ more) (h3 : asn < 1000000000) (h4 : more < 1000000000 - asn) (s1 : gsN sy l h a k src he o d asn = N1 ∧ gsE sy l h a k src he o d asn = E1) (s2 : gsN sy l h a k src he o d (asn + more) = N2 ∧ gsE sy l h a k src he o d (asn + more) = E2) (e1 : (E1 == 16) = false) (e2 : (E2 == 0) = true) (e2n : (E2 != 0) = false) (hk : 0 < k) (ho : ownX k l h asn = O) (hlt : O < a) :
    Calls Try.prog 3 #[.agg #[.bool sy, .int .i64 l, .int .i64 h, .int .i64 a, .int .i64 k, .int .i64 src, .int .i64 he], .agg #[.int .i64 o, .int .i64 d], .int .i64 asn, .int .i64 more] w fun e w' => e = .returned (.bool true) ∧ Below w.heap.size w w' := by
  have Hs1 := Lib.hid s1
  clear s1
  have Hs2 := Lib.hid s2
  clear s2
  have Hho := Lib.hid ho
  clear ho
  go_enter Try.func3, Try.ntmps3
  go_wp2_with fail
  refine (time17_any _).mono ?_
  rintro e w1 ⟨rfl, hb⟩
  have oS : Own w1 w.heap.size [.bool sy, .int .i64 l, .int .i64 h, .int .i64 a, .int .i64 k, .int .i64 src, .int .i64 he] 25 := ((own_at _ _ rfl).alloc _).below hb
  have oC : Own w1 (w.heap.size + 1) [.int .i64 o, .int .i64 d] 27 := (own_at _ _ (by simp)).below hb
  have bel := belowTo (((Below.refl w.heap.size w).alloc (by simp) _).alloc (by simp) _) hb (by simp; omega)
  clear hb 
  obtain ⟨cS0, cS1, cS2, cS3, cS4, cS5, cS6, fS, zS⟩ := own7 oS
  obtain ⟨cC0, cC1, fC, zC⟩ := own2 oC
  go_wp2_with fail
  refine (send_lit sy l h a k src he o d asn N1 E1 _ Hs1.out).mono ?_
  rintro e w2 ⟨rfl, hb⟩
  replace oS := oS.below hb
  replace oC := oC.below hb
  replace bel := belowTo bel hb (by exact bel.size)
  clear hb cS0 cS1 cS2 cS3 cS4 cS5 cS6 fS zS cC0 cC1 fC zC
  obtain ⟨cS0, cS1, cS2, cS3, cS4, cS5, cS6, fS, zS⟩ := own7 oS
  obtain ⟨cC0, cC1, fC, zC⟩ := own2 oC
  go_wp2_with fail
  refine (send_lit sy l h a k src he o d (asn + more) N2 E2 _ Hs2.out).mono ?_
  rintro e w3 ⟨rfl, hb⟩
  replace oS := oS.below hb
  replace oC := oC.below hb
  replace bel := belowTo bel hb (by exact bel.size)
  clear hb cS0 cS1 cS2 cS3 cS4 cS5 cS6 fS zS cC0 cC1 fC zC
  obtain ⟨cS0, cS1, cS2, cS3, cS4, cS5, cS6, fS, zS⟩ := own7 oS
  obtain ⟨cC0, cC1, fC, zC⟩ := own2 oC
  go_wp2_with fail
  all_goals
    have pS0 := fun x : Past w3 => (oS.past x).cell (i := 0) rfl
    have pS1 := fun x : Past w3 => (oS.past x).cell (i := 1) rfl
    have pS2 := fun x : Past w3 => (oS.past x).cell (i := 2) rfl
    have pS3 := fun x : Past w3 => (oS.past x).cell (i := 3) rfl
    have pS4 := fun x : Past w3 => (oS.past x).cell (i := 4) rfl
    have pS5 := fun x : Past w3 => (oS.past x).cell (i := 5) rfl
    have pS6 := fun x : Past w3 => (oS.past x).cell (i := 6) rfl
    refine wp_region_past (by kernel_rfl) (by kernel_rfl) ?_
    repeat (go_big_quiet_step ((go_at_call 7; exact calls_past (rown_lit sy l h a k src he asn O _ h1 h3 Hho.out))))
    refine wpQuiet_nil ?_
    rintro _ ⟨x, rfl⟩
    have bel2 := bel.trans (x.h.mono bel.size)
    go_wp2
    all_goals (go_ret; exact ⟨by first | rfl | simp_all, bel2⟩)

theorem topOnceSilent_walk (sy : Bool) (l h a k src he o d asn more : Int) (w : World) (_1 : IntKind.i64.has l) (_2 : IntKind.i64.has h) (_3 : IntKind.i64.has a) (_4 : IntKind.i64.has k) (_5 : IntKind.i64.has src) (_6 : IntKind.i64.has he) (_7 : IntKind.i64.has o) (_8 : IntKind.i64.has d) (_9 : IntKind.i64.has asn) (_10 : IntKind.i64.has more) :
    Calls Try.prog 3 #[.agg #[.bool sy, .int .i64 l, .int .i64 h, .int .i64 a, .int .i64 k, .int .i64 src, .int .i64 he], .agg #[.int .i64 o, .int .i64 d], .int .i64 asn, .int .i64 more] w fun e w' => e = .returned (.bool true) ∧ Below w.heap.size w w' := by
  by_cases q : 0 ≤ asn ∧ 0 ≤ more ∧ asn < 1000000000 ∧ more < 1000000000 - asn
  · obtain ⟨h1, h2, h3, h4⟩ := q
    by_cases f : gsE sy l h a k src he o d (asn + more) = 0
    · have n16 : gsE sy l h a k src he o d asn ≠ 16 := fun x => once_silent h2 x f
      by_cases ea : 0 < k ∧ ownX k l h asn < a
      · exact once_early' sy l h a k src he o d asn more _ _ _ _ _ w h1 h2 h3 h4 ⟨rfl, rfl⟩ ⟨rfl, f⟩ (by simpa using n16) (by decide) (by decide) ea.1 rfl ea.2
      · have e0 : gsE sy l h a k src he o d asn = 0 := by
          refine once_early h2 h1 f ?_
          obtain ⟨_, _, v, s, _, _⟩ := gs_zero f
          rw [← ownX_vld v s h1 h3]; exact ea
        by_cases hk : 0 < k
        · exact once_both_far sy l h a k src he o d asn more _ 0 _ 0 _ w h1 h2 h3 h4 ⟨rfl, e0⟩ ⟨rfl, f⟩ (by decide) (by decide) (by decide) (by decide) hk rfl
        · exact once_both_near sy l h a k src he o d asn more _ 0 _ 0 w h1 h2 h3 h4 ⟨rfl, e0⟩ ⟨rfl, f⟩ (by decide) (by decide) (by decide) (by decide) (by omega)
    · by_cases g : gsE sy l h a k src he o d asn = 16
      · by_cases hk : 0 < k
        · exact once_time_far sy l h a k src he o d asn more _ _ _ _ _ w h1 h2 h3 h4 ⟨rfl, rfl⟩ ⟨rfl, rfl⟩ (by simpa using g) (by simpa using f) (by simpa using f) hk rfl
        · exact once_time_near sy l h a k src he o d asn more _ _ _ _ w h1 h2 h3 h4 ⟨rfl, rfl⟩ ⟨rfl, rfl⟩ (by simpa using g) (by simpa using f) (by simpa using f) (by omega)
      · by_cases hk : 0 < k
        · exact once_late_far sy l h a k src he o d asn more _ _ _ _ _ w h1 h2 h3 h4 ⟨rfl, rfl⟩ ⟨rfl, rfl⟩ (by simpa using g) (by simpa using f) (by simpa using f) hk rfl
        · exact once_late_near sy l h a k src he o d asn more _ _ _ _ w h1 h2 h3 h4 ⟨rfl, rfl⟩ ⟨rfl, rfl⟩ (by simpa using g) (by simpa using f) (by simpa using f) (by omega)
  · exact once_out sy l h a k src he o d asn more w (by omega)

end Go.Proofs.Ythnilgmafbkdkaa

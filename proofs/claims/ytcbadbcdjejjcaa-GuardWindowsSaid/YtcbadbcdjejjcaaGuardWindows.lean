/- GuardWindows: the walk of the law. It returns true for every input, and leaves old memory alone. -/
import Derived.Test.YtcbadbcdjejjcaaHead10
namespace Go.Proofs.Ytcbadbcdjejjcaa
open Go.RowKit

set_option linter.unusedVariables false in
set_option maxRecDepth 100000 in
set_option maxHeartbeats 4000000 in
theorem guardWindows_err (sy : Bool) (l h a k src he o d asn more E : Int) (w : World) (t : lsL sy l h a k src he o d asn = 0 ∧ lsH sy l h a k src he o d asn = 0 ∧ gsE sy l h a k src he o d asn = E) (e : (E == 0) = false) (en : (E != 0) = true) :
    Calls Try.prog 7 #[.agg #[.bool sy, .int .i64 l, .int .i64 h, .int .i64 a, .int .i64 k, .int .i64 src, .int .i64 he], .agg #[.int .i64 o, .int .i64 d], .int .i64 asn, .int .i64 more] w fun e w' => e = .returned (.bool true) ∧ Below w.heap.size w w' := by
  have Ht := Lib.hid t
  clear t
  go_enter Try.func7, Try.ntmps7
  go_wp2_with fail
  refine (head_any _).mono ?_
  rintro e w1 ⟨rfl, hb⟩
  have oS : Own w1 w.heap.size [.bool sy, .int .i64 l, .int .i64 h, .int .i64 a, .int .i64 k, .int .i64 src, .int .i64 he] 25 := ((own_at _ _ rfl).alloc _).below hb
  have oC : Own w1 (w.heap.size + 1) [.int .i64 o, .int .i64 d] 27 := (own_at _ _ (by simp)).below hb
  have bel := belowTo (((Below.refl w.heap.size w).alloc (by simp) _).alloc (by simp) _) hb (by simp; omega)
  clear hb 
  obtain ⟨cS0, cS1, cS2, cS3, cS4, cS5, cS6, fS, zS⟩ := own7 oS
  obtain ⟨cC0, cC1, fC, zC⟩ := own2 oC
  go_wp2_with fail
  refine (listen_lit sy l h a k src he o d asn 0 0 E _ Ht.out).mono ?_
  rintro e w2 ⟨rfl, hb⟩
  replace oS := oS.below hb
  replace oC := oC.below hb
  replace bel := belowTo bel hb (by exact bel.size)
  clear hb cS0 cS1 cS2 cS3 cS4 cS5 cS6 fS zS cC0 cC1 fC zC
  obtain ⟨cS0, cS1, cS2, cS3, cS4, cS5, cS6, fS, zS⟩ := own7 oS
  obtain ⟨cC0, cC1, fC, zC⟩ := own2 oC
  go_wp2_with fail
  have oX : Own (w2.alloc (Obj.cells #[.int .i64 0, .int .i64 0] 29)) w2.heap.size [.int .i64 0, .int .i64 0] 29 := own_at _ _ rfl
  replace oS := oS.alloc (Obj.cells #[.int .i64 0, .int .i64 0] 29)
  replace oC := oC.alloc (Obj.cells #[.int .i64 0, .int .i64 0] 29)
  replace bel := bel.alloc bel.size (Obj.cells #[.int .i64 0, .int .i64 0] 29)
  clear cS0 cS1 cS2 cS3 cS4 cS5 cS6 fS zS cC0 cC1 fC zC
  generalize w2.alloc (Obj.cells #[.int .i64 0, .int .i64 0] 29) = w3 at oS oC oX bel ⊢
  obtain ⟨cS0, cS1, cS2, cS3, cS4, cS5, cS6, fS, zS⟩ := own7 oS
  obtain ⟨cC0, cC1, fC, zC⟩ := own2 oC
  obtain ⟨cX0, cX1, fX, zX⟩ := own2 oX
  go_wp2
  all_goals (go_ret; exact ⟨by first | rfl | simp_all, (by repeat (first | exact bel | refine Below.alloc ?_ (by have := bel.size; simp; omega) _))⟩)

set_option linter.unusedVariables false in
set_option maxRecDepth 100000 in
set_option maxHeartbeats 4000000 in
theorem guardWindows_neg (sy : Bool) (l h a k src he o d asn more X Y N O B : Int) (w : World) (q1 : 0 ≤ asn) (q2 : asn < 1000000000) (t : lsL sy l h a k src he o d asn = X ∧ lsH sy l h a k src he o d asn = Y ∧ gsE sy l h a k src he o d asn = 0) (s : gsN sy l h a k src he o d asn = N ∧ gsE sy l h a k src he o d asn = 0) (x : ownX k l h asn = O) (b : bdN sy l h a k src he O = B ∧ bdE sy l h a k src he O = 0) (b1 : 0 ≤ B) (b2 : B ≤ 2000) (b3 : -50000000000000 ≤ X) (b4 : X ≤ 50000000000000) (b5 : -50000000000000 ≤ Y) (b6 : Y ≤ 50000000000000) (b7 : -50000000000000 ≤ N) (b8 : N ≤ 50000000000000) (e1 : (X + Y == 2 * N) = true) (e2 : (Y - X == 4008 + 2 * B) = true) (m1 : more < 0) :
    Calls Try.prog 7 #[.agg #[.bool sy, .int .i64 l, .int .i64 h, .int .i64 a, .int .i64 k, .int .i64 src, .int .i64 he], .agg #[.int .i64 o, .int .i64 d], .int .i64 asn, .int .i64 more] w fun e w' => e = .returned (.bool true) ∧ Below w.heap.size w w' := by
  have Ht := Lib.hid t
  clear t
  have Hs := Lib.hid s
  clear s
  have Hx := Lib.hid x
  clear x
  have Hb := Lib.hid b
  clear b
  go_enter Try.func7, Try.ntmps7
  go_wp2_with fail
  refine (head_any _).mono ?_
  rintro e w1 ⟨rfl, hb⟩
  have oS : Own w1 w.heap.size [.bool sy, .int .i64 l, .int .i64 h, .int .i64 a, .int .i64 k, .int .i64 src, .int .i64 he] 25 := ((own_at _ _ rfl).alloc _).below hb
  have oC : Own w1 (w.heap.size + 1) [.int .i64 o, .int .i64 d] 27 := (own_at _ _ (by simp)).below hb
  have bel := belowTo (((Below.refl w.heap.size w).alloc (by simp) _).alloc (by simp) _) hb (by simp; omega)
  clear hb 
  obtain ⟨cS0, cS1, cS2, cS3, cS4, cS5, cS6, fS, zS⟩ := own7 oS
  obtain ⟨cC0, cC1, fC, zC⟩ := own2 oC
  go_wp2_with fail
  refine (listen_lit sy l h a k src he o d asn X Y 0 _ Ht.out).mono ?_
  rintro e w2 ⟨rfl, hb⟩
  replace oS := oS.below hb
  replace oC := oC.below hb
  replace bel := belowTo bel hb (by exact bel.size)
  clear hb cS0 cS1 cS2 cS3 cS4 cS5 cS6 fS zS cC0 cC1 fC zC
  obtain ⟨cS0, cS1, cS2, cS3, cS4, cS5, cS6, fS, zS⟩ := own7 oS
  obtain ⟨cC0, cC1, fC, zC⟩ := own2 oC
  go_wp2_with fail
  refine (send_lit sy l h a k src he o d asn N 0 _ Hs.out).mono ?_
  rintro e w3 ⟨rfl, hb⟩
  replace oS := (oS.alloc _).below hb
  replace oC := (oC.alloc _).below hb
  have oX : Own w3 w2.heap.size [.int .i64 X, .int .i64 Y] 29 := (own_at _ _ rfl).below hb
  replace bel := belowTo (bel.alloc (by have := bel.size; simp; omega) _) hb (by have := bel.size; simp; omega)
  clear hb cS0 cS1 cS2 cS3 cS4 cS5 cS6 fS zS cC0 cC1 fC zC
  obtain ⟨cS0, cS1, cS2, cS3, cS4, cS5, cS6, fS, zS⟩ := own7 oS
  obtain ⟨cC0, cC1, fC, zC⟩ := own2 oC
  obtain ⟨cX0, cX1, fX, zX⟩ := own2 oX
  go_wp2_with fail
  have pS0 := fun x : Past w3 => (oS.past x).cell (i := 0) rfl
  have pS1 := fun x : Past w3 => (oS.past x).cell (i := 1) rfl
  have pS2 := fun x : Past w3 => (oS.past x).cell (i := 2) rfl
  have pS3 := fun x : Past w3 => (oS.past x).cell (i := 3) rfl
  have pS4 := fun x : Past w3 => (oS.past x).cell (i := 4) rfl
  have pS5 := fun x : Past w3 => (oS.past x).cell (i := 5) rfl
  have pS6 := fun x : Past w3 => (oS.past x).cell (i := 6) rfl
  refine wp_region_past (by kernel_rfl) (by kernel_rfl) ?_
  repeat (go_big_quiet_step ((first | (go_at_call 19; exact calls_past (rown_lit sy l h a k src he asn O _ q1 q2 Hx.out)) | (go_at_call 18; exact calls_past (tbound_lit sy l h a k src he O B 0 _ Hb.out)))))
  refine wpQuiet_nil ?_
  rintro _ ⟨x, rfl⟩
  replace bel : Below w.heap.size w (past w3 x) := bel.trans (x.h.mono bel.size)
  clear pS0 pS1 pS2 pS3 pS4 pS5 pS6
  clear cS0 cS1 cS2 cS3 cS4 cS5 cS6 fS zS cC0 cC1 fC zC cX0 cX1 fX zX
  replace oS := oS.past x
  replace oC := oC.past x
  replace oX := oX.past x
  generalize past w3 x = w4 at oS oC oX bel ⊢
  obtain ⟨cS0, cS1, cS2, cS3, cS4, cS5, cS6, fS, zS⟩ := own7 oS
  obtain ⟨cC0, cC1, fC, zC⟩ := own2 oC
  obtain ⟨cX0, cX1, fX, zX⟩ := own2 oX
  go_wp2
  all_goals (go_ret; exact ⟨by first | rfl | simp_all, (by repeat (first | exact bel | refine Below.alloc ?_ (by have := bel.size; simp; omega) _))⟩)

set_option linter.unusedVariables false in
set_option maxRecDepth 100000 in
set_option maxHeartbeats 4000000 in
theorem guardWindows_far (sy : Bool) (l h a k src he o d asn more X Y N O B : Int) (w : World) (q1 : 0 ≤ asn) (q2 : asn < 1000000000) (t : lsL sy l h a k src he o d asn = X ∧ lsH sy l h a k src he o d asn = Y ∧ gsE sy l h a k src he o d asn = 0) (s : gsN sy l h a k src he o d asn = N ∧ gsE sy l h a k src he o d asn = 0) (x : ownX k l h asn = O) (b : bdN sy l h a k src he O = B ∧ bdE sy l h a k src he O = 0) (b1 : 0 ≤ B) (b2 : B ≤ 2000) (b3 : -50000000000000 ≤ X) (b4 : X ≤ 50000000000000) (b5 : -50000000000000 ≤ Y) (b6 : Y ≤ 50000000000000) (b7 : -50000000000000 ≤ N) (b8 : N ≤ 50000000000000) (e1 : (X + Y == 2 * N) = true) (e2 : (Y - X == 4008 + 2 * B) = true) (m1 : 0 ≤ more) (m2 : 1000000000 - asn < more) :
    Calls Try.prog 7 #[.agg #[.bool sy, .int .i64 l, .int .i64 h, .int .i64 a, .int .i64 k, .int .i64 src, .int .i64 he], .agg #[.int .i64 o, .int .i64 d], .int .i64 asn, .int .i64 more] w fun e w' => e = .returned (.bool true) ∧ Below w.heap.size w w' := by
  have Ht := Lib.hid t
  clear t
  have Hs := Lib.hid s
  clear s
  have Hx := Lib.hid x
  clear x
  have Hb := Lib.hid b
  clear b
  go_enter Try.func7, Try.ntmps7
  go_wp2_with fail
  refine (head_any _).mono ?_
  rintro e w1 ⟨rfl, hb⟩
  have oS : Own w1 w.heap.size [.bool sy, .int .i64 l, .int .i64 h, .int .i64 a, .int .i64 k, .int .i64 src, .int .i64 he] 25 := ((own_at _ _ rfl).alloc _).below hb
  have oC : Own w1 (w.heap.size + 1) [.int .i64 o, .int .i64 d] 27 := (own_at _ _ (by simp)).below hb
  have bel := belowTo (((Below.refl w.heap.size w).alloc (by simp) _).alloc (by simp) _) hb (by simp; omega)
  clear hb 
  obtain ⟨cS0, cS1, cS2, cS3, cS4, cS5, cS6, fS, zS⟩ := own7 oS
  obtain ⟨cC0, cC1, fC, zC⟩ := own2 oC
  go_wp2_with fail
  refine (listen_lit sy l h a k src he o d asn X Y 0 _ Ht.out).mono ?_
  rintro e w2 ⟨rfl, hb⟩
  replace oS := oS.below hb
  replace oC := oC.below hb
  replace bel := belowTo bel hb (by exact bel.size)
  clear hb cS0 cS1 cS2 cS3 cS4 cS5 cS6 fS zS cC0 cC1 fC zC
  obtain ⟨cS0, cS1, cS2, cS3, cS4, cS5, cS6, fS, zS⟩ := own7 oS
  obtain ⟨cC0, cC1, fC, zC⟩ := own2 oC
  go_wp2_with fail
  refine (send_lit sy l h a k src he o d asn N 0 _ Hs.out).mono ?_
  rintro e w3 ⟨rfl, hb⟩
  replace oS := (oS.alloc _).below hb
  replace oC := (oC.alloc _).below hb
  have oX : Own w3 w2.heap.size [.int .i64 X, .int .i64 Y] 29 := (own_at _ _ rfl).below hb
  replace bel := belowTo (bel.alloc (by have := bel.size; simp; omega) _) hb (by have := bel.size; simp; omega)
  clear hb cS0 cS1 cS2 cS3 cS4 cS5 cS6 fS zS cC0 cC1 fC zC
  obtain ⟨cS0, cS1, cS2, cS3, cS4, cS5, cS6, fS, zS⟩ := own7 oS
  obtain ⟨cC0, cC1, fC, zC⟩ := own2 oC
  obtain ⟨cX0, cX1, fX, zX⟩ := own2 oX
  go_wp2_with fail
  have pS0 := fun x : Past w3 => (oS.past x).cell (i := 0) rfl
  have pS1 := fun x : Past w3 => (oS.past x).cell (i := 1) rfl
  have pS2 := fun x : Past w3 => (oS.past x).cell (i := 2) rfl
  have pS3 := fun x : Past w3 => (oS.past x).cell (i := 3) rfl
  have pS4 := fun x : Past w3 => (oS.past x).cell (i := 4) rfl
  have pS5 := fun x : Past w3 => (oS.past x).cell (i := 5) rfl
  have pS6 := fun x : Past w3 => (oS.past x).cell (i := 6) rfl
  refine wp_region_past (by kernel_rfl) (by kernel_rfl) ?_
  repeat (go_big_quiet_step ((first | (go_at_call 19; exact calls_past (rown_lit sy l h a k src he asn O _ q1 q2 Hx.out)) | (go_at_call 18; exact calls_past (tbound_lit sy l h a k src he O B 0 _ Hb.out)))))
  refine wpQuiet_nil ?_
  rintro _ ⟨x, rfl⟩
  replace bel : Below w.heap.size w (past w3 x) := bel.trans (x.h.mono bel.size)
  clear pS0 pS1 pS2 pS3 pS4 pS5 pS6
  clear cS0 cS1 cS2 cS3 cS4 cS5 cS6 fS zS cC0 cC1 fC zC cX0 cX1 fX zX
  replace oS := oS.past x
  replace oC := oC.past x
  replace oX := oX.past x
  generalize past w3 x = w4 at oS oC oX bel ⊢
  obtain ⟨cS0, cS1, cS2, cS3, cS4, cS5, cS6, fS, zS⟩ := own7 oS
  obtain ⟨cC0, cC1, fC, zC⟩ := own2 oC
  obtain ⟨cX0, cX1, fX, zX⟩ := own2 oX
  go_wp2
  all_goals (go_ret; exact ⟨by first | rfl | simp_all, (by repeat (first | exact bel | refine Below.alloc ?_ (by have := bel.size; simp; omega) _))⟩)

set_option linter.unusedVariables false in
set_option maxRecDepth 100000 in
set_option maxHeartbeats 4000000 in
theorem guardWindows_later (sy : Bool) (l h a k src he o d asn more X Y N O B Z U F : Int) (w : World) (q1 : 0 ≤ asn) (q2 : asn < 1000000000) (t : lsL sy l h a k src he o d asn = X ∧ lsH sy l h a k src he o d asn = Y ∧ gsE sy l h a k src he o d asn = 0) (s : gsN sy l h a k src he o d asn = N ∧ gsE sy l h a k src he o d asn = 0) (x : ownX k l h asn = O) (b : bdN sy l h a k src he O = B ∧ bdE sy l h a k src he O = 0) (b1 : 0 ≤ B) (b2 : B ≤ 2000) (b3 : -50000000000000 ≤ X) (b4 : X ≤ 50000000000000) (b5 : -50000000000000 ≤ Y) (b6 : Y ≤ 50000000000000) (b7 : -50000000000000 ≤ N) (b8 : N ≤ 50000000000000) (e1 : (X + Y == 2 * N) = true) (e2 : (Y - X == 4008 + 2 * B) = true) (m1 : 0 ≤ more) (m2 : more ≤ 1000000000 - asn) (t2 : lsL sy l h a k src he o d (asn + more) = Z ∧ lsH sy l h a k src he o d (asn + more) = U ∧ gsE sy l h a k src he o d (asn + more) = F) (Fb : (F == 0) = false) (Fn : (F != 0) = true)  :
    Calls Try.prog 7 #[.agg #[.bool sy, .int .i64 l, .int .i64 h, .int .i64 a, .int .i64 k, .int .i64 src, .int .i64 he], .agg #[.int .i64 o, .int .i64 d], .int .i64 asn, .int .i64 more] w fun e w' => e = .returned (.bool true) ∧ Below w.heap.size w w' := by
  have Ht := Lib.hid t
  clear t
  have Hs := Lib.hid s
  clear s
  have Hx := Lib.hid x
  clear x
  have Hb := Lib.hid b
  clear b
  have Ht2 := Lib.hid t2
  clear t2
  go_enter Try.func7, Try.ntmps7
  go_wp2_with fail
  refine (head_any _).mono ?_
  rintro e w1 ⟨rfl, hb⟩
  have oS : Own w1 w.heap.size [.bool sy, .int .i64 l, .int .i64 h, .int .i64 a, .int .i64 k, .int .i64 src, .int .i64 he] 25 := ((own_at _ _ rfl).alloc _).below hb
  have oC : Own w1 (w.heap.size + 1) [.int .i64 o, .int .i64 d] 27 := (own_at _ _ (by simp)).below hb
  have bel := belowTo (((Below.refl w.heap.size w).alloc (by simp) _).alloc (by simp) _) hb (by simp; omega)
  clear hb 
  obtain ⟨cS0, cS1, cS2, cS3, cS4, cS5, cS6, fS, zS⟩ := own7 oS
  obtain ⟨cC0, cC1, fC, zC⟩ := own2 oC
  go_wp2_with fail
  refine (listen_lit sy l h a k src he o d asn X Y 0 _ Ht.out).mono ?_
  rintro e w2 ⟨rfl, hb⟩
  replace oS := oS.below hb
  replace oC := oC.below hb
  replace bel := belowTo bel hb (by exact bel.size)
  clear hb cS0 cS1 cS2 cS3 cS4 cS5 cS6 fS zS cC0 cC1 fC zC
  obtain ⟨cS0, cS1, cS2, cS3, cS4, cS5, cS6, fS, zS⟩ := own7 oS
  obtain ⟨cC0, cC1, fC, zC⟩ := own2 oC
  go_wp2_with fail
  refine (send_lit sy l h a k src he o d asn N 0 _ Hs.out).mono ?_
  rintro e w3 ⟨rfl, hb⟩
  replace oS := (oS.alloc _).below hb
  replace oC := (oC.alloc _).below hb
  have oX : Own w3 w2.heap.size [.int .i64 X, .int .i64 Y] 29 := (own_at _ _ rfl).below hb
  replace bel := belowTo (bel.alloc (by have := bel.size; simp; omega) _) hb (by have := bel.size; simp; omega)
  clear hb cS0 cS1 cS2 cS3 cS4 cS5 cS6 fS zS cC0 cC1 fC zC
  obtain ⟨cS0, cS1, cS2, cS3, cS4, cS5, cS6, fS, zS⟩ := own7 oS
  obtain ⟨cC0, cC1, fC, zC⟩ := own2 oC
  obtain ⟨cX0, cX1, fX, zX⟩ := own2 oX
  go_wp2_with fail
  have pS0 := fun x : Past w3 => (oS.past x).cell (i := 0) rfl
  have pS1 := fun x : Past w3 => (oS.past x).cell (i := 1) rfl
  have pS2 := fun x : Past w3 => (oS.past x).cell (i := 2) rfl
  have pS3 := fun x : Past w3 => (oS.past x).cell (i := 3) rfl
  have pS4 := fun x : Past w3 => (oS.past x).cell (i := 4) rfl
  have pS5 := fun x : Past w3 => (oS.past x).cell (i := 5) rfl
  have pS6 := fun x : Past w3 => (oS.past x).cell (i := 6) rfl
  refine wp_region_past (by kernel_rfl) (by kernel_rfl) ?_
  repeat (go_big_quiet_step ((first | (go_at_call 19; exact calls_past (rown_lit sy l h a k src he asn O _ q1 q2 Hx.out)) | (go_at_call 18; exact calls_past (tbound_lit sy l h a k src he O B 0 _ Hb.out)))))
  refine wpQuiet_nil ?_
  rintro _ ⟨x, rfl⟩
  replace bel : Below w.heap.size w (past w3 x) := bel.trans (x.h.mono bel.size)
  clear pS0 pS1 pS2 pS3 pS4 pS5 pS6
  clear cS0 cS1 cS2 cS3 cS4 cS5 cS6 fS zS cC0 cC1 fC zC cX0 cX1 fX zX
  replace oS := oS.past x
  replace oC := oC.past x
  replace oX := oX.past x
  generalize past w3 x = w4 at oS oC oX bel ⊢
  obtain ⟨cS0, cS1, cS2, cS3, cS4, cS5, cS6, fS, zS⟩ := own7 oS
  obtain ⟨cC0, cC1, fC, zC⟩ := own2 oC
  obtain ⟨cX0, cX1, fX, zX⟩ := own2 oX
  go_wp2_with fail
  refine (listen_lit sy l h a k src he o d (asn + more) Z U F _ Ht2.out).mono ?_
  rintro e w5 ⟨rfl, hb⟩
  replace oS := oS.below hb
  replace oC := oC.below hb
  replace oX := oX.below hb
  replace bel := belowTo bel hb (by exact bel.size)
  clear hb cS0 cS1 cS2 cS3 cS4 cS5 cS6 fS zS cC0 cC1 fC zC cX0 cX1 fX zX
  obtain ⟨cS0, cS1, cS2, cS3, cS4, cS5, cS6, fS, zS⟩ := own7 oS
  obtain ⟨cC0, cC1, fC, zC⟩ := own2 oC
  obtain ⟨cX0, cX1, fX, zX⟩ := own2 oX
  go_wp2_with fail
  have oY : Own (w5.alloc (Obj.cells #[.int .i64 Z, .int .i64 U] 29)) w5.heap.size [.int .i64 Z, .int .i64 U] 29 := own_at _ _ rfl
  replace oS := oS.alloc (Obj.cells #[.int .i64 Z, .int .i64 U] 29)
  replace oC := oC.alloc (Obj.cells #[.int .i64 Z, .int .i64 U] 29)
  replace oX := oX.alloc (Obj.cells #[.int .i64 Z, .int .i64 U] 29)
  replace bel := bel.alloc bel.size (Obj.cells #[.int .i64 Z, .int .i64 U] 29)
  clear cS0 cS1 cS2 cS3 cS4 cS5 cS6 fS zS cC0 cC1 fC zC cX0 cX1 fX zX
  generalize w5.alloc (Obj.cells #[.int .i64 Z, .int .i64 U] 29) = w6 at oS oC oX oY bel ⊢
  obtain ⟨cS0, cS1, cS2, cS3, cS4, cS5, cS6, fS, zS⟩ := own7 oS
  obtain ⟨cC0, cC1, fC, zC⟩ := own2 oC
  obtain ⟨cX0, cX1, fX, zX⟩ := own2 oX
  obtain ⟨cY0, cY1, fY, zY⟩ := own2 oY
  go_wp2
  all_goals (go_ret; exact ⟨by first | rfl | simp_all, (by repeat (first | exact bel | refine Below.alloc ?_ (by have := bel.size; simp; omega) _))⟩)

set_option linter.unusedVariables false in
set_option maxRecDepth 100000 in
set_option maxHeartbeats 4000000 in
theorem guardWindows_ok (sy : Bool) (l h a k src he o d asn more X Y N O B Z U : Int) (w : World) (q1 : 0 ≤ asn) (q2 : asn < 1000000000) (t : lsL sy l h a k src he o d asn = X ∧ lsH sy l h a k src he o d asn = Y ∧ gsE sy l h a k src he o d asn = 0) (s : gsN sy l h a k src he o d asn = N ∧ gsE sy l h a k src he o d asn = 0) (x : ownX k l h asn = O) (b : bdN sy l h a k src he O = B ∧ bdE sy l h a k src he O = 0) (b1 : 0 ≤ B) (b2 : B ≤ 2000) (b3 : -50000000000000 ≤ X) (b4 : X ≤ 50000000000000) (b5 : -50000000000000 ≤ Y) (b6 : Y ≤ 50000000000000) (b7 : -50000000000000 ≤ N) (b8 : N ≤ 50000000000000) (e1 : (X + Y == 2 * N) = true) (e2 : (Y - X == 4008 + 2 * B) = true) (m1 : 0 ≤ more) (m2 : more ≤ 1000000000 - asn) (t2 : lsL sy l h a k src he o d (asn + more) = Z ∧ lsH sy l h a k src he o d (asn + more) = U ∧ gsE sy l h a k src he o d (asn + more) = 0) (c1 : -50000000000000 ≤ Z) (c2 : Z ≤ 50000000000000) (c3 : -50000000000000 ≤ U) (c4 : U ≤ 50000000000000) (c5 : Y - X ≤ U - Z) :
    Calls Try.prog 7 #[.agg #[.bool sy, .int .i64 l, .int .i64 h, .int .i64 a, .int .i64 k, .int .i64 src, .int .i64 he], .agg #[.int .i64 o, .int .i64 d], .int .i64 asn, .int .i64 more] w fun e w' => e = .returned (.bool true) ∧ Below w.heap.size w w' := by
  have Ht := Lib.hid t
  clear t
  have Hs := Lib.hid s
  clear s
  have Hx := Lib.hid x
  clear x
  have Hb := Lib.hid b
  clear b
  have Ht2 := Lib.hid t2
  clear t2
  go_enter Try.func7, Try.ntmps7
  go_wp2_with fail
  refine (head_any _).mono ?_
  rintro e w1 ⟨rfl, hb⟩
  have oS : Own w1 w.heap.size [.bool sy, .int .i64 l, .int .i64 h, .int .i64 a, .int .i64 k, .int .i64 src, .int .i64 he] 25 := ((own_at _ _ rfl).alloc _).below hb
  have oC : Own w1 (w.heap.size + 1) [.int .i64 o, .int .i64 d] 27 := (own_at _ _ (by simp)).below hb
  have bel := belowTo (((Below.refl w.heap.size w).alloc (by simp) _).alloc (by simp) _) hb (by simp; omega)
  clear hb 
  obtain ⟨cS0, cS1, cS2, cS3, cS4, cS5, cS6, fS, zS⟩ := own7 oS
  obtain ⟨cC0, cC1, fC, zC⟩ := own2 oC
  go_wp2_with fail
  refine (listen_lit sy l h a k src he o d asn X Y 0 _ Ht.out).mono ?_
  rintro e w2 ⟨rfl, hb⟩
  replace oS := oS.below hb
  replace oC := oC.below hb
  replace bel := belowTo bel hb (by exact bel.size)
  clear hb cS0 cS1 cS2 cS3 cS4 cS5 cS6 fS zS cC0 cC1 fC zC
  obtain ⟨cS0, cS1, cS2, cS3, cS4, cS5, cS6, fS, zS⟩ := own7 oS
  obtain ⟨cC0, cC1, fC, zC⟩ := own2 oC
  go_wp2_with fail
  refine (send_lit sy l h a k src he o d asn N 0 _ Hs.out).mono ?_
  rintro e w3 ⟨rfl, hb⟩
  replace oS := (oS.alloc _).below hb
  replace oC := (oC.alloc _).below hb
  have oX : Own w3 w2.heap.size [.int .i64 X, .int .i64 Y] 29 := (own_at _ _ rfl).below hb
  replace bel := belowTo (bel.alloc (by have := bel.size; simp; omega) _) hb (by have := bel.size; simp; omega)
  clear hb cS0 cS1 cS2 cS3 cS4 cS5 cS6 fS zS cC0 cC1 fC zC
  obtain ⟨cS0, cS1, cS2, cS3, cS4, cS5, cS6, fS, zS⟩ := own7 oS
  obtain ⟨cC0, cC1, fC, zC⟩ := own2 oC
  obtain ⟨cX0, cX1, fX, zX⟩ := own2 oX
  go_wp2_with fail
  have pS0 := fun x : Past w3 => (oS.past x).cell (i := 0) rfl
  have pS1 := fun x : Past w3 => (oS.past x).cell (i := 1) rfl
  have pS2 := fun x : Past w3 => (oS.past x).cell (i := 2) rfl
  have pS3 := fun x : Past w3 => (oS.past x).cell (i := 3) rfl
  have pS4 := fun x : Past w3 => (oS.past x).cell (i := 4) rfl
  have pS5 := fun x : Past w3 => (oS.past x).cell (i := 5) rfl
  have pS6 := fun x : Past w3 => (oS.past x).cell (i := 6) rfl
  refine wp_region_past (by kernel_rfl) (by kernel_rfl) ?_
  repeat (go_big_quiet_step ((first | (go_at_call 19; exact calls_past (rown_lit sy l h a k src he asn O _ q1 q2 Hx.out)) | (go_at_call 18; exact calls_past (tbound_lit sy l h a k src he O B 0 _ Hb.out)))))
  refine wpQuiet_nil ?_
  rintro _ ⟨x, rfl⟩
  replace bel : Below w.heap.size w (past w3 x) := bel.trans (x.h.mono bel.size)
  clear pS0 pS1 pS2 pS3 pS4 pS5 pS6
  clear cS0 cS1 cS2 cS3 cS4 cS5 cS6 fS zS cC0 cC1 fC zC cX0 cX1 fX zX
  replace oS := oS.past x
  replace oC := oC.past x
  replace oX := oX.past x
  generalize past w3 x = w4 at oS oC oX bel ⊢
  obtain ⟨cS0, cS1, cS2, cS3, cS4, cS5, cS6, fS, zS⟩ := own7 oS
  obtain ⟨cC0, cC1, fC, zC⟩ := own2 oC
  obtain ⟨cX0, cX1, fX, zX⟩ := own2 oX
  go_wp2_with fail
  refine (listen_lit sy l h a k src he o d (asn + more) Z U 0 _ Ht2.out).mono ?_
  rintro e w5 ⟨rfl, hb⟩
  replace oS := oS.below hb
  replace oC := oC.below hb
  replace oX := oX.below hb
  replace bel := belowTo bel hb (by exact bel.size)
  clear hb cS0 cS1 cS2 cS3 cS4 cS5 cS6 fS zS cC0 cC1 fC zC cX0 cX1 fX zX
  obtain ⟨cS0, cS1, cS2, cS3, cS4, cS5, cS6, fS, zS⟩ := own7 oS
  obtain ⟨cC0, cC1, fC, zC⟩ := own2 oC
  obtain ⟨cX0, cX1, fX, zX⟩ := own2 oX
  go_wp2_with fail
  have oY : Own (w5.alloc (Obj.cells #[.int .i64 Z, .int .i64 U] 29)) w5.heap.size [.int .i64 Z, .int .i64 U] 29 := own_at _ _ rfl
  replace oS := oS.alloc (Obj.cells #[.int .i64 Z, .int .i64 U] 29)
  replace oC := oC.alloc (Obj.cells #[.int .i64 Z, .int .i64 U] 29)
  replace oX := oX.alloc (Obj.cells #[.int .i64 Z, .int .i64 U] 29)
  replace bel := bel.alloc bel.size (Obj.cells #[.int .i64 Z, .int .i64 U] 29)
  clear cS0 cS1 cS2 cS3 cS4 cS5 cS6 fS zS cC0 cC1 fC zC cX0 cX1 fX zX
  generalize w5.alloc (Obj.cells #[.int .i64 Z, .int .i64 U] 29) = w6 at oS oC oX oY bel ⊢
  obtain ⟨cS0, cS1, cS2, cS3, cS4, cS5, cS6, fS, zS⟩ := own7 oS
  obtain ⟨cC0, cC1, fC, zC⟩ := own2 oC
  obtain ⟨cX0, cX1, fX, zX⟩ := own2 oX
  obtain ⟨cY0, cY1, fY, zY⟩ := own2 oY
  go_wp2
  all_goals (go_ret; exact ⟨by first | rfl | simp_all, (by repeat (first | exact bel | refine Below.alloc ?_ (by have := bel.size; simp; omega) _))⟩)

theorem guardWindows_walk (sy : Bool) (l h a k src he o d asn more : Int) (w : World) (_0 : IntKind.i64.has l) (_1 : IntKind.i64.has h) (_2 : IntKind.i64.has a) (_3 : IntKind.i64.has k) (_4 : IntKind.i64.has src) (_5 : IntKind.i64.has he) (_6 : IntKind.i64.has o) (_7 : IntKind.i64.has d) (_8 : IntKind.i64.has asn) (_9 : IntKind.i64.has more) :
    Calls Try.prog 7 #[.agg #[.bool sy, .int .i64 l, .int .i64 h, .int .i64 a, .int .i64 k, .int .i64 src, .int .i64 he], .agg #[.int .i64 o, .int .i64 d], .int .i64 asn, .int .i64 more] w fun e w' => e = .returned (.bool true) ∧ Below w.heap.size w w' := by
  by_cases e : gsE sy l h a k src he o d asn = 0
  · obtain ⟨g1, ⟨q1, q2⟩, g4, g5, g6, g7⟩ := gs_zero e
    have eB : bdN sy l h a k src he (ownT k l h asn) = gsB sy l h a k src he o d asn := by simp [gsB, e]
    obtain ⟨b1, b2, b3, b4⟩ := gs_bd e
    have x1 : lsL sy l h a k src he o d asn = gsN sy l h a k src he o d asn - (2004 + gsB sy l h a k src he o d asn) := by rw [lsL, if_pos e]
    have x2 : lsH sy l h a k src he o d asn = gsN sy l h a k src he o d asn + (2004 + gsB sy l h a k src he o d asn) := by rw [lsH, if_pos e]
    have hx := ownX_vld (a := a) (src := src) (he := he) g4 g5 q1 q2
    by_cases m1 : 0 ≤ more
    · by_cases m2 : more ≤ 1000000000 - asn
      · by_cases f : gsE sy l h a k src he o d (asn + more) = 0
        · obtain ⟨c1, c2, c3, c4⟩ := gs_bd f
          have y1 : lsL sy l h a k src he o d (asn + more) = gsN sy l h a k src he o d (asn + more) - (2004 + gsB sy l h a k src he o d (asn + more)) := by rw [lsL, if_pos f]
          have y2 : lsH sy l h a k src he o d (asn + more) = gsN sy l h a k src he o d (asn + more) + (2004 + gsB sy l h a k src he o d (asn + more)) := by rw [lsH, if_pos f]
          have := wider m1 e f
          exact guardWindows_ok sy l h a k src he o d asn more _ _ _ _ _ _ _ w q1 q2 ⟨x1, x2, e⟩ ⟨rfl, e⟩ hx ⟨eB, g6⟩ b3 b4 (by omega) (by omega) (by omega) (by omega) (by omega) (by omega) (by rw [beq_iff_eq]; omega) (by rw [beq_iff_eq]; omega) m1 m2 ⟨y1, y2, f⟩ (by omega) (by omega) (by omega) (by omega) (by omega)
        · exact guardWindows_later sy l h a k src he o d asn more _ _ _ _ _ _ _ _ w q1 q2 ⟨x1, x2, e⟩ ⟨rfl, e⟩ hx ⟨eB, g6⟩ b3 b4 (by omega) (by omega) (by omega) (by omega) (by omega) (by omega) (by rw [beq_iff_eq]; omega) (by rw [beq_iff_eq]; omega) m1 m2 ⟨rfl, rfl, rfl⟩ (by simpa using f) (by simpa using f)
      · exact guardWindows_far sy l h a k src he o d asn more _ _ _ _ _ w q1 q2 ⟨x1, x2, e⟩ ⟨rfl, e⟩ hx ⟨eB, g6⟩ b3 b4 (by omega) (by omega) (by omega) (by omega) (by omega) (by omega) (by rw [beq_iff_eq]; omega) (by rw [beq_iff_eq]; omega) m1 (by omega)
    · exact guardWindows_neg sy l h a k src he o d asn more _ _ _ _ _ w q1 q2 ⟨x1, x2, e⟩ ⟨rfl, e⟩ hx ⟨eB, g6⟩ b3 b4 (by omega) (by omega) (by omega) (by omega) (by omega) (by omega) (by rw [beq_iff_eq]; omega) (by rw [beq_iff_eq]; omega) (by omega)
  · exact guardWindows_err sy l h a k src he o d asn more _ w ⟨by rw [lsL, if_neg e], by rw [lsH, if_neg e], rfl⟩ (by simpa using e) (by simpa using e)

end Go.Proofs.Ytcbadbcdjejjcaa

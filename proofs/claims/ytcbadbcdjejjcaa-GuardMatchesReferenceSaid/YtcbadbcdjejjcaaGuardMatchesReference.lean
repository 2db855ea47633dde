/- GuardMatchesReference: the walk of the law. It returns true for every input, and leaves old memory alone. -/
import Derived.Test.YtcbadbcdjejjcaaHead10
namespace Go.Proofs.Ytcbadbcdjejjcaa
open Go.RowKit

set_option linter.unusedVariables false in
set_option maxRecDepth 100000 in
set_option maxHeartbeats 4000000 in
theorem guardMatchesReference_core (sy : Bool) (l h a k src he o d asn n ol oh N E X Y : Int) (r : Bool) (w : World) (s : gsN sy l h a k src he o d asn = N ∧ gsE sy l h a k src he o d asn = E) (t : lsL sy l h a k src he o d asn = X ∧ lsH sy l h a k src he o d asn = Y ∧ gsE sy l h a k src he o d asn = E) (c : catB n ol oh = r) :
    Calls Try.prog 3 #[.agg #[.bool sy, .int .i64 l, .int .i64 h, .int .i64 a, .int .i64 k, .int .i64 src, .int .i64 he], .agg #[.int .i64 o, .int .i64 d], .int .i64 asn, .int .i64 n, .agg #[.int .i64 ol, .int .i64 oh]] w fun e w' => e = .returned (.bool true) ∧ Below w.heap.size w w' := by
  have Hs := Lib.hid s
  clear s
  have Ht := Lib.hid t
  clear t
  have Hc := Lib.hid c
  clear c
  go_enter Try.func3, Try.ntmps3
  go_wp2_with fail
  refine (head_any _).mono ?_
  rintro e w1 ⟨rfl, hb⟩
  have oS : Own w1 w.heap.size [.bool sy, .int .i64 l, .int .i64 h, .int .i64 a, .int .i64 k, .int .i64 src, .int .i64 he] 25 := (((own_at _ _ rfl).alloc _).alloc _).below hb
  have oC : Own w1 (w.heap.size + 1) [.int .i64 o, .int .i64 d] 27 := ((own_at _ _ (by simp)).alloc _).below hb
  have oO : Own w1 (w.heap.size + 2) [.int .i64 ol, .int .i64 oh] 29 := (own_at _ _ (by simp)).below hb
  have bel := belowTo ((((Below.refl w.heap.size w).alloc (by simp) _).alloc (by simp) _).alloc (by simp; omega) _) hb (by simp; omega)
  clear hb 
  obtain ⟨cS0, cS1, cS2, cS3, cS4, cS5, cS6, fS, zS⟩ := own7 oS
  obtain ⟨cC0, cC1, fC, zC⟩ := own2 oC
  obtain ⟨cO0, cO1, fO, zO⟩ := own2 oO
  go_wp2_with fail
  refine (send_lit sy l h a k src he o d asn N E _ Hs.out).mono ?_
  rintro e w2 ⟨rfl, hb⟩
  replace oS := oS.below hb
  replace oC := oC.below hb
  replace oO := oO.below hb
  replace bel := belowTo bel hb (by exact bel.size)
  clear hb cS0 cS1 cS2 cS3 cS4 cS5 cS6 fS zS cC0 cC1 fC zC cO0 cO1 fO zO
  obtain ⟨cS0, cS1, cS2, cS3, cS4, cS5, cS6, fS, zS⟩ := own7 oS
  obtain ⟨cC0, cC1, fC, zC⟩ := own2 oC
  obtain ⟨cO0, cO1, fO, zO⟩ := own2 oO
  go_wp2_with fail
  refine (rsend_lit sy l h a k src he o d asn N E _ Hs.out).mono ?_
  rintro e w3 ⟨rfl, hb⟩
  replace oS := oS.below hb
  replace oC := oC.below hb
  replace oO := oO.below hb
  replace bel := belowTo bel hb (by exact bel.size)
  clear hb cS0 cS1 cS2 cS3 cS4 cS5 cS6 fS zS cC0 cC1 fC zC cO0 cO1 fO zO
  obtain ⟨cS0, cS1, cS2, cS3, cS4, cS5, cS6, fS, zS⟩ := own7 oS
  obtain ⟨cC0, cC1, fC, zC⟩ := own2 oC
  obtain ⟨cO0, cO1, fO, zO⟩ := own2 oO
  go_wp2_with fail
  refine (listen_lit sy l h a k src he o d asn X Y E _ Ht.out).mono ?_
  rintro e w4 ⟨rfl, hb⟩
  replace oS := oS.below hb
  replace oC := oC.below hb
  replace oO := oO.below hb
  replace bel := belowTo bel hb (by exact bel.size)
  clear hb cS0 cS1 cS2 cS3 cS4 cS5 cS6 fS zS cC0 cC1 fC zC cO0 cO1 fO zO
  obtain ⟨cS0, cS1, cS2, cS3, cS4, cS5, cS6, fS, zS⟩ := own7 oS
  obtain ⟨cC0, cC1, fC, zC⟩ := own2 oC
  obtain ⟨cO0, cO1, fO, zO⟩ := own2 oO
  go_wp2_with fail
  refine (rlisten_lit sy l h a k src he o d asn X Y E _ Ht.out).mono ?_
  rintro e w5 ⟨rfl, hb⟩
  replace oS := (oS.alloc _).below hb
  replace oC := (oC.alloc _).below hb
  replace oO := (oO.alloc _).below hb
  have oX : Own w5 w4.heap.size [.int .i64 X, .int .i64 Y] 29 := (own_at _ _ rfl).below hb
  replace bel := belowTo (bel.alloc (by have := bel.size; simp; omega) _) hb (by have := bel.size; simp; omega)
  clear hb cS0 cS1 cS2 cS3 cS4 cS5 cS6 fS zS cC0 cC1 fC zC cO0 cO1 fO zO
  obtain ⟨cS0, cS1, cS2, cS3, cS4, cS5, cS6, fS, zS⟩ := own7 oS
  obtain ⟨cC0, cC1, fC, zC⟩ := own2 oC
  obtain ⟨cO0, cO1, fO, zO⟩ := own2 oO
  obtain ⟨cX0, cX1, fX, zX⟩ := own2 oX
  go_wp2_with fail
  have oY : Own (w5.alloc (Obj.cells #[.int .i64 X, .int .i64 Y] 29)) w5.heap.size [.int .i64 X, .int .i64 Y] 29 := own_at _ _ rfl
  replace oS := oS.alloc (Obj.cells #[.int .i64 X, .int .i64 Y] 29)
  replace oC := oC.alloc (Obj.cells #[.int .i64 X, .int .i64 Y] 29)
  replace oO := oO.alloc (Obj.cells #[.int .i64 X, .int .i64 Y] 29)
  replace oX := oX.alloc (Obj.cells #[.int .i64 X, .int .i64 Y] 29)
  replace bel := bel.alloc bel.size (Obj.cells #[.int .i64 X, .int .i64 Y] 29)
  clear cS0 cS1 cS2 cS3 cS4 cS5 cS6 fS zS cC0 cC1 fC zC cO0 cO1 fO zO cX0 cX1 fX zX
  generalize w5.alloc (Obj.cells #[.int .i64 X, .int .i64 Y] 29) = w6 at oS oC oO oX oY bel ⊢
  obtain ⟨cS0, cS1, cS2, cS3, cS4, cS5, cS6, fS, zS⟩ := own7 oS
  obtain ⟨cC0, cC1, fC, zC⟩ := own2 oC
  obtain ⟨cO0, cO1, fO, zO⟩ := own2 oO
  obtain ⟨cX0, cX1, fX, zX⟩ := own2 oX
  obtain ⟨cY0, cY1, fY, zY⟩ := own2 oY
  have pO0 := fun x : Past w6 => (oO.past x).cell (i := 0) rfl
  have pO1 := fun x : Past w6 => (oO.past x).cell (i := 1) rfl
  have pX0 := fun x : Past w6 => (oX.past x).cell (i := 0) rfl
  have pX1 := fun x : Past w6 => (oX.past x).cell (i := 1) rfl
  have pY0 := fun x : Past w6 => (oY.past x).cell (i := 0) rfl
  have pY1 := fun x : Past w6 => (oY.past x).cell (i := 1) rfl
  refine wp_region_past (by kernel_rfl) (by kernel_rfl) ?_
  repeat (go_big_quiet_step ((first | (go_at_call 15; exact calls_past (catches_lit n ol oh r _ Hc.out)) | (go_at_call 16; exact calls_past (rcatches_lit n ol oh r _ Hc.out)))))
  refine wpQuiet_nil ?_
  rintro _ ⟨x, rfl⟩
  replace bel : Below w.heap.size w (past w6 x) := bel.trans (x.h.mono bel.size)
  clear pO0 pO1
  clear pX0 pX1
  clear pY0 pY1
  clear cS0 cS1 cS2 cS3 cS4 cS5 cS6 fS zS cC0 cC1 fC zC cO0 cO1 fO zO cX0 cX1 fX zX cY0 cY1 fY zY
  replace oS := oS.past x
  replace oC := oC.past x
  replace oO := oO.past x
  replace oX := oX.past x
  replace oY := oY.past x
  generalize past w6 x = w7 at oS oC oO oX oY bel ⊢
  obtain ⟨cS0, cS1, cS2, cS3, cS4, cS5, cS6, fS, zS⟩ := own7 oS
  obtain ⟨cC0, cC1, fC, zC⟩ := own2 oC
  obtain ⟨cO0, cO1, fO, zO⟩ := own2 oO
  obtain ⟨cX0, cX1, fX, zX⟩ := own2 oX
  obtain ⟨cY0, cY1, fY, zY⟩ := own2 oY
  go_wp2
  all_goals (go_ret; exact ⟨by first | rfl | simp_all, (by repeat (first | exact bel | refine Below.alloc ?_ (by have := bel.size; simp; omega) _))⟩)

theorem guardMatchesReference_walk (sy : Bool) (l h a k src he o d asn n ol oh : Int) (w : World) (_0 : IntKind.i64.has l) (_1 : IntKind.i64.has h) (_2 : IntKind.i64.has a) (_3 : IntKind.i64.has k) (_4 : IntKind.i64.has src) (_5 : IntKind.i64.has he) (_6 : IntKind.i64.has o) (_7 : IntKind.i64.has d) (_8 : IntKind.i64.has asn) (_9 : IntKind.i64.has n) (_10 : IntKind.i64.has ol) (_11 : IntKind.i64.has oh) :
    Calls Try.prog 3 #[.agg #[.bool sy, .int .i64 l, .int .i64 h, .int .i64 a, .int .i64 k, .int .i64 src, .int .i64 he], .agg #[.int .i64 o, .int .i64 d], .int .i64 asn, .int .i64 n, .agg #[.int .i64 ol, .int .i64 oh]] w fun e w' => e = .returned (.bool true) ∧ Below w.heap.size w w' := by
  exact guardMatchesReference_core sy l h a k src he o d asn n ol oh _ _ _ _ _ w ⟨rfl, rfl⟩ ⟨rfl, rfl, rfl⟩ rfl

end Go.Proofs.Ytcbadbcdjejjcaa

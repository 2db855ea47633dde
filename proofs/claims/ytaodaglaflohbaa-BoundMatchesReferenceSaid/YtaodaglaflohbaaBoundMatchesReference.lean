/- BoundMatchesReference: the walk of the law. It returns true for every input, and leaves old memory alone. -/
import Derived.Test.YtaodaglaflohbaaHead08
import Derived.Test.YtaodaglaflohbaaRMeet
namespace Go.Proofs.Ytaodaglaflohbaa
open Go.RowKit
set_option linter.unusedVariables false

theorem rwidth_lit (l h a x : Int) (w : World) (k : widS l h a = x) :
    Calls Try.prog 21 #[.agg #[.int .i64 l, .int .i64 h, .int .i64 a]] w fun e w' => e = .returned (.int .i64 x) ∧ Below w.heap.size w w' := by
  have := rwidth_any l h a w
  rwa [k] at this

set_option maxRecDepth 100000 in
set_option maxHeartbeats 6000000 in
theorem boundMatchesReference_core (al ah aa bl bh ba n f p xb xs xc L1 H1 A1 E1 L2 H2 A2 E2 L3 H3 A3 E3 wd : Int) (b : Bool) (w : World) (hv : vldS al ah aa = b) (hw : widS al ah aa = wd)
    (h1 : grL al ah aa n = L1 ∧ grH al ah aa n = H1 ∧ grA al ah aa n = A1 ∧ grE al ah aa n = E1) (h2 : mtL al ah aa bl bh ba = L2 ∧ mtH al ah aa bl bh ba = H2 ∧ mtA al ah aa bl bh ba = A2 ∧ mtE al ah aa bl bh ba = E2)
    (h3 : heL xs xb xc = L3 ∧ heH xs xb xc = H3 ∧ heA xs xb xc = A3 ∧ heE xs xb xc = E3) :
    Calls Try.prog 3 #[.agg #[.int .i64 al, .int .i64 ah, .int .i64 aa], .agg #[.int .i64 bl, .int .i64 bh, .int .i64 ba], .int .i64 n, .agg #[.int .i64 f, .int .i64 p, .int .i64 xb, .int .i64 xs, .int .i64 xc]] w fun e w' => e = .returned (.bool true) ∧ Below w.heap.size w w' := by
  go_enter Try.func3, Try.ntmps3
  go_wp2_with fail
  refine (head_any _).mono ?_
  rintro e w1 ⟨rfl, hb⟩
  have oP : Own w1 w.heap.size [.int .i64 al, .int .i64 ah, .int .i64 aa] 23 := (((own_at _ _ rfl).alloc _).alloc _).below hb
  have oQ : Own w1 (w.heap.size + 1) [.int .i64 bl, .int .i64 bh, .int .i64 ba] 23 := ((own_at _ _ (by simp)).alloc _).below hb
  have oH : Own w1 (w.heap.size + 2) [.int .i64 f, .int .i64 p, .int .i64 xb, .int .i64 xs, .int .i64 xc] 25 := (own_at _ _ (by simp)).below hb
  have bel := belowTo ((((Below.refl w.heap.size w).alloc (by simp) _).alloc (by simp) _).alloc (by simp; omega) _) hb (by simp; omega)
  clear hb 
  obtain ⟨cP0, cP1, cP2, fP, zP⟩ := own3 oP
  obtain ⟨cQ0, cQ1, cQ2, fQ, zQ⟩ := own3 oQ
  obtain ⟨cH0, cH1, cH2, cH3, cH4, fH, zH⟩ := own5 oH
  go_wp2_with fail
  refine (bgrow_lit al ah aa n L1 H1 A1 E1 _ h1).mono ?_
  rintro e w2 ⟨rfl, hb⟩
  replace oP := oP.below hb
  replace oQ := oQ.below hb
  replace oH := oH.below hb
  replace bel := belowTo bel hb (by exact bel.size)
  clear hb cP0 cP1 cP2 fP zP cQ0 cQ1 cQ2 fQ zQ cH0 cH1 cH2 cH3 cH4 fH zH
  obtain ⟨cP0, cP1, cP2, fP, zP⟩ := own3 oP
  obtain ⟨cQ0, cQ1, cQ2, fQ, zQ⟩ := own3 oQ
  obtain ⟨cH0, cH1, cH2, cH3, cH4, fH, zH⟩ := own5 oH
  go_wp2_with fail
  refine (rgrow_lit al ah aa n L1 H1 A1 E1 _ h1).mono ?_
  rintro e w3 ⟨rfl, hb⟩
  replace oP := (oP.alloc _).below hb
  replace oQ := (oQ.alloc _).below hb
  replace oH := (oH.alloc _).below hb
  have oX : Own w3 w2.heap.size [.int .i64 L1, .int .i64 H1, .int .i64 A1] 23 := (own_at _ _ rfl).below hb
  replace bel := belowTo (bel.alloc (by have := bel.size; simp; omega) _) hb (by have := bel.size; simp; omega)
  clear hb cP0 cP1 cP2 fP zP cQ0 cQ1 cQ2 fQ zQ cH0 cH1 cH2 cH3 cH4 fH zH
  obtain ⟨cP0, cP1, cP2, fP, zP⟩ := own3 oP
  obtain ⟨cQ0, cQ1, cQ2, fQ, zQ⟩ := own3 oQ
  obtain ⟨cH0, cH1, cH2, cH3, cH4, fH, zH⟩ := own5 oH
  obtain ⟨cX0, cX1, cX2, fX, zX⟩ := own3 oX
  go_wp2_with fail
  refine (meet_lit al ah aa bl bh ba L2 H2 A2 E2 _ h2).mono ?_
  rintro e w4 ⟨rfl, hb⟩
  replace oP := (oP.alloc _).below hb
  replace oQ := (oQ.alloc _).below hb
  replace oH := (oH.alloc _).below hb
  replace oX := (oX.alloc _).below hb
  have oY : Own w4 w3.heap.size [.int .i64 L1, .int .i64 H1, .int .i64 A1] 23 := (own_at _ _ rfl).below hb
  replace bel := belowTo (bel.alloc (by have := bel.size; simp; omega) _) hb (by have := bel.size; simp; omega)
  clear hb cP0 cP1 cP2 fP zP cQ0 cQ1 cQ2 fQ zQ cH0 cH1 cH2 cH3 cH4 fH zH cX0 cX1 cX2 fX zX
  obtain ⟨cP0, cP1, cP2, fP, zP⟩ := own3 oP
  obtain ⟨cQ0, cQ1, cQ2, fQ, zQ⟩ := own3 oQ
  obtain ⟨cH0, cH1, cH2, cH3, cH4, fH, zH⟩ := own5 oH
  obtain ⟨cX0, cX1, cX2, fX, zX⟩ := own3 oX
  obtain ⟨cY0, cY1, cY2, fY, zY⟩ := own3 oY
  go_wp2_with fail
  refine (rmeet_lit al ah aa bl bh ba L2 H2 A2 E2 _ h2).mono ?_
  rintro e w5 ⟨rfl, hb⟩
  replace oP := (oP.alloc _).below hb
  replace oQ := (oQ.alloc _).below hb
  replace oH := (oH.alloc _).below hb
  replace oX := (oX.alloc _).below hb
  replace oY := (oY.alloc _).below hb
  have oZ : Own w5 w4.heap.size [.int .i64 L2, .int .i64 H2, .int .i64 A2] 23 := (own_at _ _ rfl).below hb
  replace bel := belowTo (bel.alloc (by have := bel.size; simp; omega) _) hb (by have := bel.size; simp; omega)
  clear hb cP0 cP1 cP2 fP zP cQ0 cQ1 cQ2 fQ zQ cH0 cH1 cH2 cH3 cH4 fH zH cX0 cX1 cX2 fX zX cY0 cY1 cY2 fY zY
  obtain ⟨cP0, cP1, cP2, fP, zP⟩ := own3 oP
  obtain ⟨cQ0, cQ1, cQ2, fQ, zQ⟩ := own3 oQ
  obtain ⟨cH0, cH1, cH2, cH3, cH4, fH, zH⟩ := own5 oH
  obtain ⟨cX0, cX1, cX2, fX, zX⟩ := own3 oX
  obtain ⟨cY0, cY1, cY2, fY, zY⟩ := own3 oY
  obtain ⟨cZ0, cZ1, cZ2, fZ, zZ⟩ := own3 oZ
  go_wp2_with fail
  refine (heard_lit f p xb xs xc L3 H3 A3 E3 _ h3).mono ?_
  rintro e w6 ⟨rfl, hb⟩
  clear oQ cQ0 cQ1 cQ2 fQ zQ
  replace oP := (oP.alloc _).below hb
  replace oH := (oH.alloc _).below hb
  replace oX := (oX.alloc _).below hb
  replace oY := (oY.alloc _).below hb
  replace oZ := (oZ.alloc _).below hb
  have oT : Own w6 w5.heap.size [.int .i64 L2, .int .i64 H2, .int .i64 A2] 23 := (own_at _ _ rfl).below hb
  replace bel := belowTo (bel.alloc (by have := bel.size; simp; omega) _) hb (by have := bel.size; simp; omega)
  clear hb cP0 cP1 cP2 fP zP cH0 cH1 cH2 cH3 cH4 fH zH cX0 cX1 cX2 fX zX cY0 cY1 cY2 fY zY cZ0 cZ1 cZ2 fZ zZ
  obtain ⟨cP0, cP1, cP2, fP, zP⟩ := own3 oP
  obtain ⟨cH0, cH1, cH2, cH3, cH4, fH, zH⟩ := own5 oH
  obtain ⟨cX0, cX1, cX2, fX, zX⟩ := own3 oX
  obtain ⟨cY0, cY1, cY2, fY, zY⟩ := own3 oY
  obtain ⟨cZ0, cZ1, cZ2, fZ, zZ⟩ := own3 oZ
  obtain ⟨cT0, cT1, cT2, fT, zT⟩ := own3 oT
  go_wp2_with fail
  refine (rheard_lit f p xb xs xc L3 H3 A3 E3 _ h3).mono ?_
  rintro e w7 ⟨rfl, hb⟩
  replace oP := (oP.alloc _).below hb
  replace oH := (oH.alloc _).below hb
  replace oX := (oX.alloc _).below hb
  replace oY := (oY.alloc _).below hb
  replace oZ := (oZ.alloc _).below hb
  replace oT := (oT.alloc _).below hb
  have oU : Own w7 w6.heap.size [.int .i64 L3, .int .i64 H3, .int .i64 A3] 23 := (own_at _ _ rfl).below hb
  replace bel := belowTo (bel.alloc (by have := bel.size; simp; omega) _) hb (by have := bel.size; simp; omega)
  clear hb cP0 cP1 cP2 fP zP cH0 cH1 cH2 cH3 cH4 fH zH cX0 cX1 cX2 fX zX cY0 cY1 cY2 fY zY cZ0 cZ1 cZ2 fZ zZ cT0 cT1 cT2 fT zT
  obtain ⟨cP0, cP1, cP2, fP, zP⟩ := own3 oP
  obtain ⟨cH0, cH1, cH2, cH3, cH4, fH, zH⟩ := own5 oH
  obtain ⟨cX0, cX1, cX2, fX, zX⟩ := own3 oX
  obtain ⟨cY0, cY1, cY2, fY, zY⟩ := own3 oY
  obtain ⟨cZ0, cZ1, cZ2, fZ, zZ⟩ := own3 oZ
  obtain ⟨cT0, cT1, cT2, fT, zT⟩ := own3 oT
  obtain ⟨cU0, cU1, cU2, fU, zU⟩ := own3 oU
  go_wp2_with fail
  have oV : Own (w7.alloc (Obj.cells #[Value.int IntKind.i64 L3, Value.int IntKind.i64 H3, Value.int IntKind.i64 A3] 23)) w7.heap.size [.int .i64 L3, .int .i64 H3, .int .i64 A3] 23 := own_at _ _ rfl
  replace oP := oP.alloc (Obj.cells #[Value.int IntKind.i64 L3, Value.int IntKind.i64 H3, Value.int IntKind.i64 A3] 23)
  replace oH := oH.alloc (Obj.cells #[Value.int IntKind.i64 L3, Value.int IntKind.i64 H3, Value.int IntKind.i64 A3] 23)
  replace oX := oX.alloc (Obj.cells #[Value.int IntKind.i64 L3, Value.int IntKind.i64 H3, Value.int IntKind.i64 A3] 23)
  replace oY := oY.alloc (Obj.cells #[Value.int IntKind.i64 L3, Value.int IntKind.i64 H3, Value.int IntKind.i64 A3] 23)
  replace oZ := oZ.alloc (Obj.cells #[Value.int IntKind.i64 L3, Value.int IntKind.i64 H3, Value.int IntKind.i64 A3] 23)
  replace oT := oT.alloc (Obj.cells #[Value.int IntKind.i64 L3, Value.int IntKind.i64 H3, Value.int IntKind.i64 A3] 23)
  replace oU := oU.alloc (Obj.cells #[Value.int IntKind.i64 L3, Value.int IntKind.i64 H3, Value.int IntKind.i64 A3] 23)
  replace bel := bel.alloc bel.size (Obj.cells #[Value.int IntKind.i64 L3, Value.int IntKind.i64 H3, Value.int IntKind.i64 A3] 23)
  generalize w7.alloc (Obj.cells #[Value.int IntKind.i64 L3, Value.int IntKind.i64 H3, Value.int IntKind.i64 A3] 23) = wz at oP oH oX oY oZ oT oU oV bel ⊢
  clear cP0 cP1 cP2 fP zP cH0 cH1 cH2 cH3 cH4 fH zH cX0 cX1 cX2 fX zX cY0 cY1 cY2 fY zY cZ0 cZ1 cZ2 fZ zZ cT0 cT1 cT2 fT zT cU0 cU1 cU2 fU zU
  have pP0 := fun x : Past wz => (oP.past x).cell (i := 0) rfl
  have pP1 := fun x : Past wz => (oP.past x).cell (i := 1) rfl
  have pP2 := fun x : Past wz => (oP.past x).cell (i := 2) rfl
  have pX0 := fun x : Past wz => (oX.past x).cell (i := 0) rfl
  have pX1 := fun x : Past wz => (oX.past x).cell (i := 1) rfl
  have pX2 := fun x : Past wz => (oX.past x).cell (i := 2) rfl
  have pY0 := fun x : Past wz => (oY.past x).cell (i := 0) rfl
  have pY1 := fun x : Past wz => (oY.past x).cell (i := 1) rfl
  have pY2 := fun x : Past wz => (oY.past x).cell (i := 2) rfl
  have pZ0 := fun x : Past wz => (oZ.past x).cell (i := 0) rfl
  have pZ1 := fun x : Past wz => (oZ.past x).cell (i := 1) rfl
  have pZ2 := fun x : Past wz => (oZ.past x).cell (i := 2) rfl
  have pT0 := fun x : Past wz => (oT.past x).cell (i := 0) rfl
  have pT1 := fun x : Past wz => (oT.past x).cell (i := 1) rfl
  have pT2 := fun x : Past wz => (oT.past x).cell (i := 2) rfl
  have pU0 := fun x : Past wz => (oU.past x).cell (i := 0) rfl
  have pU1 := fun x : Past wz => (oU.past x).cell (i := 1) rfl
  have pU2 := fun x : Past wz => (oU.past x).cell (i := 2) rfl
  have pV0 := fun x : Past wz => (oV.past x).cell (i := 0) rfl
  have pV1 := fun x : Past wz => (oV.past x).cell (i := 1) rfl
  have pV2 := fun x : Past wz => (oV.past x).cell (i := 2) rfl
  refine wp_region_past (by kernel_rfl) (by kernel_rfl) ?_
  repeat (go_big_quiet_step ((first | (go_at_call 18; exact calls_past (bvalid_lit al ah aa b _ hv)) | (go_at_call 19; exact calls_past (rsvalid_lit al ah aa b _ hv)) | (go_at_call 20; exact calls_past (bwidth_lit al ah aa wd _ hw)) | (go_at_call 21; exact calls_past (rwidth_lit al ah aa wd _ hw)))))
  refine wpQuiet_nil ?_
  rintro _ ⟨x, rfl⟩
  have bel2 := bel.trans (x.h.mono bel.size)
  go_wp2
  go_ret
  exact ⟨rfl, bel2⟩

theorem boundMatchesReference_walk (al ah aa bl bh ba n f p xb xs xc : Int) (w : World) (_1 : IntKind.i64.has al) (_2 : IntKind.i64.has ah) (_3 : IntKind.i64.has aa) (_4 : IntKind.i64.has bl) (_5 : IntKind.i64.has bh) (_6 : IntKind.i64.has ba) (_7 : IntKind.i64.has n)
    (_8 : IntKind.i64.has f) (_9 : IntKind.i64.has p) (_10 : IntKind.i64.has xb) (_11 : IntKind.i64.has xs) (_12 : IntKind.i64.has xc) :
    Calls Try.prog 3 #[.agg #[.int .i64 al, .int .i64 ah, .int .i64 aa], .agg #[.int .i64 bl, .int .i64 bh, .int .i64 ba], .int .i64 n, .agg #[.int .i64 f, .int .i64 p, .int .i64 xb, .int .i64 xs, .int .i64 xc]] w fun e w' => e = .returned (.bool true) ∧ Below w.heap.size w w' := by
  exact boundMatchesReference_core al ah aa bl bh ba n f p xb xs xc _ _ _ _ _ _ _ _ _ _ _ _ _ _ w rfl rfl ⟨rfl, rfl, rfl, rfl⟩ ⟨rfl, rfl, rfl, rfl⟩ ⟨rfl, rfl, rfl, rfl⟩

end Go.Proofs.Ytaodaglaflohbaa

/- BoundOrder: the ways of its walk. -/
import Derived.Test.YtaodaglaflohbaaHead08
namespace Go.Proofs.Ytaodaglaflohbaa
open Go.RowKit
set_option linter.unusedVariables false

set_option maxRecDepth 100000 in
set_option maxHeartbeats 4000000 in
theorem boundOrder_no (al ah aa bl bh ba E : Int) (w : World) (e0 : (E == 0) = false) (h1 : mtL al ah aa bl bh ba = 0 ∧ mtH al ah aa bl bh ba = 0 ∧ mtA al ah aa bl bh ba = 0 ∧ mtE al ah aa bl bh ba = E) (h2 : mtL bl bh ba al ah aa = 0 ∧ mtH bl bh ba al ah aa = 0 ∧ mtA bl bh ba al ah aa = 0 ∧ mtE bl bh ba al ah aa = E) :
    Calls Try.prog 4 #[.agg #[.int .i64 al, .int .i64 ah, .int .i64 aa], .agg #[.int .i64 bl, .int .i64 bh, .int .i64 ba]] w fun e w' => e = .returned (.bool true) ∧ Below w.heap.size w w' := by
  go_enter Try.func4, Try.ntmps4
  go_wp2_with fail
  refine (head_any _).mono ?_
  rintro e w1 ⟨rfl, hb⟩
  have oP : Own w1 w.heap.size [.int .i64 al, .int .i64 ah, .int .i64 aa] 23 := ((own_at _ _ rfl).alloc _).below hb
  have oQ : Own w1 (w.heap.size + 1) [.int .i64 bl, .int .i64 bh, .int .i64 ba] 23 := (own_at _ _ (by simp)).below hb
  have bel := belowTo (((Below.refl w.heap.size w).alloc (by simp) _).alloc (by simp) _) hb (by simp; omega)
  clear hb 
  obtain ⟨cP0, cP1, cP2, fP, zP⟩ := own3 oP
  obtain ⟨cQ0, cQ1, cQ2, fQ, zQ⟩ := own3 oQ
  go_wp2_with fail
  refine (meet_lit al ah aa bl bh ba 0 0 0 E _ h1).mono ?_
  rintro e w2 ⟨rfl, hb⟩
  replace oP := oP.below hb
  replace oQ := oQ.below hb
  replace bel := belowTo bel hb (by exact bel.size)
  clear hb cP0 cP1 cP2 fP zP cQ0 cQ1 cQ2 fQ zQ
  obtain ⟨cP0, cP1, cP2, fP, zP⟩ := own3 oP
  obtain ⟨cQ0, cQ1, cQ2, fQ, zQ⟩ := own3 oQ
  have kX := zQ
  go_wp2_with fail
  refine (meet_lit bl bh ba al ah aa 0 0 0 E _ h2).mono ?_
  rintro e w3 ⟨rfl, hb⟩
  replace oP := (oP.alloc _).below hb
  replace oQ := (oQ.alloc _).below hb
  have oX : Own w3 w2.heap.size [.int .i64 0, .int .i64 0, .int .i64 0] 23 := (own_at _ _ rfl).below hb
  replace bel := belowTo (bel.alloc (by have := bel.size; simp; omega) _) hb (by have := bel.size; simp; omega)
  clear hb cP0 cP1 cP2 fP zP cQ0 cQ1 cQ2 fQ zQ
  obtain ⟨cP0, cP1, cP2, fP, zP⟩ := own3 oP
  obtain ⟨cQ0, cQ1, cQ2, fQ, zQ⟩ := own3 oQ
  obtain ⟨cX0, cX1, cX2, fX, zX⟩ := own3 oX
  have kY := zQ
  go_wp2
  go_ret
  exact ⟨rfl, bel.alloc bel.size _⟩

set_option maxRecDepth 100000 in
set_option maxHeartbeats 4000000 in
theorem boundOrder_P (al ah aa bl bh ba L H A GL GH : Int) (w : World) (hlt : aa < ba) (h1 : mtL al ah aa bl bh ba = L ∧ mtH al ah aa bl bh ba = H ∧ mtA al ah aa bl bh ba = A ∧ mtE al ah aa bl bh ba = 0) (h2 : mtL bl bh ba al ah aa = L ∧ mtH bl bh ba al ah aa = H ∧ mtA bl bh ba al ah aa = A ∧ mtE bl bh ba al ah aa = 0)
    (h3 : grL al ah aa ba = GL ∧ grH al ah aa ba = GH ∧ grA al ah aa ba = ba ∧ grE al ah aa ba = 0) (i1 : inS L H A GL GH ba = true) (i2 : inS L H A bl bh ba = true) (c1 : (L == GL) = true ∨ ((L == GL) = false ∧ (L == bl) = true)) (c2 : (H == GH) = true ∨ ((H == GH) = false ∧ (H == bh) = true)) :
    Calls Try.prog 4 #[.agg #[.int .i64 al, .int .i64 ah, .int .i64 aa], .agg #[.int .i64 bl, .int .i64 bh, .int .i64 ba]] w fun e w' => e = .returned (.bool true) ∧ Below w.heap.size w w' := by
  rcases c1 with c1 | ⟨c0, c1⟩ <;> rcases c2 with c2 | ⟨c3, c2⟩
  all_goals
    go_enter Try.func4, Try.ntmps4
    go_wp2_with fail
    refine (head_any _).mono ?_
    rintro e w1 ⟨rfl, hb⟩
    have oP : Own w1 w.heap.size [.int .i64 al, .int .i64 ah, .int .i64 aa] 23 := ((own_at _ _ rfl).alloc _).below hb
    have oQ : Own w1 (w.heap.size + 1) [.int .i64 bl, .int .i64 bh, .int .i64 ba] 23 := (own_at _ _ (by simp)).below hb
    have bel := belowTo (((Below.refl w.heap.size w).alloc (by simp) _).alloc (by simp) _) hb (by simp; omega)
    clear hb 
    obtain ⟨cP0, cP1, cP2, fP, zP⟩ := own3 oP
    obtain ⟨cQ0, cQ1, cQ2, fQ, zQ⟩ := own3 oQ
    go_wp2_with fail
    refine (meet_lit al ah aa bl bh ba L H A 0 _ h1).mono ?_
    rintro e w2 ⟨rfl, hb⟩
    replace oP := oP.below hb
    replace oQ := oQ.below hb
    replace bel := belowTo bel hb (by exact bel.size)
    clear hb cP0 cP1 cP2 fP zP cQ0 cQ1 cQ2 fQ zQ
    obtain ⟨cP0, cP1, cP2, fP, zP⟩ := own3 oP
    obtain ⟨cQ0, cQ1, cQ2, fQ, zQ⟩ := own3 oQ
    have kX := zQ
    go_wp2_with fail
    refine (meet_lit bl bh ba al ah aa L H A 0 _ h2).mono ?_
    rintro e w3 ⟨rfl, hb⟩
    replace oP := (oP.alloc _).below hb
    replace oQ := (oQ.alloc _).below hb
    have oX : Own w3 w2.heap.size [.int .i64 L, .int .i64 H, .int .i64 A] 23 := (own_at _ _ rfl).below hb
    replace bel := belowTo (bel.alloc (by have := bel.size; simp; omega) _) hb (by have := bel.size; simp; omega)
    clear hb cP0 cP1 cP2 fP zP cQ0 cQ1 cQ2 fQ zQ
    obtain ⟨cP0, cP1, cP2, fP, zP⟩ := own3 oP
    obtain ⟨cQ0, cQ1, cQ2, fQ, zQ⟩ := own3 oQ
    obtain ⟨cX0, cX1, cX2, fX, zX⟩ := own3 oX
    have kY := zQ
    go_wp2_with fail
    refine (bgrow_lit al ah aa ba GL GH ba 0 _ h3).mono ?_
    rintro e w4 ⟨rfl, hb⟩
    replace oP := (oP.alloc _).below hb
    replace oQ := (oQ.alloc _).below hb
    replace oX := (oX.alloc _).below hb
    have oY : Own w4 w3.heap.size [.int .i64 L, .int .i64 H, .int .i64 A] 23 := (own_at _ _ rfl).below hb
    replace bel := belowTo (bel.alloc (by have := bel.size; simp; omega) _) hb (by have := bel.size; simp; omega)
    clear hb cP0 cP1 cP2 fP zP cQ0 cQ1 cQ2 fQ zQ cX0 cX1 cX2 fX zX
    obtain ⟨cP0, cP1, cP2, fP, zP⟩ := own3 oP
    obtain ⟨cQ0, cQ1, cQ2, fQ, zQ⟩ := own3 oQ
    obtain ⟨cX0, cX1, cX2, fX, zX⟩ := own3 oX
    obtain ⟨cY0, cY1, cY2, fY, zY⟩ := own3 oY
    go_wp2_with fail
    replace oQ := ((oQ.other (by first | (simp; done) | (simp; omega) | omega) (a := ⟨w.heap.size, 0, none⟩) (.int .i64 GL)).other (by first | (simp; done) | (simp; omega) | omega) (a := ⟨w.heap.size, 1, none⟩) (.int .i64 GH)).other (by first | (simp; done) | (simp; omega) | omega) (a := ⟨w.heap.size, 2, none⟩) (.int .i64 ba)
    replace oX := ((oX.other (by first | (simp; done) | (simp; omega) | omega) (a := ⟨w.heap.size, 0, none⟩) (.int .i64 GL)).other (by first | (simp; done) | (simp; omega) | omega) (a := ⟨w.heap.size, 1, none⟩) (.int .i64 GH)).other (by first | (simp; done) | (simp; omega) | omega) (a := ⟨w.heap.size, 2, none⟩) (.int .i64 ba)
    replace oY := ((oY.other (by first | (simp; done) | (simp; omega) | omega) (a := ⟨w.heap.size, 0, none⟩) (.int .i64 GL)).other (by first | (simp; done) | (simp; omega) | omega) (a := ⟨w.heap.size, 1, none⟩) (.int .i64 GH)).other (by first | (simp; done) | (simp; omega) | omega) (a := ⟨w.heap.size, 2, none⟩) (.int .i64 ba)
    replace bel := ((bel.setCell (p := ⟨w.heap.size, 0, none⟩) (by first | (simp; done) | (simp; omega) | omega) (.int .i64 GL)).setCell (p := ⟨w.heap.size, 1, none⟩) (by first | (simp; done) | (simp; omega) | omega) (.int .i64 GH)).setCell (p := ⟨w.heap.size, 2, none⟩) (by first | (simp; done) | (simp; omega) | omega) (.int .i64 ba)
    replace oP : Own _ (w.heap.size) [.int .i64 GL, .int .i64 GH, .int .i64 ba] 23 := ((oP.set 0 (.int .i64 GL)).set 1 (.int .i64 GH)).set 2 (.int .i64 ba)
    clear cP0 cP1 cP2 fP zP cQ0 cQ1 cQ2 fQ zQ cX0 cX1 cX2 fX zX cY0 cY1 cY2 fY zY
    generalize ((w4.setCell ⟨w.heap.size, 0, none⟩ (.int .i64 GL)).setCell ⟨w.heap.size, 1, none⟩ (.int .i64 GH)).setCell ⟨w.heap.size, 2, none⟩ (.int .i64 ba) = w4q at oP oQ oX oY bel ⊢
    obtain ⟨cP0, cP1, cP2, fP, zP⟩ := own3 oP
    obtain ⟨cQ0, cQ1, cQ2, fQ, zQ⟩ := own3 oQ
    obtain ⟨cX0, cX1, cX2, fX, zX⟩ := own3 oX
    obtain ⟨cY0, cY1, cY2, fY, zY⟩ := own3 oY
    go_wp2_with fail
    refine (inside_lit L H A GL GH ba true _ i1).mono ?_
    rintro e w5 ⟨rfl, hb⟩
    replace oP := oP.below hb
    replace oQ := oQ.below hb
    replace oX := oX.below hb
    replace oY := oY.below hb
    replace bel := belowTo bel hb (by exact bel.size)
    clear hb cP0 cP1 cP2 fP zP cQ0 cQ1 cQ2 fQ zQ cX0 cX1 cX2 fX zX cY0 cY1 cY2 fY zY
    obtain ⟨cP0, cP1, cP2, fP, zP⟩ := own3 oP
    obtain ⟨cQ0, cQ1, cQ2, fQ, zQ⟩ := own3 oQ
    obtain ⟨cX0, cX1, cX2, fX, zX⟩ := own3 oX
    obtain ⟨cY0, cY1, cY2, fY, zY⟩ := own3 oY
    go_wp2_with fail
    refine (inside_lit L H A bl bh ba true _ i2).mono ?_
    rintro e w6 ⟨rfl, hb⟩
    replace oP := oP.below hb
    replace oQ := oQ.below hb
    replace oX := oX.below hb
    replace oY := oY.below hb
    replace bel := belowTo bel hb (by exact bel.size)
    clear hb cP0 cP1 cP2 fP zP cQ0 cQ1 cQ2 fQ zQ cX0 cX1 cX2 fX zX cY0 cY1 cY2 fY zY
    obtain ⟨cP0, cP1, cP2, fP, zP⟩ := own3 oP
    obtain ⟨cQ0, cQ1, cQ2, fQ, zQ⟩ := own3 oQ
    obtain ⟨cX0, cX1, cX2, fX, zX⟩ := own3 oX
    obtain ⟨cY0, cY1, cY2, fY, zY⟩ := own3 oY
    go_wp2
    go_ret
    exact ⟨rfl, bel⟩

set_option maxRecDepth 100000 in
set_option maxHeartbeats 4000000 in
theorem boundOrder_Q (al ah aa bl bh ba L H A GL GH : Int) (w : World) (hlt : ba < aa) (h1 : mtL al ah aa bl bh ba = L ∧ mtH al ah aa bl bh ba = H ∧ mtA al ah aa bl bh ba = A ∧ mtE al ah aa bl bh ba = 0) (h2 : mtL bl bh ba al ah aa = L ∧ mtH bl bh ba al ah aa = H ∧ mtA bl bh ba al ah aa = A ∧ mtE bl bh ba al ah aa = 0)
    (h3 : grL bl bh ba aa = GL ∧ grH bl bh ba aa = GH ∧ grA bl bh ba aa = aa ∧ grE bl bh ba aa = 0) (i1 : inS L H A al ah aa = true) (i2 : inS L H A GL GH aa = true) (c1 : (L == al) = true ∨ ((L == al) = false ∧ (L == GL) = true)) (c2 : (H == ah) = true ∨ ((H == ah) = false ∧ (H == GH) = true)) :
    Calls Try.prog 4 #[.agg #[.int .i64 al, .int .i64 ah, .int .i64 aa], .agg #[.int .i64 bl, .int .i64 bh, .int .i64 ba]] w fun e w' => e = .returned (.bool true) ∧ Below w.heap.size w w' := by
  rcases c1 with c1 | ⟨c0, c1⟩ <;> rcases c2 with c2 | ⟨c3, c2⟩
  all_goals
    go_enter Try.func4, Try.ntmps4
    go_wp2_with fail
    refine (head_any _).mono ?_
    rintro e w1 ⟨rfl, hb⟩
    have oP : Own w1 w.heap.size [.int .i64 al, .int .i64 ah, .int .i64 aa] 23 := ((own_at _ _ rfl).alloc _).below hb
    have oQ : Own w1 (w.heap.size + 1) [.int .i64 bl, .int .i64 bh, .int .i64 ba] 23 := (own_at _ _ (by simp)).below hb
    have bel := belowTo (((Below.refl w.heap.size w).alloc (by simp) _).alloc (by simp) _) hb (by simp; omega)
    clear hb 
    obtain ⟨cP0, cP1, cP2, fP, zP⟩ := own3 oP
    obtain ⟨cQ0, cQ1, cQ2, fQ, zQ⟩ := own3 oQ
    go_wp2_with fail
    refine (meet_lit al ah aa bl bh ba L H A 0 _ h1).mono ?_
    rintro e w2 ⟨rfl, hb⟩
    replace oP := oP.below hb
    replace oQ := oQ.below hb
    replace bel := belowTo bel hb (by exact bel.size)
    clear hb cP0 cP1 cP2 fP zP cQ0 cQ1 cQ2 fQ zQ
    obtain ⟨cP0, cP1, cP2, fP, zP⟩ := own3 oP
    obtain ⟨cQ0, cQ1, cQ2, fQ, zQ⟩ := own3 oQ
    have kX := zQ
    go_wp2_with fail
    refine (meet_lit bl bh ba al ah aa L H A 0 _ h2).mono ?_
    rintro e w3 ⟨rfl, hb⟩
    replace oP := (oP.alloc _).below hb
    replace oQ := (oQ.alloc _).below hb
    have oX : Own w3 w2.heap.size [.int .i64 L, .int .i64 H, .int .i64 A] 23 := (own_at _ _ rfl).below hb
    replace bel := belowTo (bel.alloc (by have := bel.size; simp; omega) _) hb (by have := bel.size; simp; omega)
    clear hb cP0 cP1 cP2 fP zP cQ0 cQ1 cQ2 fQ zQ
    obtain ⟨cP0, cP1, cP2, fP, zP⟩ := own3 oP
    obtain ⟨cQ0, cQ1, cQ2, fQ, zQ⟩ := own3 oQ
    obtain ⟨cX0, cX1, cX2, fX, zX⟩ := own3 oX
    have kY := zQ
    go_wp2_with fail
    refine (bgrow_lit bl bh ba aa GL GH aa 0 _ h3).mono ?_
    rintro e w4 ⟨rfl, hb⟩
    replace oP := (oP.alloc _).below hb
    replace oQ := (oQ.alloc _).below hb
    replace oX := (oX.alloc _).below hb
    have oY : Own w4 w3.heap.size [.int .i64 L, .int .i64 H, .int .i64 A] 23 := (own_at _ _ rfl).below hb
    replace bel := belowTo (bel.alloc (by have := bel.size; simp; omega) _) hb (by have := bel.size; simp; omega)
    clear hb cP0 cP1 cP2 fP zP cQ0 cQ1 cQ2 fQ zQ cX0 cX1 cX2 fX zX
    obtain ⟨cP0, cP1, cP2, fP, zP⟩ := own3 oP
    obtain ⟨cQ0, cQ1, cQ2, fQ, zQ⟩ := own3 oQ
    obtain ⟨cX0, cX1, cX2, fX, zX⟩ := own3 oX
    obtain ⟨cY0, cY1, cY2, fY, zY⟩ := own3 oY
    go_wp2_with fail
    replace oP := ((oP.other (by first | (simp; done) | (simp; omega) | omega) (a := ⟨w.heap.size + 1, 0, none⟩) (.int .i64 GL)).other (by first | (simp; done) | (simp; omega) | omega) (a := ⟨w.heap.size + 1, 1, none⟩) (.int .i64 GH)).other (by first | (simp; done) | (simp; omega) | omega) (a := ⟨w.heap.size + 1, 2, none⟩) (.int .i64 aa)
    replace oX := ((oX.other (by first | (simp; done) | (simp; omega) | omega) (a := ⟨w.heap.size + 1, 0, none⟩) (.int .i64 GL)).other (by first | (simp; done) | (simp; omega) | omega) (a := ⟨w.heap.size + 1, 1, none⟩) (.int .i64 GH)).other (by first | (simp; done) | (simp; omega) | omega) (a := ⟨w.heap.size + 1, 2, none⟩) (.int .i64 aa)
    replace oY := ((oY.other (by first | (simp; done) | (simp; omega) | omega) (a := ⟨w.heap.size + 1, 0, none⟩) (.int .i64 GL)).other (by first | (simp; done) | (simp; omega) | omega) (a := ⟨w.heap.size + 1, 1, none⟩) (.int .i64 GH)).other (by first | (simp; done) | (simp; omega) | omega) (a := ⟨w.heap.size + 1, 2, none⟩) (.int .i64 aa)
    replace bel := ((bel.setCell (p := ⟨w.heap.size + 1, 0, none⟩) (by first | (simp; done) | (simp; omega) | omega) (.int .i64 GL)).setCell (p := ⟨w.heap.size + 1, 1, none⟩) (by first | (simp; done) | (simp; omega) | omega) (.int .i64 GH)).setCell (p := ⟨w.heap.size + 1, 2, none⟩) (by first | (simp; done) | (simp; omega) | omega) (.int .i64 aa)
    replace oQ : Own _ (w.heap.size + 1) [.int .i64 GL, .int .i64 GH, .int .i64 aa] 23 := ((oQ.set 0 (.int .i64 GL)).set 1 (.int .i64 GH)).set 2 (.int .i64 aa)
    clear cP0 cP1 cP2 fP zP cQ0 cQ1 cQ2 fQ zQ cX0 cX1 cX2 fX zX cY0 cY1 cY2 fY zY
    generalize ((w4.setCell ⟨w.heap.size + 1, 0, none⟩ (.int .i64 GL)).setCell ⟨w.heap.size + 1, 1, none⟩ (.int .i64 GH)).setCell ⟨w.heap.size + 1, 2, none⟩ (.int .i64 aa) = w4q at oP oQ oX oY bel ⊢
    obtain ⟨cP0, cP1, cP2, fP, zP⟩ := own3 oP
    obtain ⟨cQ0, cQ1, cQ2, fQ, zQ⟩ := own3 oQ
    obtain ⟨cX0, cX1, cX2, fX, zX⟩ := own3 oX
    obtain ⟨cY0, cY1, cY2, fY, zY⟩ := own3 oY
    go_wp2_with fail
    refine (inside_lit L H A al ah aa true _ i1).mono ?_
    rintro e w5 ⟨rfl, hb⟩
    replace oP := oP.below hb
    replace oQ := oQ.below hb
    replace oX := oX.below hb
    replace oY := oY.below hb
    replace bel := belowTo bel hb (by exact bel.size)
    clear hb cP0 cP1 cP2 fP zP cQ0 cQ1 cQ2 fQ zQ cX0 cX1 cX2 fX zX cY0 cY1 cY2 fY zY
    obtain ⟨cP0, cP1, cP2, fP, zP⟩ := own3 oP
    obtain ⟨cQ0, cQ1, cQ2, fQ, zQ⟩ := own3 oQ
    obtain ⟨cX0, cX1, cX2, fX, zX⟩ := own3 oX
    obtain ⟨cY0, cY1, cY2, fY, zY⟩ := own3 oY
    go_wp2_with fail
    refine (inside_lit L H A GL GH aa true _ i2).mono ?_
    rintro e w6 ⟨rfl, hb⟩
    replace oP := oP.below hb
    replace oQ := oQ.below hb
    replace oX := oX.below hb
    replace oY := oY.below hb
    replace bel := belowTo bel hb (by exact bel.size)
    clear hb cP0 cP1 cP2 fP zP cQ0 cQ1 cQ2 fQ zQ cX0 cX1 cX2 fX zX cY0 cY1 cY2 fY zY
    obtain ⟨cP0, cP1, cP2, fP, zP⟩ := own3 oP
    obtain ⟨cQ0, cQ1, cQ2, fQ, zQ⟩ := own3 oQ
    obtain ⟨cX0, cX1, cX2, fX, zX⟩ := own3 oX
    obtain ⟨cY0, cY1, cY2, fY, zY⟩ := own3 oY
    go_wp2
    go_ret
    exact ⟨rfl, bel⟩

set_option maxRecDepth 100000 in
set_option maxHeartbeats 4000000 in
theorem boundOrder_B (al ah aa bl bh ba L H A GL GH ML MH : Int) (w : World) (hab : (aa == ba) = true) (h1 : mtL al ah aa bl bh ba = L ∧ mtH al ah aa bl bh ba = H ∧ mtA al ah aa bl bh ba = A ∧ mtE al ah aa bl bh ba = 0) (h2 : mtL bl bh ba al ah aa = L ∧ mtH bl bh ba al ah aa = H ∧ mtA bl bh ba al ah aa = A ∧ mtE bl bh ba al ah aa = 0)
    (h3 : grL al ah aa aa = GL ∧ grH al ah aa aa = GH ∧ grA al ah aa aa = aa ∧ grE al ah aa aa = 0) (h4 : grL bl bh ba ba = ML ∧ grH bl bh ba ba = MH ∧ grA bl bh ba ba = ba ∧ grE bl bh ba ba = 0) (i1 : inS L H A GL GH aa = true) (i2 : inS L H A ML MH ba = true) (c1 : (L == GL) = true ∨ ((L == GL) = false ∧ (L == ML) = true)) (c2 : (H == GH) = true ∨ ((H == GH) = false ∧ (H == MH) = true)) :
    Calls Try.prog 4 #[.agg #[.int .i64 al, .int .i64 ah, .int .i64 aa], .agg #[.int .i64 bl, .int .i64 bh, .int .i64 ba]] w fun e w' => e = .returned (.bool true) ∧ Below w.heap.size w w' := by
  have hn1 : ¬ aa < ba := by have : aa = ba := by simpa using hab
                             omega
  have hn2 : ¬ ba < aa := by have : aa = ba := by simpa using hab
                             omega
  rcases c1 with c1 | ⟨c0, c1⟩ <;> rcases c2 with c2 | ⟨c3, c2⟩
  all_goals
    go_enter Try.func4, Try.ntmps4
    go_wp2_with fail
    refine (head_any _).mono ?_
    rintro e w1 ⟨rfl, hb⟩
    have oP : Own w1 w.heap.size [.int .i64 al, .int .i64 ah, .int .i64 aa] 23 := ((own_at _ _ rfl).alloc _).below hb
    have oQ : Own w1 (w.heap.size + 1) [.int .i64 bl, .int .i64 bh, .int .i64 ba] 23 := (own_at _ _ (by simp)).below hb
    have bel := belowTo (((Below.refl w.heap.size w).alloc (by simp) _).alloc (by simp) _) hb (by simp; omega)
    clear hb 
    obtain ⟨cP0, cP1, cP2, fP, zP⟩ := own3 oP
    obtain ⟨cQ0, cQ1, cQ2, fQ, zQ⟩ := own3 oQ
    go_wp2_with fail
    refine (meet_lit al ah aa bl bh ba L H A 0 _ h1).mono ?_
    rintro e w2 ⟨rfl, hb⟩
    replace oP := oP.below hb
    replace oQ := oQ.below hb
    replace bel := belowTo bel hb (by exact bel.size)
    clear hb cP0 cP1 cP2 fP zP cQ0 cQ1 cQ2 fQ zQ
    obtain ⟨cP0, cP1, cP2, fP, zP⟩ := own3 oP
    obtain ⟨cQ0, cQ1, cQ2, fQ, zQ⟩ := own3 oQ
    have kX := zQ
    go_wp2_with fail
    refine (meet_lit bl bh ba al ah aa L H A 0 _ h2).mono ?_
    rintro e w3 ⟨rfl, hb⟩
    replace oP := (oP.alloc _).below hb
    replace oQ := (oQ.alloc _).below hb
    have oX : Own w3 w2.heap.size [.int .i64 L, .int .i64 H, .int .i64 A] 23 := (own_at _ _ rfl).below hb
    replace bel := belowTo (bel.alloc (by have := bel.size; simp; omega) _) hb (by have := bel.size; simp; omega)
    clear hb cP0 cP1 cP2 fP zP cQ0 cQ1 cQ2 fQ zQ
    obtain ⟨cP0, cP1, cP2, fP, zP⟩ := own3 oP
    obtain ⟨cQ0, cQ1, cQ2, fQ, zQ⟩ := own3 oQ
    obtain ⟨cX0, cX1, cX2, fX, zX⟩ := own3 oX
    have kY := zQ
    go_wp2_with fail
    refine (bgrow_lit al ah aa aa GL GH aa 0 _ h3).mono ?_
    rintro e w4 ⟨rfl, hb⟩
    replace oP := (oP.alloc _).below hb
    replace oQ := (oQ.alloc _).below hb
    replace oX := (oX.alloc _).below hb
    have oY : Own w4 w3.heap.size [.int .i64 L, .int .i64 H, .int .i64 A] 23 := (own_at _ _ rfl).below hb
    replace bel := belowTo (bel.alloc (by have := bel.size; simp; omega) _) hb (by have := bel.size; simp; omega)
    clear hb cP0 cP1 cP2 fP zP cQ0 cQ1 cQ2 fQ zQ cX0 cX1 cX2 fX zX
    obtain ⟨cP0, cP1, cP2, fP, zP⟩ := own3 oP
    obtain ⟨cQ0, cQ1, cQ2, fQ, zQ⟩ := own3 oQ
    obtain ⟨cX0, cX1, cX2, fX, zX⟩ := own3 oX
    obtain ⟨cY0, cY1, cY2, fY, zY⟩ := own3 oY
    go_wp2_with fail
    replace oQ := ((oQ.other (by first | (simp; done) | (simp; omega) | omega) (a := ⟨w.heap.size, 0, none⟩) (.int .i64 GL)).other (by first | (simp; done) | (simp; omega) | omega) (a := ⟨w.heap.size, 1, none⟩) (.int .i64 GH)).other (by first | (simp; done) | (simp; omega) | omega) (a := ⟨w.heap.size, 2, none⟩) (.int .i64 aa)
    replace oX := ((oX.other (by first | (simp; done) | (simp; omega) | omega) (a := ⟨w.heap.size, 0, none⟩) (.int .i64 GL)).other (by first | (simp; done) | (simp; omega) | omega) (a := ⟨w.heap.size, 1, none⟩) (.int .i64 GH)).other (by first | (simp; done) | (simp; omega) | omega) (a := ⟨w.heap.size, 2, none⟩) (.int .i64 aa)
    replace oY := ((oY.other (by first | (simp; done) | (simp; omega) | omega) (a := ⟨w.heap.size, 0, none⟩) (.int .i64 GL)).other (by first | (simp; done) | (simp; omega) | omega) (a := ⟨w.heap.size, 1, none⟩) (.int .i64 GH)).other (by first | (simp; done) | (simp; omega) | omega) (a := ⟨w.heap.size, 2, none⟩) (.int .i64 aa)
    replace bel := ((bel.setCell (p := ⟨w.heap.size, 0, none⟩) (by first | (simp; done) | (simp; omega) | omega) (.int .i64 GL)).setCell (p := ⟨w.heap.size, 1, none⟩) (by first | (simp; done) | (simp; omega) | omega) (.int .i64 GH)).setCell (p := ⟨w.heap.size, 2, none⟩) (by first | (simp; done) | (simp; omega) | omega) (.int .i64 aa)
    replace oP : Own _ (w.heap.size) [.int .i64 GL, .int .i64 GH, .int .i64 aa] 23 := ((oP.set 0 (.int .i64 GL)).set 1 (.int .i64 GH)).set 2 (.int .i64 aa)
    clear cP0 cP1 cP2 fP zP cQ0 cQ1 cQ2 fQ zQ cX0 cX1 cX2 fX zX cY0 cY1 cY2 fY zY
    generalize ((w4.setCell ⟨w.heap.size, 0, none⟩ (.int .i64 GL)).setCell ⟨w.heap.size, 1, none⟩ (.int .i64 GH)).setCell ⟨w.heap.size, 2, none⟩ (.int .i64 aa) = w4q at oP oQ oX oY bel ⊢
    obtain ⟨cP0, cP1, cP2, fP, zP⟩ := own3 oP
    obtain ⟨cQ0, cQ1, cQ2, fQ, zQ⟩ := own3 oQ
    obtain ⟨cX0, cX1, cX2, fX, zX⟩ := own3 oX
    obtain ⟨cY0, cY1, cY2, fY, zY⟩ := own3 oY
    go_wp2_with fail
    refine (bgrow_lit bl bh ba ba ML MH ba 0 _ h4).mono ?_
    rintro e w5 ⟨rfl, hb⟩
    replace oP := oP.below hb
    replace oQ := oQ.below hb
    replace oX := oX.below hb
    replace oY := oY.below hb
    replace bel := belowTo bel hb (by exact bel.size)
    clear hb cP0 cP1 cP2 fP zP cQ0 cQ1 cQ2 fQ zQ cX0 cX1 cX2 fX zX cY0 cY1 cY2 fY zY
    obtain ⟨cP0, cP1, cP2, fP, zP⟩ := own3 oP
    obtain ⟨cQ0, cQ1, cQ2, fQ, zQ⟩ := own3 oQ
    obtain ⟨cX0, cX1, cX2, fX, zX⟩ := own3 oX
    obtain ⟨cY0, cY1, cY2, fY, zY⟩ := own3 oY
    go_wp2_with fail
    replace oP := ((oP.other (by first | (simp; done) | (simp; omega) | omega) (a := ⟨w.heap.size + 1, 0, none⟩) (.int .i64 ML)).other (by first | (simp; done) | (simp; omega) | omega) (a := ⟨w.heap.size + 1, 1, none⟩) (.int .i64 MH)).other (by first | (simp; done) | (simp; omega) | omega) (a := ⟨w.heap.size + 1, 2, none⟩) (.int .i64 ba)
    replace oX := ((oX.other (by first | (simp; done) | (simp; omega) | omega) (a := ⟨w.heap.size + 1, 0, none⟩) (.int .i64 ML)).other (by first | (simp; done) | (simp; omega) | omega) (a := ⟨w.heap.size + 1, 1, none⟩) (.int .i64 MH)).other (by first | (simp; done) | (simp; omega) | omega) (a := ⟨w.heap.size + 1, 2, none⟩) (.int .i64 ba)
    replace oY := ((oY.other (by first | (simp; done) | (simp; omega) | omega) (a := ⟨w.heap.size + 1, 0, none⟩) (.int .i64 ML)).other (by first | (simp; done) | (simp; omega) | omega) (a := ⟨w.heap.size + 1, 1, none⟩) (.int .i64 MH)).other (by first | (simp; done) | (simp; omega) | omega) (a := ⟨w.heap.size + 1, 2, none⟩) (.int .i64 ba)
    replace bel := ((bel.setCell (p := ⟨w.heap.size + 1, 0, none⟩) (by first | (simp; done) | (simp; omega) | omega) (.int .i64 ML)).setCell (p := ⟨w.heap.size + 1, 1, none⟩) (by first | (simp; done) | (simp; omega) | omega) (.int .i64 MH)).setCell (p := ⟨w.heap.size + 1, 2, none⟩) (by first | (simp; done) | (simp; omega) | omega) (.int .i64 ba)
    replace oQ : Own _ (w.heap.size + 1) [.int .i64 ML, .int .i64 MH, .int .i64 ba] 23 := ((oQ.set 0 (.int .i64 ML)).set 1 (.int .i64 MH)).set 2 (.int .i64 ba)
    clear cP0 cP1 cP2 fP zP cQ0 cQ1 cQ2 fQ zQ cX0 cX1 cX2 fX zX cY0 cY1 cY2 fY zY
    generalize ((w5.setCell ⟨w.heap.size + 1, 0, none⟩ (.int .i64 ML)).setCell ⟨w.heap.size + 1, 1, none⟩ (.int .i64 MH)).setCell ⟨w.heap.size + 1, 2, none⟩ (.int .i64 ba) = w5q at oP oQ oX oY bel ⊢
    obtain ⟨cP0, cP1, cP2, fP, zP⟩ := own3 oP
    obtain ⟨cQ0, cQ1, cQ2, fQ, zQ⟩ := own3 oQ
    obtain ⟨cX0, cX1, cX2, fX, zX⟩ := own3 oX
    obtain ⟨cY0, cY1, cY2, fY, zY⟩ := own3 oY
    go_wp2_with fail
    refine (inside_lit L H A GL GH aa true _ i1).mono ?_
    rintro e w6 ⟨rfl, hb⟩
    replace oP := oP.below hb
    replace oQ := oQ.below hb
    replace oX := oX.below hb
    replace oY := oY.below hb
    replace bel := belowTo bel hb (by exact bel.size)
    clear hb cP0 cP1 cP2 fP zP cQ0 cQ1 cQ2 fQ zQ cX0 cX1 cX2 fX zX cY0 cY1 cY2 fY zY
    obtain ⟨cP0, cP1, cP2, fP, zP⟩ := own3 oP
    obtain ⟨cQ0, cQ1, cQ2, fQ, zQ⟩ := own3 oQ
    obtain ⟨cX0, cX1, cX2, fX, zX⟩ := own3 oX
    obtain ⟨cY0, cY1, cY2, fY, zY⟩ := own3 oY
    go_wp2_with fail
    refine (inside_lit L H A ML MH ba true _ i2).mono ?_
    rintro e w7 ⟨rfl, hb⟩
    replace oP := oP.below hb
    replace oQ := oQ.below hb
    replace oX := oX.below hb
    replace oY := oY.below hb
    replace bel := belowTo bel hb (by exact bel.size)
    clear hb cP0 cP1 cP2 fP zP cQ0 cQ1 cQ2 fQ zQ cX0 cX1 cX2 fX zX cY0 cY1 cY2 fY zY
    obtain ⟨cP0, cP1, cP2, fP, zP⟩ := own3 oP
    obtain ⟨cQ0, cQ1, cQ2, fQ, zQ⟩ := own3 oQ
    obtain ⟨cX0, cX1, cX2, fX, zX⟩ := own3 oX
    obtain ⟨cY0, cY1, cY2, fY, zY⟩ := own3 oY
    go_wp2
    go_ret
    exact ⟨rfl, bel⟩

end Go.Proofs.Ytaodaglaflohbaa

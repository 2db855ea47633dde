/- The fixed examples of the clock's laws: they hold. -/
import Derived.Test.YtkhplghncbgdfaaLaw07
namespace Go.Proofs.Ytkhplghncbgdfaa
open Go.RowKit

theorem shows_yes (o d t s : Int) (w : World) (h : (okS o d t && (shN o d t == s)) = true) :
    Calls Try.prog 19 #[.agg #[.int .i64 o, .int .i64 d], .int .i64 t, .int .i64 s] w
      fun e w' => e = .returned (.bool true) ∧ Below w.heap.size w w' := by
  have := shows_any o d t s w
  rwa [h] at this

theorem when_lit (o d s a b c : Int) (w : World) (h : whL o d s = a ∧ whH o d s = b ∧ whE o d s = c) :
    Calls Try.prog 13 #[.agg #[.int .i64 o, .int .i64 d], .int .i64 s] w
      fun e w' => e = .returned (.tuple #[.agg #[.int .i64 a, .int .i64 b], .int .i64 c]) ∧ Below w.heap.size w w' := by
  have := when_any o d s w
  rwa [h.1, h.2.1, h.2.2] at this

theorem show_lit (o d t a b : Int) (w : World) (h : shN o d t = a ∧ shE o d t = b) :
    Calls Try.prog 11 #[.agg #[.int .i64 o, .int .i64 d], .int .i64 t] w
      fun e w' => e = .returned (.tuple #[.int .i64 a, .int .i64 b]) ∧ Below w.heap.size w w' := by
  have := show_any o d t w
  rwa [h.1, h.2] at this

theorem valid_lit (o d : Int) (b : Bool) (w : World) (h : vldB o d = b) :
    Calls Try.prog 15 #[.agg #[.int .i64 o, .int .i64 d]] w fun e w' => e = .returned (.bool b) ∧ Below w.heap.size w w' := by
  have := valid_any o d w
  rwa [h] at this

set_option maxRecDepth 100000 in
set_option maxHeartbeats 6400000 in
theorem head_any (w : World) :
    Calls Try.prog 10 #[] w fun e w' => e = .returned (.bool true) ∧ Below w.heap.size w w' := by
  go_enter Try.func10, Try.ntmps10
  go_wp2_with fail
  have bel : Below w.heap.size w ((w.alloc (Obj.cells #[Value.int IntKind.i64 0, Value.int IntKind.i64 50] 23)).alloc (Obj.cells #[Value.int IntKind.i64 0, Value.int IntKind.i64 (-50)] 23)) := (belowNew w _).alloc (by simp) _
  refine (shows_yes 7 0 100 107 _ (by decide +kernel)).mono ?_
  rintro e w1 ⟨rfl, hb⟩
  have oF : Own w1 w.heap.size [.int .i64 0, .int .i64 50] 23 := ((own_at _ _ rfl).alloc _).below hb
  have oS : Own w1 (w.heap.size + 1) [.int .i64 0, .int .i64 (-50)] 23 := (own_at _ _ (by simp)).below hb
  replace bel := belowTo bel hb bel.size
  clear hb
  obtain ⟨cF0, cF1, fF, zF⟩ := own2 oF
  obtain ⟨cS0, cS1, fS, zS⟩ := own2 oS
  go_wp2_with fail
  refine (shows_yes 0 50 20000 20001 _ (by decide +kernel)).mono ?_
  rintro e w2 ⟨rfl, hb⟩
  replace oF := oF.below hb
  replace oS := oS.below hb
  replace bel := belowTo bel hb bel.size
  clear hb cF0 cF1 fF zF cS0 cS1 fS zS
  obtain ⟨cF0, cF1, fF, zF⟩ := own2 oF
  obtain ⟨cS0, cS1, fS, zS⟩ := own2 oS
  go_wp2_with fail
  refine (shows_yes 0 (-50) 0 0 _ (by decide +kernel)).mono ?_
  rintro e w3 ⟨rfl, hb⟩
  replace oF := oF.below hb
  replace oS := oS.below hb
  replace bel := belowTo bel hb bel.size
  clear hb cF0 cF1 fF zF cS0 cS1 fS zS
  obtain ⟨cF0, cF1, fF, zF⟩ := own2 oF
  obtain ⟨cS0, cS1, fS, zS⟩ := own2 oS
  go_wp2_with fail
  refine (shows_yes 0 (-50) 1 0 _ (by decide +kernel)).mono ?_
  rintro e w4 ⟨rfl, hb⟩
  replace oF := oF.below hb
  replace oS := oS.below hb
  replace bel := belowTo bel hb bel.size
  clear hb cF0 cF1 fF zF cS0 cS1 fS zS
  obtain ⟨cF0, cF1, fF, zF⟩ := own2 oF
  obtain ⟨cS0, cS1, fS, zS⟩ := own2 oS
  go_wp2_with fail
  refine (shows_yes 0 (-50) 20001 19999 _ (by decide +kernel)).mono ?_
  rintro e w5 ⟨rfl, hb⟩
  replace oF := oF.below hb
  replace oS := oS.below hb
  replace bel := belowTo bel hb bel.size
  clear hb cF0 cF1 fF zF cS0 cS1 fS zS
  obtain ⟨cF0, cF1, fF, zF⟩ := own2 oF
  obtain ⟨cS0, cS1, fS, zS⟩ := own2 oS
  go_wp2_with fail
  refine (when_lit 0 50 20000 0 0 4 _ (by decide +kernel)).mono ?_
  rintro e w6 ⟨rfl, hb⟩
  replace oF := oF.below hb
  replace oS := oS.below hb
  replace bel := belowTo bel hb bel.size
  clear hb cF0 cF1 fF zF cS0 cS1 fS zS
  obtain ⟨cF0, cF1, fF, zF⟩ := own2 oF
  obtain ⟨cS0, cS1, fS, zS⟩ := own2 oS
  go_wp2_with fail
  refine (when_lit 0 (-50) 0 0 1 0 _ (by decide +kernel)).mono ?_
  rintro e w7 ⟨rfl, hb⟩
  replace oF := (oF.alloc _).below hb
  replace oS := (oS.alloc _).below hb
  replace bel := belowTo (bel.alloc bel.size _) hb (by have := bel.size; simp; omega)
  clear hb cF0 cF1 fF zF cS0 cS1 fS zS
  obtain ⟨cF0, cF1, fF, zF⟩ := own2 oF
  obtain ⟨cS0, cS1, fS, zS⟩ := own2 oS
  go_wp2_with fail
  refine (when_lit 0 (-50) 19999 20000 20001 0 _ (by decide +kernel)).mono ?_
  rintro e w8 ⟨rfl, hb⟩
  have oX : Own w8 w7.heap.size [.int .i64 0, .int .i64 1] 29 := (own_at _ _ rfl).below hb
  replace oF := (oF.alloc _).below hb
  clear oS
  replace bel := belowTo (bel.alloc bel.size _) hb (by have := bel.size; simp; omega)
  clear hb cF0 cF1 fF zF cS0 cS1 fS zS
  obtain ⟨cF0, cF1, fF, zF⟩ := own2 oF
  obtain ⟨cX0, cX1, fX, zX⟩ := own2 oX
  go_wp2_with fail
  refine (show_lit 0 51 0 0 1 _ (by decide +kernel)).mono ?_
  rintro e w9 ⟨rfl, hb⟩
  have oY : Own w9 w8.heap.size [.int .i64 20000, .int .i64 20001] 29 := (own_at _ _ rfl).below hb
  replace oF := (oF.alloc _).below hb
  replace oX := (oX.alloc _).below hb
  replace bel := belowTo (bel.alloc bel.size _) hb (by have := bel.size; simp; omega)
  clear hb cF0 cF1 fF zF cX0 cX1 fX zX
  obtain ⟨cF0, cF1, fF, zF⟩ := own2 oF
  obtain ⟨cX0, cX1, fX, zX⟩ := own2 oX
  obtain ⟨cY0, cY1, fY, zY⟩ := own2 oY
  go_wp2_with fail
  refine (valid_lit 0 50 true _ (by decide +kernel)).mono ?_
  rintro e w10 ⟨rfl, hb⟩
  clear oF
  replace oX := oX.below hb
  replace oY := oY.below hb
  replace bel := belowTo bel hb bel.size
  clear hb cF0 cF1 fF zF cX0 cX1 fX zX cY0 cY1 fY zY
  obtain ⟨cX0, cX1, fX, zX⟩ := own2 oX
  obtain ⟨cY0, cY1, fY, zY⟩ := own2 oY
  go_wp2_with fail
  refine (valid_lit 1000000001 0 false _ (by decide +kernel)).mono ?_
  rintro e w11 ⟨rfl, hb⟩
  replace oX := oX.below hb
  replace oY := oY.below hb
  replace bel := belowTo bel hb bel.size
  clear hb cX0 cX1 fX zX cY0 cY1 fY zY
  obtain ⟨cX0, cX1, fX, zX⟩ := own2 oX
  obtain ⟨cY0, cY1, fY, zY⟩ := own2 oY
  go_wp2
  go_ret
  exact ⟨rfl, bel⟩

end Go.Proofs.Ytkhplghncbgdfaa

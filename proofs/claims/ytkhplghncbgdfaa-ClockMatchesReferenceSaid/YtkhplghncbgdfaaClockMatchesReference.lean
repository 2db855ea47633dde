/- ClockMatchesReference: the walk of the law. It returns true for every clock and all numbers, and leaves old memory alone. -/
import Derived.Test.YtkhplghncbgdfaaHead07
import Derived.Test.YtkhplghncbgdfaaLits07
import Derived.Test.YtkhplghncbgdfaaRef07b
namespace Go.Proofs.Ytkhplghncbgdfaa
open Go.RowKit

theorem rshow_lit (o d t a b : Int) (w : World) (h : shN o d t = a ∧ shE o d t = b) :
    Calls Try.prog 12 #[.agg #[.int .i64 o, .int .i64 d], .int .i64 t] w
      fun e w' => e = .returned (.tuple #[.int .i64 a, .int .i64 b]) ∧ Below w.heap.size w w' := by
  have := rshow_any o d t w
  rwa [h.1, h.2] at this
theorem rwhen_lit (o d s a b c : Int) (w : World) (h : whL o d s = a ∧ whH o d s = b ∧ whE o d s = c) :
    Calls Try.prog 14 #[.agg #[.int .i64 o, .int .i64 d], .int .i64 s] w
      fun e w' => e = .returned (.tuple #[.agg #[.int .i64 a, .int .i64 b], .int .i64 c]) ∧ Below w.heap.size w w' := by
  have := rwhen_any o d s w
  rwa [h.1, h.2.1, h.2.2] at this

set_option maxHeartbeats 2000000 in
theorem clockMatchesReference_core (o d t s A E L H G : Int) (b : Bool) (w : World) (hv : vldB o d = b) (h1 : shN o d t = A ∧ shE o d t = E) (h2 : whL o d s = L ∧ whH o d s = H ∧ whE o d s = G) :
    Calls Try.prog 3 #[.agg #[.int .i64 o, .int .i64 d], .int .i64 t, .int .i64 s] w fun e w' => e = .returned (.bool true) ∧ Below w.heap.size w w' := by
  go_enter Try.func3, Try.ntmps3
  go_wp2_with fail
  refine (head_any _).mono ?_
  rintro e w1 ⟨rfl, hb⟩
  have oC : Own w1 w.heap.size [.int .i64 o, .int .i64 d] 23 := (own_at _ _ rfl).below hb
  have bel := belowTo ((Below.refl w.heap.size w).alloc (by simp) _) hb (by simp)
  clear hb 
  obtain ⟨cC0, cC1, fC, zC⟩ := own2 oC
  go_wp2_with fail
  refine (show_lit o d t A E _ h1).mono ?_
  rintro e w2 ⟨rfl, hb⟩
  replace oC := oC.below hb
  replace bel := belowTo bel hb (by exact bel.size)
  clear hb cC0 cC1 fC zC
  obtain ⟨cC0, cC1, fC, zC⟩ := own2 oC
  go_wp2_with fail
  refine (rshow_lit o d t A E _ h1).mono ?_
  rintro e w3 ⟨rfl, hb⟩
  replace oC := oC.below hb
  replace bel := belowTo bel hb (by exact bel.size)
  clear hb cC0 cC1 fC zC
  obtain ⟨cC0, cC1, fC, zC⟩ := own2 oC
  go_wp2_with fail
  refine (when_lit o d s L H G _ h2).mono ?_
  rintro e w4 ⟨rfl, hb⟩
  replace oC := oC.below hb
  replace bel := belowTo bel hb (by exact bel.size)
  clear hb cC0 cC1 fC zC
  obtain ⟨cC0, cC1, fC, zC⟩ := own2 oC
  go_wp2_with fail
  refine (rwhen_lit o d s L H G _ h2).mono ?_
  rintro e w5 ⟨rfl, hb⟩
  replace oC := (oC.alloc _).below hb
  have oX : Own w5 w4.heap.size [.int .i64 L, .int .i64 H] 29 := (own_at _ _ rfl).below hb
  replace bel := belowTo (bel.alloc (by have := bel.size; simp; omega) _) hb (by have := bel.size; simp; omega)
  clear hb cC0 cC1 fC zC
  obtain ⟨cC0, cC1, fC, zC⟩ := own2 oC
  obtain ⟨cX0, cX1, fX, zX⟩ := own2 oX
  go_wp2_with fail
  have oY : Own (w5.alloc (Obj.cells #[Value.int IntKind.i64 L, Value.int IntKind.i64 H] 29)) w5.heap.size [.int .i64 L, .int .i64 H] 29 := own_at _ _ rfl
  replace oC := oC.alloc (Obj.cells #[Value.int IntKind.i64 L, Value.int IntKind.i64 H] 29)
  replace oX := oX.alloc (Obj.cells #[Value.int IntKind.i64 L, Value.int IntKind.i64 H] 29)
  replace bel := bel.alloc bel.size (Obj.cells #[Value.int IntKind.i64 L, Value.int IntKind.i64 H] 29)
  generalize w5.alloc (Obj.cells #[Value.int IntKind.i64 L, Value.int IntKind.i64 H] 29) = wz at oC oX oY bel ⊢
  clear cC0 cC1 fC zC cX0 cX1 fX zX
  have pC0 := fun x : Past wz => (oC.past x).cell (i := 0) rfl
  have pC1 := fun x : Past wz => (oC.past x).cell (i := 1) rfl
  have pX0 := fun x : Past wz => (oX.past x).cell (i := 0) rfl
  have pX1 := fun x : Past wz => (oX.past x).cell (i := 1) rfl
  have pY0 := fun x : Past wz => (oY.past x).cell (i := 0) rfl
  have pY1 := fun x : Past wz => (oY.past x).cell (i := 1) rfl
  refine wp_region_past (by kernel_rfl) (by kernel_rfl) ?_
  repeat (go_big_quiet_step ((first | (go_at_call 15; exact calls_past (valid_lit o d b _ hv)) | (go_at_call 16; exact calls_past (rvalid_lit o d b _ hv)))))
  refine wpQuiet_nil ?_
  rintro _ ⟨x, rfl⟩
  have bel2 := bel.trans (x.h.mono bel.size)
  go_wp2
  go_ret
  exact ⟨rfl, bel2⟩

theorem clockMatchesReference_walk (o d t s : Int) (w : World) (_bo : IntKind.i64.has o) (_bd : IntKind.i64.has d) (_bt : IntKind.i64.has t) (_bs : IntKind.i64.has s) :
    Calls Try.prog 3 #[.agg #[.int .i64 o, .int .i64 d], .int .i64 t, .int .i64 s] w fun e w' => e = .returned (.bool true) ∧ Below w.heap.size w w' := by
  exact clockMatchesReference_core o d t s _ _ _ _ _ _ w rfl ⟨rfl, rfl⟩ ⟨rfl, rfl, rfl⟩

end Go.Proofs.Ytkhplghncbgdfaa

/- TimesyncRoot: the walk of the law. It returns true for every input, and leaves old memory alone. -/
import Derived.Test.YtfclodgfifbfbaaHead09
import Derived.Test.YtfclodgfifbfbaaIs09
import Derived.Test.YtfclodgfifbfbaaSlice
namespace Go.Proofs.Ytfclodgfifbfbaa
open Go.RowKit

set_option linter.unusedVariables false in
set_option maxRecDepth 100000 in
set_option maxHeartbeats 4000000 in
theorem timesyncRoot_long (p : Option Addr) (cap L : Nat) (n : Int) (w : World) (hL : 40 < L) (hM : L ≤ 9223372036854775807) :
    Calls Try.prog 8 #[.slice p L cap, .int .i64 n] w fun e w' => e = .returned (.bool true) ∧ Below w.heap.size w w' := by
  go_enter Try.func8, Try.ntmps8
  go_wp2_with fail
  refine (head_any _).mono ?_
  rintro e w1 ⟨rfl, hb⟩
  have bel := belowTo (Below.refl w.heap.size w) hb (by simp)
  clear hb 
  go_wp2
  go_ret
  exact ⟨rfl, bel⟩

set_option linter.unusedVariables false in
set_option maxRecDepth 100000 in
set_option maxHeartbeats 4000000 in
theorem timesyncRoot_walk (v : Value) (rows : List (List Int)) (n : Int) (w : World) (sl : Sl w v [.i64, .i64, .i64, .i64, .i64] rows) (_1 : IntKind.i64.has n) :
    Calls Try.prog 8 #[v, .int .i64 n] w fun e w' => e = .returned (.bool true) ∧ Below w.heap.size w w' := by
  obtain ⟨p, cap, rfl, hM, parts⟩ := sl.parts
  unfold maxLen at hM
  clear sl _1
  by_cases hL : 40 < rows.length
  · exact timesyncRoot_long p cap _ n w hL hM
  have e1 := ne_ts_lit true 0 0 0 0 (-1) 0 true 0 0 0 0 (-1) 0 (tsB_self _ _ _ _ _ _ _)
  have e2 := eq_ts_lit false 0 0 0 60 (-1) 0 false 0 0 0 60 (-1) 0 (tsB_self _ _ _ _ _ _ _)
  go_enter Try.func8, Try.ntmps8
  go_wp2_with fail
  refine (head_any _).mono ?_
  rintro e w1 ⟨rfl, hb⟩
  have bel := belowTo (Below.refl w.heap.size w) hb (by simp)
  clear hb 
  go_wp2_with fail
  refine (start_any true _).mono ?_
  rintro e w2 ⟨rfl, hb⟩
  replace bel := belowTo bel hb (by exact bel.size)
  clear hb 
  go_wp2_with fail
  have kS : w.heap.size ≤ w2.heap.size := bel.size
  have oS : Own (w2.alloc (Obj.cells #[.bool true, .int .i64 0, .int .i64 0, .int .i64 0, .int .i64 0, .int .i64 (-1), .int .i64 0] 25)) w2.heap.size [.bool true, .int .i64 0, .int .i64 0, .int .i64 0, .int .i64 0, .int .i64 (-1), .int .i64 0] 25 := own_at _ _ rfl
  replace bel := bel.alloc bel.size (Obj.cells #[.bool true, .int .i64 0, .int .i64 0, .int .i64 0, .int .i64 0, .int .i64 (-1), .int .i64 0] 25)
  generalize w2.alloc (Obj.cells #[.bool true, .int .i64 0, .int .i64 0, .int .i64 0, .int .i64 0, .int .i64 (-1), .int .i64 0] 25) = w3 at oS bel ⊢
  obtain ⟨cS0, cS1, cS2, cS3, cS4, cS5, cS6, fS, zS⟩ := own7 oS
  go_loopw [23] (fun i wr => ∃ k : Nat, k ≤ rows.length ∧ i = .int .i64 k ∧ Own wr w2.heap.size [.bool true, .int .i64 0, .int .i64 0, .int .i64 0, .int .i64 0, .int .i64 (-1), .int .i64 0] 25 ∧ Below w.heap.size w wr ∧ w.heap.size ≤ w2.heap.size) (fun i _ => rows.length - (intOf i).toNat)
  case atStart => exact ⟨0, Nat.zero_le _, rfl, oS, bel, kS⟩
  case round =>
    clear oS bel cS0 cS1 cS2 cS3 cS4 cS5 cS6 fS zS
    obtain ⟨k, hk, rfl, oS, bel, kS⟩ := hrel
    by_cases hlt : k < rows.length
    · obtain ⟨b, off, ns, rfl, hbw, hns, hrow⟩ := parts k hlt
      obtain ⟨f, _, hf, df⟩ := hrow.at 0 rfl
      obtain ⟨p, _, hp, dp⟩ := hrow.at 1 rfl
      obtain ⟨x, _, hx, dx⟩ := hrow.at 2 rfl
      obtain ⟨s, _, hs, ds⟩ := hrow.at 3 rfl
      obtain ⟨c, _, hc, dc⟩ := hrow.at 4 rfl
      simp only [List.length_cons, List.length_nil, Nat.reduceAdd, Nat.add_zero] at df dp dx ds dc
      rw [← bel.cell (p := ⟨b, _, none⟩) hbw] at df
      rw [← bel.cell (p := ⟨b, _, none⟩) hbw] at dp
      rw [← bel.cell (p := ⟨b, _, none⟩) hbw] at dx
      rw [← bel.cell (p := ⟨b, _, none⟩) hbw] at ds
      rw [← bel.cell (p := ⟨b, _, none⟩) hbw] at dc
      clear parts hrow hns
      obtain ⟨cS0, cS1, cS2, cS3, cS4, cS5, cS6, fS, zS⟩ := own7 oS
      go_wp2_with fail
      refine (hear_same true 0 0 0 0 (-1) 0 f p x s c _ _ rfl (by simp [hrC, tkB])).mono ?_
      rintro e w4 ⟨rfl, hb⟩
      replace oS := (oS.alloc _).below hb
      replace bel := belowTo (bel.alloc (by have := bel.size; simp; omega) _) hb (by have := bel.size; simp; omega)
      clear hb cS0 cS1 cS2 cS3 cS4 cS5 cS6 fS zS
      obtain ⟨cS0, cS1, cS2, cS3, cS4, cS5, cS6, fS, zS⟩ := own7 oS
      have kX : w2.heap.size < w4.heap.size := zS
      go_wp2_with fail
      have oX : Own (w4.alloc (Obj.cells #[.bool true, .int .i64 0, .int .i64 0, .int .i64 0, .int .i64 0, .int .i64 (-1), .int .i64 0] 25)) w4.heap.size [.bool true, .int .i64 0, .int .i64 0, .int .i64 0, .int .i64 0, .int .i64 (-1), .int .i64 0] 25 := own_at _ _ rfl
      replace oS := oS.alloc (Obj.cells #[.bool true, .int .i64 0, .int .i64 0, .int .i64 0, .int .i64 0, .int .i64 (-1), .int .i64 0] 25)
      replace bel := bel.alloc bel.size (Obj.cells #[.bool true, .int .i64 0, .int .i64 0, .int .i64 0, .int .i64 0, .int .i64 (-1), .int .i64 0] 25)
      clear cS0 cS1 cS2 cS3 cS4 cS5 cS6 fS zS
      generalize w4.alloc (Obj.cells #[.bool true, .int .i64 0, .int .i64 0, .int .i64 0, .int .i64 0, .int .i64 (-1), .int .i64 0] 25) = w5 at oS oX bel ⊢
      obtain ⟨cS0, cS1, cS2, cS3, cS4, cS5, cS6, fS, zS⟩ := own7 oS
      obtain ⟨cX0, cX1, cX2, cX3, cX4, cX5, cX6, fX, zX⟩ := own7 oX
      have pS0 := fun x : Past w5 => (oS.past x).cell (i := 0) rfl
      have pS1 := fun x : Past w5 => (oS.past x).cell (i := 1) rfl
      have pS2 := fun x : Past w5 => (oS.past x).cell (i := 2) rfl
      have pS3 := fun x : Past w5 => (oS.past x).cell (i := 3) rfl
      have pS4 := fun x : Past w5 => (oS.past x).cell (i := 4) rfl
      have pS5 := fun x : Past w5 => (oS.past x).cell (i := 5) rfl
      have pS6 := fun x : Past w5 => (oS.past x).cell (i := 6) rfl
      have pX0 := fun x : Past w5 => (oX.past x).cell (i := 0) rfl
      have pX1 := fun x : Past w5 => (oX.past x).cell (i := 1) rfl
      have pX2 := fun x : Past w5 => (oX.past x).cell (i := 2) rfl
      have pX3 := fun x : Past w5 => (oX.past x).cell (i := 3) rfl
      have pX4 := fun x : Past w5 => (oX.past x).cell (i := 4) rfl
      have pX5 := fun x : Past w5 => (oX.past x).cell (i := 5) rfl
      have pX6 := fun x : Past w5 => (oX.past x).cell (i := 6) rfl
      refine wp_region_past (by kernel_rfl) (by kernel_rfl) ?_
      repeat (go_big_quiet_step ((first | (go_at_call 16; exact calls_past (tick_same true 0 0 0 0 (-1) 0 n _ (by simp [tkL, bdE]))))))
      refine wpQuiet_nil ?_
      rintro _ ⟨x, rfl⟩
      replace bel : Below w.heap.size w (past w5 x) := bel.trans (x.h.mono bel.size)
      clear pS0 pS1 pS2 pS3 pS4 pS5 pS6
      clear pX0 pX1 pX2 pX3 pX4 pX5 pX6
      clear cS0 cS1 cS2 cS3 cS4 cS5 cS6 fS zS cX0 cX1 cX2 cX3 cX4 cX5 cX6 fX zX
      replace oS := oS.past x
      replace oX := oX.past x
      generalize past w5 x = w6 at oS oX bel ⊢
      obtain ⟨cS0, cS1, cS2, cS3, cS4, cS5, cS6, fS, zS⟩ := own7 oS
      obtain ⟨cX0, cX1, cX2, cX3, cX4, cX5, cX6, fX, zX⟩ := own7 oX
      go_wp2_with fail
      replace oX := (((((((oX.other (by first | (simp; done) | (simp; omega) | omega | (dsimp only; omega)) (a := ⟨w2.heap.size, 0, none⟩) (.bool true)).other (by first | (simp; done) | (simp; omega) | omega | (dsimp only; omega)) (a := ⟨w2.heap.size, 1, none⟩) (.int .i64 0)).other (by first | (simp; done) | (simp; omega) | omega | (dsimp only; omega)) (a := ⟨w2.heap.size, 2, none⟩) (.int .i64 0)).other (by first | (simp; done) | (simp; omega) | omega | (dsimp only; omega)) (a := ⟨w2.heap.size, 3, none⟩) (.int .i64 0)).other (by first | (simp; done) | (simp; omega) | omega | (dsimp only; omega)) (a := ⟨w2.heap.size, 4, none⟩) (.int .i64 0)).other (by first | (simp; done) | (simp; omega) | omega | (dsimp only; omega)) (a := ⟨w2.heap.size, 5, none⟩) (.int .i64 (-1))).other (by first | (simp; done) | (simp; omega) | omega | (dsimp only; omega)) (a := ⟨w2.heap.size, 6, none⟩) (.int .i64 0))
      replace bel := (((((((bel.setCell (p := ⟨w2.heap.size, 0, none⟩) (by first | (simp; done) | (simp; omega) | omega | (dsimp only; omega)) (.bool true)).setCell (p := ⟨w2.heap.size, 1, none⟩) (by first | (simp; done) | (simp; omega) | omega | (dsimp only; omega)) (.int .i64 0)).setCell (p := ⟨w2.heap.size, 2, none⟩) (by first | (simp; done) | (simp; omega) | omega | (dsimp only; omega)) (.int .i64 0)).setCell (p := ⟨w2.heap.size, 3, none⟩) (by first | (simp; done) | (simp; omega) | omega | (dsimp only; omega)) (.int .i64 0)).setCell (p := ⟨w2.heap.size, 4, none⟩) (by first | (simp; done) | (simp; omega) | omega | (dsimp only; omega)) (.int .i64 0)).setCell (p := ⟨w2.heap.size, 5, none⟩) (by first | (simp; done) | (simp; omega) | omega | (dsimp only; omega)) (.int .i64 (-1))).setCell (p := ⟨w2.heap.size, 6, none⟩) (by first | (simp; done) | (simp; omega) | omega | (dsimp only; omega)) (.int .i64 0))
      replace oS : Own _ (w2.heap.size) [.bool true, .int .i64 0, .int .i64 0, .int .i64 0, .int .i64 0, .int .i64 (-1), .int .i64 0] 25 := (((((((oS.set 0 (.bool true)).set 1 (.int .i64 0)).set 2 (.int .i64 0)).set 3 (.int .i64 0)).set 4 (.int .i64 0)).set 5 (.int .i64 (-1))).set 6 (.int .i64 0))
      clear cS0 cS1 cS2 cS3 cS4 cS5 cS6 fS zS cX0 cX1 cX2 cX3 cX4 cX5 cX6 fX zX
      generalize (((((((w6.setCell ⟨w2.heap.size, 0, none⟩ (.bool true)).setCell ⟨w2.heap.size, 1, none⟩ (.int .i64 0)).setCell ⟨w2.heap.size, 2, none⟩ (.int .i64 0)).setCell ⟨w2.heap.size, 3, none⟩ (.int .i64 0)).setCell ⟨w2.heap.size, 4, none⟩ (.int .i64 0)).setCell ⟨w2.heap.size, 5, none⟩ (.int .i64 (-1))).setCell ⟨w2.heap.size, 6, none⟩ (.int .i64 0)) = w7 at oS oX bel ⊢
      obtain ⟨cS0, cS1, cS2, cS3, cS4, cS5, cS6, fS, zS⟩ := own7 oS
      obtain ⟨cX0, cX1, cX2, cX3, cX4, cX5, cX6, fX, zX⟩ := own7 oX
      go_wp2_with fail
      go_roundw
      case rel => exact ⟨k + 1, by omega, by go_num, oS, bel, kS⟩
      case measure => simp [intOf]; omega
    · clear parts
      obtain ⟨cS0, cS1, cS2, cS3, cS4, cS5, cS6, fS, zS⟩ := own7 oS
      go_wp2_with fail
      refine (tbound_lit true 0 0 0 0 (-1) 0 n 0 0 _ ⟨by simp [bdN], by simp [bdE, vldT, okN]⟩).mono ?_
      rintro e w4 ⟨rfl, hb⟩
      replace oS := oS.below hb
      replace bel := belowTo bel hb (by exact bel.size)
      clear hb cS0 cS1 cS2 cS3 cS4 cS5 cS6 fS zS
      obtain ⟨cS0, cS1, cS2, cS3, cS4, cS5, cS6, fS, zS⟩ := own7 oS
      go_wp2_with fail
      refine (start_any false _).mono ?_
      rintro e w5 ⟨rfl, hb⟩
      replace oS := oS.below hb
      replace bel := belowTo bel hb (by exact bel.size)
      clear hb cS0 cS1 cS2 cS3 cS4 cS5 cS6 fS zS
      obtain ⟨cS0, cS1, cS2, cS3, cS4, cS5, cS6, fS, zS⟩ := own7 oS
      go_wp2_with fail
      refine (tbound_lit false 0 0 0 60 (-1) 0 n 0 16 _ ⟨by simp [bdN, bdE, vldT, okN], by simp [bdE, vldT, okN]⟩).mono ?_
      rintro e w6 ⟨rfl, hb⟩
      replace oS := oS.below hb
      replace bel := belowTo bel hb (by exact bel.size)
      clear hb cS0 cS1 cS2 cS3 cS4 cS5 cS6 fS zS
      obtain ⟨cS0, cS1, cS2, cS3, cS4, cS5, cS6, fS, zS⟩ := own7 oS
      go_wp2_with fail
      refine (start_any false _).mono ?_
      rintro e w7 ⟨rfl, hb⟩
      replace oS := oS.below hb
      replace bel := belowTo bel hb (by exact bel.size)
      clear hb cS0 cS1 cS2 cS3 cS4 cS5 cS6 fS zS
      obtain ⟨cS0, cS1, cS2, cS3, cS4, cS5, cS6, fS, zS⟩ := own7 oS
      go_wp2_with fail
      refine (tick_same false 0 0 0 60 (-1) 0 n _ (by simp [tkL])).mono ?_
      rintro e w8 ⟨rfl, hb⟩
      replace oS := oS.below hb
      replace bel := belowTo bel hb (by exact bel.size)
      clear hb cS0 cS1 cS2 cS3 cS4 cS5 cS6 fS zS
      obtain ⟨cS0, cS1, cS2, cS3, cS4, cS5, cS6, fS, zS⟩ := own7 oS
      go_wp2_with fail
      refine (start_any false _).mono ?_
      rintro e w9 ⟨rfl, hb⟩
      replace oS := oS.below hb
      replace bel := belowTo bel hb (by exact bel.size)
      clear hb cS0 cS1 cS2 cS3 cS4 cS5 cS6 fS zS
      obtain ⟨cS0, cS1, cS2, cS3, cS4, cS5, cS6, fS, zS⟩ := own7 oS
      go_wp2
      all_goals (go_ret; exact ⟨by first | rfl | simp_all, (by repeat (first | exact bel | refine Below.alloc ?_ (by have := bel.size; simp; omega) _))⟩)

end Go.Proofs.Ytfclodgfifbfbaa

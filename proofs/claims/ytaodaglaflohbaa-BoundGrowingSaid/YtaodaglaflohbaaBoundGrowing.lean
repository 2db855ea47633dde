/- BoundGrowing: the walk of the law. It returns true for every input, and leaves old memory alone. -/
import Derived.Test.YtaodaglaflohbaaHead08
import Derived.Test.YtaodaglaflohbaaTruth08
import Derived.Test.YtaodaglaflohbaaPlain08d
import Derived.Deep.DeepCutAuto
namespace Go.Proofs.Ytaodaglaflohbaa
open Go.RowKit
set_option linter.unusedVariables false

set_option maxRecDepth 100000 in
set_option maxHeartbeats 4000000 in
theorem boundGrowing_no (o d t u le mo s1 s2 l h a B E : Int) (w : World) (ht : IntKind.u64.has t) (hl : IntKind.u64.has u) (hs1 : (if u % 10000000000001 < t % 10000000000001 then u % 10000000000001 else t % 10000000000001) = s1) (hs2 : (if t % 10000000000001 < u % 10000000000001 then u % 10000000000001 else t % 10000000000001) = s2)
    (hT1 : ∀ w : World, Calls Try.prog 24 #[.agg #[.int .i64 o, .int .i64 d], .int .i64 s1, .int .u32 le, .int .u32 mo] w fun e w' => e = .returned (.tuple #[.agg #[.int .i64 l, .int .i64 h, .int .i64 a], .bool false]) ∧ Below w.heap.size w w') (hB : shN o d s2 = B ∧ shE o d s2 = E) :
    Calls Try.prog 8 #[.agg #[.int .i64 o, .int .i64 d], .int .u64 t, .int .u64 u, .int .u32 le, .int .u32 mo] w fun e w' => e = .returned (.bool true) ∧ Below w.heap.size w w' := by
  have HS1 := Lib.hid hs1
  have HS2 := Lib.hid hs2
  clear hs1 hs2
  have HT1 := Lib.hid hT1
  clear hT1
  go_enter Try.func8, Try.ntmps8
  go_wp2_with fail
  refine (head_any _).mono ?_
  rintro e w1 ⟨rfl, hb⟩
  have oC : Own w1 w.heap.size [.int .i64 o, .int .i64 d] 41 := (own_at _ _ rfl).below hb
  have bel := belowTo ((Below.refl w.heap.size w).alloc (by simp) _) hb (by simp)
  clear hb 
  obtain ⟨cC0, cC1, fC, zC⟩ := own2 oC
  go_upto_region 2 with fail
  go_cut [12, 13] (fun sa sb wx => sa = .int .i64 s1 ∧ sb = .int .i64 s2 ∧ wx = w1)
  case first =>
    go_wp2_with (go_at_call 23; refine (time_any _ _ (by assumption)).mono ?_; rintro e w' ⟨rfl, rfl⟩)
    all_goals go_meet
    all_goals (refine ⟨congrArg (Value.int .i64) ?_, congrArg (Value.int .i64) ?_, rfl⟩ <;> (have q1 := HS1.out; have q2 := HS2.out; omega))
  case rest =>
    obtain ⟨rfl, rfl, rfl⟩ := hcut
    go_wp2_with fail
    refine (HT1.out _).mono ?_
    rintro e w2 ⟨rfl, hb⟩
    replace oC := oC.below hb
    replace bel := belowTo bel hb (by exact bel.size)
    clear hb cC0 cC1 fC zC
    obtain ⟨cC0, cC1, fC, zC⟩ := own2 oC
    go_wp2_with fail
    refine (show_lit o d s2 B E _ hB).mono ?_
    rintro e w3 ⟨rfl, hb⟩
    replace oC := (oC.alloc _).below hb
    have oX : Own w3 w2.heap.size [.int .i64 l, .int .i64 h, .int .i64 a] 23 := (own_at _ _ rfl).below hb
    replace bel := belowTo (bel.alloc (by have := bel.size; simp; omega) _) hb (by have := bel.size; simp; omega)
    clear hb cC0 cC1 fC zC
    obtain ⟨cC0, cC1, fC, zC⟩ := own2 oC
    obtain ⟨cX0, cX1, cX2, fX, zX⟩ := own3 oX
    go_wp2
    go_ret
    exact ⟨rfl, bel⟩

set_option maxRecDepth 100000 in
set_option maxHeartbeats 4000000 in
theorem boundGrowing_yes (o d t u le mo s1 s2 l h a B L H A : Int) (w : World) (ht : IntKind.u64.has t) (hl : IntKind.u64.has u) (hs1 : (if u % 10000000000001 < t % 10000000000001 then u % 10000000000001 else t % 10000000000001) = s1) (hs2 : (if t % 10000000000001 < u % 10000000000001 then u % 10000000000001 else t % 10000000000001) = s2)
    (hT1 : ∀ w : World, Calls Try.prog 24 #[.agg #[.int .i64 o, .int .i64 d], .int .i64 s1, .int .u32 le, .int .u32 mo] w fun e w' => e = .returned (.tuple #[.agg #[.int .i64 l, .int .i64 h, .int .i64 a], .bool true]) ∧ Below w.heap.size w w') (hB : shN o d s2 = B ∧ shE o d s2 = 0) (hg : grL l h a B = L ∧ grH l h a B = H ∧ grA l h a B = A ∧ grE l h a B = 0) (b1 : -30000000000000 ≤ s2) (b2 : s2 ≤ 30000000000000) (b3 : -30000000000000 ≤ B) (b4 : B ≤ 30000000000000) (hk : truB L H A s2 B = true) :
    Calls Try.prog 8 #[.agg #[.int .i64 o, .int .i64 d], .int .u64 t, .int .u64 u, .int .u32 le, .int .u32 mo] w fun e w' => e = .returned (.bool true) ∧ Below w.heap.size w w' := by
  have HS1 := Lib.hid hs1
  have HS2 := Lib.hid hs2
  clear hs1 hs2
  have HT1 := Lib.hid hT1
  clear hT1
  go_enter Try.func8, Try.ntmps8
  go_wp2_with fail
  refine (head_any _).mono ?_
  rintro e w1 ⟨rfl, hb⟩
  have oC : Own w1 w.heap.size [.int .i64 o, .int .i64 d] 41 := (own_at _ _ rfl).below hb
  have bel := belowTo ((Below.refl w.heap.size w).alloc (by simp) _) hb (by simp)
  clear hb 
  obtain ⟨cC0, cC1, fC, zC⟩ := own2 oC
  go_upto_region 2 with fail
  go_cut [12, 13] (fun sa sb wx => sa = .int .i64 s1 ∧ sb = .int .i64 s2 ∧ wx = w1)
  case first =>
    go_wp2_with (go_at_call 23; refine (time_any _ _ (by assumption)).mono ?_; rintro e w' ⟨rfl, rfl⟩)
    all_goals go_meet
    all_goals (refine ⟨congrArg (Value.int .i64) ?_, congrArg (Value.int .i64) ?_, rfl⟩ <;> (have q1 := HS1.out; have q2 := HS2.out; omega))
  case rest =>
    obtain ⟨rfl, rfl, rfl⟩ := hcut
    go_wp2_with fail
    refine (HT1.out _).mono ?_
    rintro e w2 ⟨rfl, hb⟩
    replace oC := oC.below hb
    replace bel := belowTo bel hb (by exact bel.size)
    clear hb cC0 cC1 fC zC
    obtain ⟨cC0, cC1, fC, zC⟩ := own2 oC
    go_wp2_with fail
    refine (show_lit o d s2 B 0 _ hB).mono ?_
    rintro e w3 ⟨rfl, hb⟩
    replace oC := (oC.alloc _).below hb
    have oX : Own w3 w2.heap.size [.int .i64 l, .int .i64 h, .int .i64 a] 23 := (own_at _ _ rfl).below hb
    replace bel := belowTo (bel.alloc (by have := bel.size; simp; omega) _) hb (by have := bel.size; simp; omega)
    clear hb cC0 cC1 fC zC
    obtain ⟨cC0, cC1, fC, zC⟩ := own2 oC
    obtain ⟨cX0, cX1, cX2, fX, zX⟩ := own3 oX
    go_wp2_with fail
    refine (bgrow_lit l h a B L H A 0 _ hg).mono ?_
    rintro e w4 ⟨rfl, hb⟩
    replace oC := oC.below hb
    replace oX := oX.below hb
    replace bel := belowTo bel hb (by exact bel.size)
    clear hb cC0 cC1 fC zC cX0 cX1 cX2 fX zX
    obtain ⟨cC0, cC1, fC, zC⟩ := own2 oC
    obtain ⟨cX0, cX1, cX2, fX, zX⟩ := own3 oX
    go_wp2_with fail
    refine (true_lit L H A s2 B true _ b1 b2 b3 b4 hk).mono ?_
    rintro e w5 ⟨rfl, hb⟩
    replace oC := (oC.alloc _).below hb
    replace oX := (oX.alloc _).below hb
    have oY : Own w5 w4.heap.size [.int .i64 L, .int .i64 H, .int .i64 A] 23 := (own_at _ _ rfl).below hb
    replace bel := belowTo (bel.alloc (by have := bel.size; simp; omega) _) hb (by have := bel.size; simp; omega)
    clear hb cC0 cC1 fC zC cX0 cX1 cX2 fX zX
    obtain ⟨cC0, cC1, fC, zC⟩ := own2 oC
    obtain ⟨cX0, cX1, cX2, fX, zX⟩ := own3 oX
    obtain ⟨cY0, cY1, cY2, fY, zY⟩ := own3 oY
    go_wp2
    go_ret
    exact ⟨rfl, bel⟩

theorem boundGrowing_walk (o d t u le mo : Int) (w : World) (_1 : IntKind.i64.has o) (_2 : IntKind.i64.has d) (_3 : IntKind.u64.has t) (_4 : IntKind.u64.has u) (_5 : IntKind.u32.has le) (_6 : IntKind.u32.has mo) :
    Calls Try.prog 8 #[.agg #[.int .i64 o, .int .i64 d], .int .u64 t, .int .u64 u, .int .u32 le, .int .u32 mo] w fun e w' => e = .returned (.bool true) ∧ Below w.heap.size w w' := by
  have ⟨u1, u2⟩ : 0 ≤ le ∧ le ≤ 4294967295 := by simpa [IntKind.has, IntKind.min, IntKind.max, IntKind.signed, IntKind.bits] using _5
  have ⟨u3, u4⟩ : 0 ≤ mo ∧ mo ≤ 4294967295 := by simpa [IntKind.has, IntKind.min, IntKind.max, IntKind.signed, IntKind.bits] using _6
  obtain ⟨s1, hs1⟩ : ∃ s, (if u % 10000000000001 < t % 10000000000001 then u % 10000000000001 else t % 10000000000001) = s := ⟨_, rfl⟩
  obtain ⟨s2, hs2⟩ : ∃ s, (if t % 10000000000001 < u % 10000000000001 then u % 10000000000001 else t % 10000000000001) = s := ⟨_, rfl⟩
  have r1 : 0 ≤ s1 ∧ s1 ≤ s2 ∧ s2 ≤ 10000000000000 := by omega
  by_cases hv : vldB o d = true
  · have hx : okS o d s1 = true := okS_mk hv (by omega) (by omega)
    have hy : okS o d s2 = true := okS_mk hv (by omega) (by omega)
    obtain ⟨v, c1, c2, c3⟩ := true_valid hx u1 u2 u3 u4
    obtain ⟨_, c4, c5, c6⟩ := true_valid hy u1 u2 u3 u4
    obtain ⟨ka, kr, kt⟩ := true_grown hx hy r1.2.1 u1 u2 u3 u4
    obtain ⟨g1, g2, g3, g4⟩ := gr_ok ka kr
    exact boundGrowing_yes o d t u le mo s1 s2 _ _ _ _ _ _ _ w _3 _4 hs1 hs2 (fun w => truth_ok o d s1 le mo _ true w ⟨(sh_yes hx).2, (sh_yes hx).1⟩ (by omega) (by omega) (by omega) (by omega) u1 u2 u3 u4 v)
      ⟨(sh_yes hy).2, (sh_yes hy).1⟩ ⟨g2, g3, g4, g1⟩ (by omega) (by omega) (by omega) (by omega) kt
  · have hv' : vldB o d = false := by simpa using hv
    exact boundGrowing_no o d t u le mo s1 s2 _ _ _ _ _ w _3 _4 hs1 hs2 (fun w => truth_no o d s1 le mo w ⟨(sh_no (okS_no hv')).2, (sh_no (okS_no hv')).1⟩ (by omega) (by omega) u1 u2 u3 u4) ⟨rfl, rfl⟩

end Go.Proofs.Ytaodaglaflohbaa

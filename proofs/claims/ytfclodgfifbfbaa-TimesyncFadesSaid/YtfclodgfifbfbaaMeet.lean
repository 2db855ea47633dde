/- The contract of Meet. -/
import Derived.Test.YtfclodgfifbfbaaMeetA
import Derived.Test.YtfclodgfifbfbaaMeetB
import Derived.Test.YtfclodgfifbfbaaMeetC
import Derived.Test.YtfclodgfifbfbaaMeetD
namespace Go.Proofs.Ytfclodgfifbfbaa
open Go.RowKit

theorem meet_core (al ah aa bl bh ba xl xh xa yl yh ya L H A E : Int) (w : World) (va : vldS al ah aa = true) (vb : vldS bl bh ba = true)
    (hsw : (aa ≤ ba ∧ xl = al ∧ xh = ah ∧ xa = aa ∧ yl = bl ∧ yh = bh ∧ ya = ba) ∨ (ba < aa ∧ xl = bl ∧ xh = bh ∧ xa = ba ∧ yl = al ∧ yh = ah ∧ ya = aa))
    (hxy : xa ≤ ya) (kx : okA xl xh xa ya = true) (ky : okA yl yh ya ya = true) (hres : MC xl xh xa yl yh ya L H A E) :
    Calls Try.prog 31 #[.agg #[.int .i64 al, .int .i64 ah, .int .i64 aa], .agg #[.int .i64 bl, .int .i64 bh, .int .i64 ba]] w
      fun e w' => e = .returned (.tuple #[.agg #[.int .i64 L, .int .i64 H, .int .i64 A], .int .i64 E]) ∧ Below w.heap.size w w' := by
  unfold MC at hres
  rcases hres with hres | hres | hres | hres | hres | hres
  · exact meet_core1 al ah aa bl bh ba xl xh xa yl yh ya L H A E w va vb hsw hxy kx ky hres
  · exact meet_core2 al ah aa bl bh ba xl xh xa yl yh ya L H A E w va vb hsw hxy kx ky hres
  · exact meet_core3 al ah aa bl bh ba xl xh xa yl yh ya L H A E w va vb hsw hxy kx ky hres
  · exact meet_core4 al ah aa bl bh ba xl xh xa yl yh ya L H A E w va vb hsw hxy kx ky hres
  · exact meet_core5 al ah aa bl bh ba xl xh xa yl yh ya L H A E w va vb hsw hxy kx ky hres
  · exact meet_core6 al ah aa bl bh ba xl xh xa yl yh ya L H A E w va vb hsw hxy kx ky hres

set_option maxRecDepth 100000 in
set_option maxHeartbeats 2000000 in
theorem meet_bad (al ah aa bl bh ba : Int) (w : World) (k : ¬(vldS al ah aa = true ∧ vldS bl bh ba = true)) :
    Calls Try.prog 31 #[.agg #[.int .i64 al, .int .i64 ah, .int .i64 aa], .agg #[.int .i64 bl, .int .i64 bh, .int .i64 ba]] w
      fun e w' => e = .returned (.tuple #[.agg #[.int .i64 0, .int .i64 0, .int .i64 0], .int .i64 1]) ∧ Below w.heap.size w w' := by
  have K := Lib.hid k
  clear k
  go_enter Try.func31, Try.ntmps31
  go_upto_region 1 with fail
  go_cut [6, 7] (fun s6 s7 wx => ∃ X Y : Nat, s6 = .pointer (some ⟨X, 0, none⟩) ∧ s7 = .pointer (some ⟨Y, 0, none⟩) ∧ X ≠ Y ∧ w.heap.size + 2 < X ∧ w.heap.size + 2 < Y ∧ Own wx X [.int .i64 al, .int .i64 ah, .int .i64 aa] 61 ∧ Own wx Y [.int .i64 bl, .int .i64 bh, .int .i64 ba] 61 ∧ Own wx (w.heap.size + 2) [.int .i64 0, .int .i64 0, .int .i64 0] 23 ∧ Below w.heap.size w wx)
  case first =>
    go_region
    · go_wp2_with fail
      go_meet
      exact ⟨_, _, rfl, rfl, by omega, by omega, by omega, ((own_at _ _ (by simp)).alloc _).drew, (own_at _ _ (by simp)).drew, (((own_at _ _ (by simp)).alloc _).alloc _).drew, by repeat (first | exact Below.refl _ _ | refine Below.drew ?_ | refine Below.alloc ?_ (by simp; omega) _ | refine Below.alloc ?_ (by simp) _)⟩
    · go_wp2_with fail
      go_meet
      exact ⟨_, _, rfl, rfl, by omega, by omega, by omega, (own_at _ _ (by simp)).drew, ((own_at _ _ (by simp)).alloc _).drew, (((own_at _ _ (by simp)).alloc _).alloc _).drew, by repeat (first | exact Below.refl _ _ | refine Below.drew ?_ | refine Below.alloc ?_ (by simp; omega) _ | refine Below.alloc ?_ (by simp) _)⟩
  case rest =>
    obtain ⟨X, Y, rfl, rfl, hne, hX, hY, oX, oY, oR, bel⟩ := hcut
    obtain ⟨cX0, cX1, cX2, fX, zX⟩ := own3 oX
    obtain ⟨cY0, cY1, cY2, fY, zY⟩ := own3 oY
    obtain ⟨cR0, cR1, cR2, fR, zR⟩ := own3 oR
    rcases Bool.eq_false_or_eq_true (vldS al ah aa) with va | va
    · have vb : vldS bl bh ba = false := by
        rcases Bool.eq_false_or_eq_true (vldS bl bh ba) with h | h
        · exact absurd ⟨va, h⟩ K.out
        · exact h
      have VA := Lib.hid va
      have VB := Lib.hid vb
      clear va vb
      go_wp2_with fail
      refine (spval_lit _ _ _ true _ VA.out).mono ?_
      rintro e w1 ⟨rfl, hb⟩
      replace oX := oX.below hb
      replace oY := oY.below hb
      replace oR := oR.below hb
      replace bel := belowTo bel hb bel.size
      clear hb cX0 cX1 cX2 fX zX cY0 cY1 cY2 fY zY cR0 cR1 cR2 fR zR
      obtain ⟨cX0, cX1, cX2, fX, zX⟩ := own3 oX
      obtain ⟨cY0, cY1, cY2, fY, zY⟩ := own3 oY
      obtain ⟨cR0, cR1, cR2, fR, zR⟩ := own3 oR
      go_wp2_with fail
      refine (spval_lit _ _ _ false _ VB.out).mono ?_
      rintro e w2 ⟨rfl, hb⟩
      replace oX := oX.below hb
      replace oY := oY.below hb
      replace oR := oR.below hb
      replace bel := belowTo bel hb bel.size
      clear hb cX0 cX1 cX2 fX zX cY0 cY1 cY2 fY zY cR0 cR1 cR2 fR zR
      obtain ⟨cX0, cX1, cX2, fX, zX⟩ := own3 oX
      obtain ⟨cY0, cY1, cY2, fY, zY⟩ := own3 oY
      obtain ⟨cR0, cR1, cR2, fR, zR⟩ := own3 oR
      go_wp2
      refine bodyPost_ret (v := .tuple #[.agg #[.int .i64 0, .int .i64 0, .int .i64 0], .int .i64 1]) (by simp [results, Try.results31, go_sem, *]) rfl ⟨tup4 ⟨rfl, rfl, rfl, rfl⟩, ?_⟩
      repeat (first | (with_reducible exact bel) | (with_reducible refine belowSet ?_ _ _ _ ?_) | (with_reducible refine Below.drew ?_) | (with_reducible refine belowN ?_))
      all_goals (first | omega | (simp; omega))
    · have VA := Lib.hid va
      clear va
      go_wp2_with fail
      refine (spval_lit _ _ _ false _ VA.out).mono ?_
      rintro e w1 ⟨rfl, hb⟩
      replace oX := oX.below hb
      replace oY := oY.below hb
      replace oR := oR.below hb
      replace bel := belowTo bel hb bel.size
      clear hb cX0 cX1 cX2 fX zX cY0 cY1 cY2 fY zY cR0 cR1 cR2 fR zR
      obtain ⟨cX0, cX1, cX2, fX, zX⟩ := own3 oX
      obtain ⟨cY0, cY1, cY2, fY, zY⟩ := own3 oY
      obtain ⟨cR0, cR1, cR2, fR, zR⟩ := own3 oR
      go_wp2
      refine bodyPost_ret (v := .tuple #[.agg #[.int .i64 0, .int .i64 0, .int .i64 0], .int .i64 1]) (by simp [results, Try.results31, go_sem, *]) rfl ⟨tup4 ⟨rfl, rfl, rfl, rfl⟩, ?_⟩
      repeat (first | (with_reducible exact bel) | (with_reducible refine belowSet ?_ _ _ _ ?_) | (with_reducible refine Below.drew ?_) | (with_reducible refine belowN ?_))
      all_goals (first | omega | (simp; omega))


theorem meet_any (al ah aa bl bh ba : Int) (w : World) :
    Calls Try.prog 31 #[.agg #[.int .i64 al, .int .i64 ah, .int .i64 aa], .agg #[.int .i64 bl, .int .i64 bh, .int .i64 ba]] w
      fun e w' => e = .returned (.tuple #[.agg #[.int .i64 (mtL al ah aa bl bh ba), .int .i64 (mtH al ah aa bl bh ba), .int .i64 (mtA al ah aa bl bh ba)], .int .i64 (mtE al ah aa bl bh ba)]) ∧ Below w.heap.size w w' := by
  by_cases k : vldS al ah aa = true ∧ vldS bl bh ba = true
  · obtain ⟨va, vb⟩ := k
    have ga := okA_iff.2 ⟨va, Int.le_refl aa, (vldS_iff.1 va).2.2.2.2⟩
    have gb := okA_iff.2 ⟨vb, Int.le_refl ba, (vldS_iff.1 vb).2.2.2.2⟩
    by_cases h : ba < aa
    · exact meet_core al ah aa bl bh ba bl bh ba al ah aa _ _ _ _ w va vb (.inr ⟨h, rfl, rfl, rfl, rfl, rfl, rfl⟩) (by omega) (okA_iff.2 ⟨vb, by omega, (vldS_iff.1 va).2.2.2.2⟩) ga (mt_gt va vb h)
    · exact meet_core al ah aa bl bh ba al ah aa bl bh ba _ _ _ _ w va vb (.inl ⟨by omega, rfl, rfl, rfl, rfl, rfl, rfl⟩) (by omega) (okA_iff.2 ⟨va, by omega, (vldS_iff.1 vb).2.2.2.2⟩) gb (mt_le va vb (by omega))
  · obtain ⟨e1, e2, e3, e4⟩ := mt_no k
    rw [e1, e2, e3, e4]
    exact meet_bad al ah aa bl bh ba w k

theorem meet_lit (al ah aa bl bh ba L H A E : Int) (w : World) (k : mtL al ah aa bl bh ba = L ∧ mtH al ah aa bl bh ba = H ∧ mtA al ah aa bl bh ba = A ∧ mtE al ah aa bl bh ba = E) :
    Calls Try.prog 31 #[.agg #[.int .i64 al, .int .i64 ah, .int .i64 aa], .agg #[.int .i64 bl, .int .i64 bh, .int .i64 ba]] w
      fun e w' => e = .returned (.tuple #[.agg #[.int .i64 L, .int .i64 H, .int .i64 A], .int .i64 E]) ∧ Below w.heap.size w w' := by
  have := meet_any al ah aa bl bh ba w
  rwa [k.1, k.2.1, k.2.2.1, k.2.2.2] at this

end Go.Proofs.Ytfclodgfifbfbaa

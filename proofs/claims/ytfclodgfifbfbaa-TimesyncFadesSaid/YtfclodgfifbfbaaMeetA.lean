/- The contract of Meet, two valid spans: the ways number 1, 4 of six. -/
import Derived.Test.YtfclodgfifbfbaaPlain08b
import Derived.Test.YtfclodgfifbfbaaGrow
import Derived.Test.YtfclodgfifbfbaaTup
import Derived.Deep.DeepCutAuto
namespace Go.Proofs.Ytfclodgfifbfbaa
open Go.RowKit

set_option linter.unusedVariables false in
set_option maxRecDepth 100000 in
set_option maxHeartbeats 16000000 in
theorem meet_core1 (al ah aa bl bh ba xl xh xa yl yh ya L H A E : Int) (w : World) (va : vldS al ah aa = true) (vb : vldS bl bh ba = true)
    (hsw : (aa ≤ ba ∧ xl = al ∧ xh = ah ∧ xa = aa ∧ yl = bl ∧ yh = bh ∧ ya = ba) ∨ (ba < aa ∧ xl = bl ∧ xh = bh ∧ xa = ba ∧ yl = al ∧ yh = ah ∧ ya = aa))
    (hxy : xa ≤ ya) (kx : okA xl xh xa ya = true) (ky : okA yl yh ya ya = true) (hres : okR xl xh xa ya = false ∧ L = 0 ∧ H = 0 ∧ A = 0 ∧ E = 3) :
    Calls Try.prog 31 #[.agg #[.int .i64 al, .int .i64 ah, .int .i64 aa], .agg #[.int .i64 bl, .int .i64 bh, .int .i64 ba]] w
      fun e w' => e = .returned (.tuple #[.agg #[.int .i64 L, .int .i64 H, .int .i64 A], .int .i64 E]) ∧ Below w.heap.size w w' := by
  have VA := Lib.hid va
  have VB := Lib.hid vb
  have HS := Lib.hid hsw
  have KX := Lib.hid kx
  have KY := Lib.hid ky
  have HR := Lib.hid hres
  clear va vb hsw hres kx ky
  go_enter Try.func31, Try.ntmps31
  go_upto_region 1 with fail
  go_cut [6, 7] (fun s6 s7 wx => ∃ X Y : Nat, s6 = .pointer (some ⟨X, 0, none⟩) ∧ s7 = .pointer (some ⟨Y, 0, none⟩) ∧ X ≠ Y ∧ w.heap.size + 2 < X ∧ w.heap.size + 2 < Y ∧ Own wx X [.int .i64 al, .int .i64 ah, .int .i64 aa] 61 ∧ Own wx Y [.int .i64 bl, .int .i64 bh, .int .i64 ba] 61 ∧ Own wx (w.heap.size + 2) [.int .i64 0, .int .i64 0, .int .i64 0] 23 ∧ Below w.heap.size w wx)
  case first =>
    go_region
    · go_wp2_with fail
      go_meet
      exact ⟨_, _, rfl, rfl, by omega, by omega, by omega, ((own_at _ _ (by simp)).alloc _).drew, (own_at _ _ (by simp)).drew, (((own_at _ _ (by simp)).alloc _).alloc _).drew, by repeat (first | exact Below.refl _ _ | refine Below.drew ?_ | refine Below.alloc ?_ (by simp; omega) _ | refine Below.alloc ?_ (by simp) _)⟩
    · go_wp2_with fail
      go_meet
      exact ⟨_, _, rfl, rfl, by omega, by omega, by omega, (own_at _ _ (by simp)).drew, ((own_at _ _ (by simp)).alloc _).drew, (((own_at _ _ (by simp)).alloc _).alloc _).drew, by repeat (first | exact Below.refl _ _ | refine Below.drew ?_ | refine Below.alloc ?_ (by simp; omega) _ | refine Below.alloc ?_ (by simp) _)⟩
  case rest =>
    obtain ⟨X, Y, rfl, rfl, hne, hX, hY, oX, oY, oR, bel⟩ := hcut
    obtain ⟨cX0, cX1, cX2, fX, zX⟩ := own3 oX
    obtain ⟨cY0, cY1, cY2, fY, zY⟩ := own3 oY
    obtain ⟨cR0, cR1, cR2, fR, zR⟩ := own3 oR
    go_wp2_with fail
    refine (spval_lit _ _ _ true _ VA.out).mono ?_
    rintro e w1 ⟨rfl, hb⟩
    replace oX := oX.below hb
    replace oY := oY.below hb
    replace oR := oR.below hb
    replace bel := belowTo bel hb bel.size
    clear hb cX0 cX1 cX2 fX zX cY0 cY1 cY2 fY zY cR0 cR1 cR2 fR zR
    obtain ⟨cX0, cX1, cX2, fX, zX⟩ := own3 oX
    obtain ⟨cY0, cY1, cY2, fY, zY⟩ := own3 oY
    obtain ⟨cR0, cR1, cR2, fR, zR⟩ := own3 oR
    go_wp2_with fail
    refine (spval_lit _ _ _ true _ VB.out).mono ?_
    rintro e w2 ⟨rfl, hb⟩
    replace oX := oX.below hb
    replace oY := oY.below hb
    replace oR := oR.below hb
    replace bel := belowTo bel hb bel.size
    clear hb cX0 cX1 cX2 fX zX cY0 cY1 cY2 fY zY cR0 cR1 cR2 fR zR
    obtain ⟨cX0, cX1, cX2, fX, zX⟩ := own3 oX
    obtain ⟨cY0, cY1, cY2, fY, zY⟩ := own3 oY
    obtain ⟨cR0, cR1, cR2, fR, zR⟩ := own3 oR
    go_upto_if 29 with fail
    go_cut [] (fun wx => Own wx X [.int .i64 xl, .int .i64 xh, .int .i64 xa] 61 ∧ Own wx Y [.int .i64 yl, .int .i64 yh, .int .i64 ya] 61 ∧ Own wx (w.heap.size + 2) [.int .i64 0, .int .i64 0, .int .i64 0] 23 ∧ Below w.heap.size w wx)
    case first =>
      have hsw := HS.out
      by_cases hlt : ba < aa
      · have hq : Hid (xl = bl ∧ xh = bh ∧ xa = ba ∧ yl = al ∧ yh = ah ∧ ya = aa) := (hsw.resolve_left (fun h => by omega)).2
        clear hsw
        go_wp2_with fail
        go_meet
        obtain ⟨e1, e2, e3, e4, e5, e6⟩ := hq.out
        rw [e1, e2, e3, e4, e5, e6]
        refine ⟨?_, ?_, ?_, ?_⟩
        · exact ((((((oX.set 0 _).set 1 _).set 2 _).other (by simpa using hne) _).other (by simpa using hne) _).other (by simpa using hne) _)
        · exact ((((((oY.other (by simpa using hne.symm) _).other (by simpa using hne.symm) _).other (by simpa using hne.symm) _).set 0 _).set 1 _).set 2 _)
        · exact ((((((oR.other (by simp; omega) _).other (by simp; omega) _).other (by simp; omega) _).other (by simp; omega) _).other (by simp; omega) _).other (by simp; omega) _)
        · exact ((((((bel.setCell (by simp; omega) _).setCell (by simp; omega) _).setCell (by simp; omega) _).setCell (by simp; omega) _).setCell (by simp; omega) _).setCell (by simp; omega) _)
      · have hle : aa ≤ ba := by omega
        have hq : Hid (xl = al ∧ xh = ah ∧ xa = aa ∧ yl = bl ∧ yh = bh ∧ ya = ba) := (hsw.resolve_right (fun h => by omega)).2
        clear hsw hlt
        go_wp2_with fail
        go_meet
        obtain ⟨e1, e2, e3, e4, e5, e6⟩ := hq.out
        rw [e1, e2, e3, e4, e5, e6]
        exact ⟨oX, oY, oR, bel⟩
    case rest =>
      clear oX oY oR bel cX0 cX1 cX2 fX zX cY0 cY1 cY2 fY zY cR0 cR1 cR2 fR zR
      obtain ⟨oX, oY, oR, bel⟩ := hcut
      obtain ⟨cX0, cX1, cX2, fX, zX⟩ := own3 oX
      obtain ⟨cY0, cY1, cY2, fY, zY⟩ := own3 oY
      obtain ⟨cR0, cR1, cR2, fR, zR⟩ := own3 oR
      have hres := HR.out
      have q := hres.2
      have r := hres.1
      clear hres
      have HQQ := Lib.hid q
      clear q
      rcases Bool.eq_false_or_eq_true (xa == ya) with hs | hs
      all_goals
        have g := gr_range KX.out r
        go_wp2_with fail
        refine (sgrow_lit xl xh xa ya 0 0 0 3 _ ⟨g.2.1, g.2.2.1, g.2.2.2, g.1⟩).mono ?_
        rintro e w3 ⟨rfl, hb⟩
        replace oX := oX.below hb
        replace oY := oY.below hb
        replace oR := oR.below hb
        replace bel := belowTo bel hb bel.size
        clear hb cX0 cX1 cX2 fX zX cY0 cY1 cY2 fY zY cR0 cR1 cR2 fR zR
        obtain ⟨cX0, cX1, cX2, fX, zX⟩ := own3 oX
        obtain ⟨cY0, cY1, cY2, fY, zY⟩ := own3 oY
        obtain ⟨cR0, cR1, cR2, fR, zR⟩ := own3 oR
        go_wp2
        refine bodyPost_ret (v := .tuple #[.agg #[.int .i64 0, .int .i64 0, .int .i64 0], .int .i64 3]) (by simp [results, Try.results31, go_sem, *]) rfl ⟨tup4 HQQ.out, ?_⟩
        repeat (first | (with_reducible exact bel) | (with_reducible refine belowSet ?_ _ _ _ ?_) | (with_reducible refine Below.drew ?_) | (with_reducible refine belowN ?_))
        all_goals (first | omega | (simp; omega))


set_option linter.unusedVariables false in
set_option maxRecDepth 100000 in
set_option maxHeartbeats 16000000 in
theorem meet_core4 (al ah aa bl bh ba xl xh xa yl yh ya L H A E : Int) (w : World) (va : vldS al ah aa = true) (vb : vldS bl bh ba = true)
    (hsw : (aa ≤ ba ∧ xl = al ∧ xh = ah ∧ xa = aa ∧ yl = bl ∧ yh = bh ∧ ya = ba) ∨ (ba < aa ∧ xl = bl ∧ xh = bh ∧ xa = ba ∧ yl = al ∧ yh = ah ∧ ya = aa))
    (hxy : xa ≤ ya) (kx : okA xl xh xa ya = true) (ky : okA yl yh ya ya = true) (hres : okR xl xh xa ya = true ∧ xa = ya ∧ okR yl yh ya ya = false ∧ L = 0 ∧ H = 0 ∧ A = 0 ∧ E = 3) :
    Calls Try.prog 31 #[.agg #[.int .i64 al, .int .i64 ah, .int .i64 aa], .agg #[.int .i64 bl, .int .i64 bh, .int .i64 ba]] w
      fun e w' => e = .returned (.tuple #[.agg #[.int .i64 L, .int .i64 H, .int .i64 A], .int .i64 E]) ∧ Below w.heap.size w w' := by
  have VA := Lib.hid va
  have VB := Lib.hid vb
  have HS := Lib.hid hsw
  have KX := Lib.hid kx
  have KY := Lib.hid ky
  have HR := Lib.hid hres
  clear va vb hsw hres kx ky
  go_enter Try.func31, Try.ntmps31
  go_upto_region 1 with fail
  go_cut [6, 7] (fun s6 s7 wx => ∃ X Y : Nat, s6 = .pointer (some ⟨X, 0, none⟩) ∧ s7 = .pointer (some ⟨Y, 0, none⟩) ∧ X ≠ Y ∧ w.heap.size + 2 < X ∧ w.heap.size + 2 < Y ∧ Own wx X [.int .i64 al, .int .i64 ah, .int .i64 aa] 61 ∧ Own wx Y [.int .i64 bl, .int .i64 bh, .int .i64 ba] 61 ∧ Own wx (w.heap.size + 2) [.int .i64 0, .int .i64 0, .int .i64 0] 23 ∧ Below w.heap.size w wx)
  case first =>
    go_region
    · go_wp2_with fail
      go_meet
      exact ⟨_, _, rfl, rfl, by omega, by omega, by omega, ((own_at _ _ (by simp)).alloc _).drew, (own_at _ _ (by simp)).drew, (((own_at _ _ (by simp)).alloc _).alloc _).drew, by repeat (first | exact Below.refl _ _ | refine Below.drew ?_ | refine Below.alloc ?_ (by simp; omega) _ | refine Below.alloc ?_ (by simp) _)⟩
    · go_wp2_with fail
      go_meet
      exact ⟨_, _, rfl, rfl, by omega, by omega, by omega, (own_at _ _ (by simp)).drew, ((own_at _ _ (by simp)).alloc _).drew, (((own_at _ _ (by simp)).alloc _).alloc _).drew, by repeat (first | exact Below.refl _ _ | refine Below.drew ?_ | refine Below.alloc ?_ (by simp; omega) _ | refine Below.alloc ?_ (by simp) _)⟩
  case rest =>
    obtain ⟨X, Y, rfl, rfl, hne, hX, hY, oX, oY, oR, bel⟩ := hcut
    obtain ⟨cX0, cX1, cX2, fX, zX⟩ := own3 oX
    obtain ⟨cY0, cY1, cY2, fY, zY⟩ := own3 oY
    obtain ⟨cR0, cR1, cR2, fR, zR⟩ := own3 oR
    go_wp2_with fail
    refine (spval_lit _ _ _ true _ VA.out).mono ?_
    rintro e w1 ⟨rfl, hb⟩
    replace oX := oX.below hb
    replace oY := oY.below hb
    replace oR := oR.below hb
    replace bel := belowTo bel hb bel.size
    clear hb cX0 cX1 cX2 fX zX cY0 cY1 cY2 fY zY cR0 cR1 cR2 fR zR
    obtain ⟨cX0, cX1, cX2, fX, zX⟩ := own3 oX
    obtain ⟨cY0, cY1, cY2, fY, zY⟩ := own3 oY
    obtain ⟨cR0, cR1, cR2, fR, zR⟩ := own3 oR
    go_wp2_with fail
    refine (spval_lit _ _ _ true _ VB.out).mono ?_
    rintro e w2 ⟨rfl, hb⟩
    replace oX := oX.below hb
    replace oY := oY.below hb
    replace oR := oR.below hb
    replace bel := belowTo bel hb bel.size
    clear hb cX0 cX1 cX2 fX zX cY0 cY1 cY2 fY zY cR0 cR1 cR2 fR zR
    obtain ⟨cX0, cX1, cX2, fX, zX⟩ := own3 oX
    obtain ⟨cY0, cY1, cY2, fY, zY⟩ := own3 oY
    obtain ⟨cR0, cR1, cR2, fR, zR⟩ := own3 oR
    go_upto_if 29 with fail
    go_cut [] (fun wx => Own wx X [.int .i64 xl, .int .i64 xh, .int .i64 xa] 61 ∧ Own wx Y [.int .i64 yl, .int .i64 yh, .int .i64 ya] 61 ∧ Own wx (w.heap.size + 2) [.int .i64 0, .int .i64 0, .int .i64 0] 23 ∧ Below w.heap.size w wx)
    case first =>
      have hsw := HS.out
      by_cases hlt : ba < aa
      · have hq : Hid (xl = bl ∧ xh = bh ∧ xa = ba ∧ yl = al ∧ yh = ah ∧ ya = aa) := (hsw.resolve_left (fun h => by omega)).2
        clear hsw
        go_wp2_with fail
        go_meet
        obtain ⟨e1, e2, e3, e4, e5, e6⟩ := hq.out
        rw [e1, e2, e3, e4, e5, e6]
        refine ⟨?_, ?_, ?_, ?_⟩
        · exact ((((((oX.set 0 _).set 1 _).set 2 _).other (by simpa using hne) _).other (by simpa using hne) _).other (by simpa using hne) _)
        · exact ((((((oY.other (by simpa using hne.symm) _).other (by simpa using hne.symm) _).other (by simpa using hne.symm) _).set 0 _).set 1 _).set 2 _)
        · exact ((((((oR.other (by simp; omega) _).other (by simp; omega) _).other (by simp; omega) _).other (by simp; omega) _).other (by simp; omega) _).other (by simp; omega) _)
        · exact ((((((bel.setCell (by simp; omega) _).setCell (by simp; omega) _).setCell (by simp; omega) _).setCell (by simp; omega) _).setCell (by simp; omega) _).setCell (by simp; omega) _)
      · have hle : aa ≤ ba := by omega
        have hq : Hid (xl = al ∧ xh = ah ∧ xa = aa ∧ yl = bl ∧ yh = bh ∧ ya = ba) := (hsw.resolve_right (fun h => by omega)).2
        clear hsw hlt
        go_wp2_with fail
        go_meet
        obtain ⟨e1, e2, e3, e4, e5, e6⟩ := hq.out
        rw [e1, e2, e3, e4, e5, e6]
        exact ⟨oX, oY, oR, bel⟩
    case rest =>
      clear oX oY oR bel cX0 cX1 cX2 fX zX cY0 cY1 cY2 fY zY cR0 cR1 cR2 fR zR
      obtain ⟨oX, oY, oR, bel⟩ := hcut
      obtain ⟨cX0, cX1, cX2, fX, zX⟩ := own3 oX
      obtain ⟨cY0, cY1, cY2, fY, zY⟩ := own3 oY
      obtain ⟨cR0, cR1, cR2, fR, zR⟩ := own3 oR
      have hres := HR.out
      obtain ⟨r, he, r2, q⟩ := hres
      have hs : (xa == ya) = true := by simpa using he
      clear he
      obtain ⟨GL, hGL⟩ : ∃ g, g = xl - gm (ya - xa) := ⟨_, rfl⟩
      obtain ⟨GH, hGH⟩ : ∃ g, g = xh + gm (ya - xa) := ⟨_, rfl⟩
      have HGL := Lib.hid hGL
      have HGH := Lib.hid hGH
      have HQQ := Lib.hid q
      clear hGL hGH q
      have g := gr_ok KX.out r
      rw [← HGL.out, ← HGH.out] at g
      go_wp2_with fail
      refine (sgrow_lit xl xh xa ya GL GH ya 0 _ ⟨g.2.1, g.2.2.1, g.2.2.2, g.1⟩).mono ?_
      rintro e w3 ⟨rfl, hb⟩
      replace oX := oX.below hb
      replace oY := oY.below hb
      replace oR := oR.below hb
      replace bel := belowTo bel hb bel.size
      clear hb cX0 cX1 cX2 fX zX cY0 cY1 cY2 fY zY cR0 cR1 cR2 fR zR
      obtain ⟨cX0, cX1, cX2, fX, zX⟩ := own3 oX
      obtain ⟨cY0, cY1, cY2, fY, zY⟩ := own3 oY
      obtain ⟨cR0, cR1, cR2, fR, zR⟩ := own3 oR
      have g2 := gr_range KY.out r2
      go_wp2_with fail
      replace oY := ((oY.other (by simpa using hne.symm) (a := ⟨X, 0, none⟩) (.int .i64 GL)).other (by simpa using hne.symm) (a := ⟨X, 1, none⟩) (.int .i64 GH)).other (by simpa using hne.symm) (a := ⟨X, 2, none⟩) (.int .i64 ya)
      replace oR := ((oR.other (by simp; omega) (a := ⟨X, 0, none⟩) (.int .i64 GL)).other (by simp; omega) (a := ⟨X, 1, none⟩) (.int .i64 GH)).other (by simp; omega) (a := ⟨X, 2, none⟩) (.int .i64 ya)
      replace bel := ((bel.setCell (p := ⟨X, 0, none⟩) (by simp; omega) (.int .i64 GL)).setCell (p := ⟨X, 1, none⟩) (by simp; omega) (.int .i64 GH)).setCell (p := ⟨X, 2, none⟩) (by simp; omega) (.int .i64 ya)
      replace oX : Own _ X [.int .i64 GL, .int .i64 GH, .int .i64 ya] 61 := ((oX.set 0 (.int .i64 GL)).set 1 (.int .i64 GH)).set 2 (.int .i64 ya)
      clear cX0 cX1 cX2 fX zX cY0 cY1 cY2 fY zY cR0 cR1 cR2 fR zR
      obtain ⟨cX0, cX1, cX2, fX, zX⟩ := own3 oX
      obtain ⟨cY0, cY1, cY2, fY, zY⟩ := own3 oY
      obtain ⟨cR0, cR1, cR2, fR, zR⟩ := own3 oR
      refine (sgrow_lit yl yh ya ya 0 0 0 3 _ ⟨g2.2.1, g2.2.2.1, g2.2.2.2, g2.1⟩).mono ?_
      rintro e w4 ⟨rfl, hb⟩
      replace oX := oX.below hb
      replace oY := oY.below hb
      replace oR := oR.below hb
      replace bel := belowTo bel hb bel.size
      clear hb cX0 cX1 cX2 fX zX cY0 cY1 cY2 fY zY cR0 cR1 cR2 fR zR
      obtain ⟨cX0, cX1, cX2, fX, zX⟩ := own3 oX
      obtain ⟨cY0, cY1, cY2, fY, zY⟩ := own3 oY
      obtain ⟨cR0, cR1, cR2, fR, zR⟩ := own3 oR
      go_wp2
      refine bodyPost_ret (v := .tuple #[.agg #[.int .i64 0, .int .i64 0, .int .i64 0], .int .i64 3]) (by simp [results, Try.results31, go_sem, *]) rfl ⟨tup4 HQQ.out, ?_⟩
      repeat (first | (with_reducible exact bel) | (with_reducible refine belowSet ?_ _ _ _ ?_) | (with_reducible refine Below.drew ?_) | (with_reducible refine belowN ?_))
      all_goals (first | omega | (simp; omega))


end Go.Proofs.Ytfclodgfifbfbaa

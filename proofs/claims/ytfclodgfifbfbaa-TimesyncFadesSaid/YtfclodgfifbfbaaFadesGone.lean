/- probe -/
import Derived.Test.YtfclodgfifbfbaaFadesHelp
set_option linter.unusedVariables false
set_option linter.unusedSimpArgs false
namespace Go.Proofs.Ytfclodgfifbfbaa
open Go.RowKit

set_option linter.unusedVariables false in
set_option maxRecDepth 100000 in
set_option maxHeartbeats 20000000 in
theorem timesyncFades_gone (l h a k src he n m N M E F : Int) (w : World) (v : vldT true l h a k src he = true) (r : (true && (k == 0)) = false) (q1 : a ≤ n) (q2 : n ≤ m) (hb : bdN true l h a k src he n = N ∧ bdE true l h a k src he n = E) (hc : bdN true l h a k src he m = M ∧ bdE true l h a k src he m = F) (ht : tkL true l h a k src he n = true) (hu : tkL true l h a k src he m = true) (hE : (E == 0) = false) (hEn : (E != 0) = true) (hF : (F == 0) = false) (hFn : (F != 0) = true) :
    Calls Try.prog 7 #[.agg #[.bool true, .int .i64 l, .int .i64 h, .int .i64 a, .int .i64 k, .int .i64 src, .int .i64 he], .int .i64 n, .int .i64 m] w fun e w' => e = .returned (.bool true) ∧ Below w.heap.size w w' := by
  have e1 := eq_ts_lit false 0 0 0 60 (-1) 0 true l h a k src he (r := false) (by simp [tsB])
  have e3 := eq_ts_lit false 0 0 0 60 (-1) 0 false 0 0 0 60 (-1) 0 (tsB_self _ _ _ _ _ _ _)
  have e4 := ne_ts_lit false 0 0 0 60 (-1) 0 false 0 0 0 60 (-1) 0 (tsB_self _ _ _ _ _ _ _)
  have Hv := Lib.hid v
  clear v
  have Hr := Lib.hid r
  clear r
  have Hhb := Lib.hid hb
  clear hb
  have Hhc := Lib.hid hc
  clear hc
  have Hht := Lib.hid ht
  clear ht
  have Hhu := Lib.hid hu
  clear hu
  go_enter Try.func7, Try.ntmps7
  go_wp2_with fail
  refine (head_any _).mono ?_
  rintro e w1 ⟨rfl, hb⟩
  have oS : Own w1 w.heap.size [.bool true, .int .i64 l, .int .i64 h, .int .i64 a, .int .i64 k, .int .i64 src, .int .i64 he] 25 := (own_at _ _ rfl).below hb
  have bel := belowTo ((Below.refl w.heap.size w).alloc (by simp) _) hb (by simp)
  clear hb
  obtain ⟨cS0, cS1, cS2, cS3, cS4, cS5, cS6, fS, zS⟩ := own7 oS
  go_wp2_with fail
  refine (rtvalid_lit true l h a k src he true _ Hv.out).mono ?_
  rintro e w2 ⟨rfl, hb⟩
  replace oS := oS.below hb
  replace bel := belowTo bel hb (by exact bel.size)
  clear hb
  clear cS0 cS1 cS2 cS3 cS4 cS5 cS6 fS zS
  obtain ⟨cS0, cS1, cS2, cS3, cS4, cS5, cS6, fS, zS⟩ := own7 oS
  go_wp2_with fail
  refine (rroot_lit true l h a k src he false _ Hr.out).mono ?_
  rintro e w3 ⟨rfl, hb⟩
  replace oS := oS.below hb
  replace bel := belowTo bel hb (by exact bel.size)
  clear hb
  clear cS0 cS1 cS2 cS3 cS4 cS5 cS6 fS zS
  obtain ⟨cS0, cS1, cS2, cS3, cS4, cS5, cS6, fS, zS⟩ := own7 oS
  go_wp2_with fail
  refine (tbound_lit true l h a k src he n N E _ Hhb.out).mono ?_
  rintro e w4 ⟨rfl, hb⟩
  replace oS := oS.below hb
  replace bel := belowTo bel hb (by exact bel.size)
  clear hb
  clear cS0 cS1 cS2 cS3 cS4 cS5 cS6 fS zS
  obtain ⟨cS0, cS1, cS2, cS3, cS4, cS5, cS6, fS, zS⟩ := own7 oS
  go_wp2_with fail
  refine (tbound_lit true l h a k src he m M F _ Hhc.out).mono ?_
  rintro e w5 ⟨rfl, hb⟩
  replace oS := oS.below hb
  replace bel := belowTo bel hb (by exact bel.size)
  clear hb
  clear cS0 cS1 cS2 cS3 cS4 cS5 cS6 fS zS
  obtain ⟨cS0, cS1, cS2, cS3, cS4, cS5, cS6, fS, zS⟩ := own7 oS
  go_wp2_with fail
  go_cut [12, 13] (fun sx sy wx => ∃ bx by' : Nat, sx = .pointer (some ⟨bx, 0, none⟩) ∧ sy = .pointer (some ⟨by', 0, none⟩) ∧ Own wx w.heap.size [.bool true, .int .i64 l, .int .i64 h, .int .i64 a, .int .i64 k, .int .i64 src, .int .i64 he] 25 ∧ Own wx bx [.bool false, .int .i64 0, .int .i64 0, .int .i64 0, .int .i64 60, .int .i64 (-1), .int .i64 0] 25 ∧ Own wx by' [.bool false, .int .i64 0, .int .i64 0, .int .i64 0, .int .i64 60, .int .i64 (-1), .int .i64 0] 25 ∧ Below w.heap.size w wx)
  case first =>
    have oSd := oS.drew
    have BEd := Lib.hid bel.drew
    have dS0 : w5.drew.cell? ⟨w.heap.size, 0, none⟩ = some (.bool true) := cS0
    have dS1 : w5.drew.cell? ⟨w.heap.size, 1, none⟩ = some (.int .i64 l) := cS1
    have dS2 : w5.drew.cell? ⟨w.heap.size, 2, none⟩ = some (.int .i64 h) := cS2
    have dS3 : w5.drew.cell? ⟨w.heap.size, 3, none⟩ = some (.int .i64 a) := cS3
    have dS4 : w5.drew.cell? ⟨w.heap.size, 4, none⟩ = some (.int .i64 k) := cS4
    have dS5 : w5.drew.cell? ⟨w.heap.size, 5, none⟩ = some (.int .i64 src) := cS5
    have dS6 : w5.drew.cell? ⟨w.heap.size, 6, none⟩ = some (.int .i64 he) := cS6
    have dz : w.heap.size < w5.drew.heap.size := zS
    go_region_held3 (fun w' => w'.cell? ⟨w.heap.size, 0, none⟩ = some (.bool true) ∧ w'.cell? ⟨w.heap.size, 1, none⟩ = some (.int .i64 l) ∧ w'.cell? ⟨w.heap.size, 2, none⟩ = some (.int .i64 h) ∧ w'.cell? ⟨w.heap.size, 3, none⟩ = some (.int .i64 a) ∧ w'.cell? ⟨w.heap.size, 4, none⟩ = some (.int .i64 k) ∧ w'.cell? ⟨w.heap.size, 5, none⟩ = some (.int .i64 src) ∧ w'.cell? ⟨w.heap.size, 6, none⟩ = some (.int .i64 he) ∧ w.heap.size < w'.heap.size)
      (((try dsimp only); (repeat' apply And.intro) <;> first | (with_reducible assumption) | ((try rw [cell_drewC]); (repeat rw [cell_setCells (by first | (with_reducible assumption) | omega | (simp only [size_alloc, size_drewC]; omega))]); (repeat rw [cell_new (by first | (with_reducible assumption) | omega | (simp only [size_alloc, size_drewC]; omega))]); with_reducible assumption) | ((try rw [size_drewC]); (repeat rw [size_setCells]); (repeat rw [size_alloc]); omega)))
      (first | (go_at_call_of 16 (Value.int .i64 n); refine (tick_gone true l h a k src he n _ Hht.out).mono ?_; rintro e wt ⟨rfl, hb⟩; have oS1 := (by first | exact oSd.below hb | exact ((oS.alloc _).drew).below hb | exact (((oS.alloc _).alloc _).drew).below hb : Own wt w.heap.size [.bool true, .int .i64 l, .int .i64 h, .int .i64 a, .int .i64 k, .int .i64 src, .int .i64 he] 25); have BE1 := Lib.hid (by first | exact belowTo BEd.out hb BEd.out.size | exact belowTo (bel.alloc bel.size _).drew hb (by have := bel.size; simp; omega) | exact belowTo ((bel.alloc bel.size _).alloc (by have := bel.size; simp; omega) _).drew hb (by have := bel.size; simp; omega) : Below w.heap.size w wt); clear cS0 cS1 cS2 cS3 cS4 cS5 cS6 fS dS0 dS1 dS2 dS3 dS4 dS5 dS6; obtain ⟨e0, e1, e2, e3, e4, e5, e6, fe, ze⟩ := own7 oS1; (try (have n0 := own_lastd hb; (try rw [size_alloc] at n0); have zN1 := n0.lt; have N1 := Lib.hid n0; clear n0)); (try (have n0 := own_last2d hb; (try rw [size_alloc] at n0); have zN2 := n0.lt; have N2 := Lib.hid n0; clear n0)); clear hb) | (go_at_call_of 16 (Value.int .i64 m); refine (tick_gone true l h a k src he m _ Hhu.out).mono ?_; rintro e wu ⟨rfl, hb⟩; clear e0 e1 e2 e3 e4 e5 e6 fe; have oS2 := (by first | exact oS1.below hb | exact (oS1.alloc _).below hb | exact ((oS1.alloc _).alloc _).below hb : Own wu w.heap.size [.bool true, .int .i64 l, .int .i64 h, .int .i64 a, .int .i64 k, .int .i64 src, .int .i64 he] 25); have BE2 := Lib.hid (by first | exact belowTo BE1.out hb BE1.out.size | exact belowTo (BE1.out.alloc BE1.out.size _) hb (by have := BE1.out.size; simp; omega) | exact belowTo ((BE1.out.alloc BE1.out.size _).alloc (by have := BE1.out.size; simp; omega) _) hb (by have := BE1.out.size; simp; omega) : Below w.heap.size w wu); obtain ⟨g0, g1, g2, g3, g4, g5, g6, fg, zg⟩ := own7 oS2; (try (have n0 := (by first | exact N1.out.below hb | exact (N1.out.alloc _).below hb | exact ((N1.out.alloc _).alloc _).below hb : Own wu _ _ _); (try rw [size_alloc] at n0); have zM1 := n0.lt; have M1 := Lib.hid n0; clear n0)); (try (have n0 := (by first | exact N2.out.below hb | exact (N2.out.alloc _).below hb | exact ((N2.out.alloc _).alloc _).below hb : Own wu _ _ _); (try rw [size_alloc] at n0); have zM2 := n0.lt; have M2 := Lib.hid n0; clear n0)); (try (have n0 := own_last hb; (try rw [size_alloc] at n0); have zK1 := n0.lt; have K1 := Lib.hid n0; clear n0)); (try (have n0 := own_last2 hb; (try rw [size_alloc] at n0); have zK2 := n0.lt; have K2 := Lib.hid n0; clear n0)); clear hb) | ((with_reducible refine upon_store #[.bool false, .int .i64 0, .int .i64 0, .int .i64 0, .int .i64 60, .int .i64 (-1), .int .i64 0] M1.out ?_ ?_ ?_ ?_ ?_); (next => rfl); (next => rfl); (next => (simp [Value.oneCell']; done)); (next => (go_simp; done)); go_simp) | ((with_reducible refine upon_store #[.bool false, .int .i64 0, .int .i64 0, .int .i64 0, .int .i64 60, .int .i64 (-1), .int .i64 0] K1.out ?_ ?_ ?_ ?_ ?_); (next => rfl); (next => rfl); (next => (simp [Value.oneCell']; done)); (next => (go_simp; done)); go_simp) | ((with_reducible refine upon_store #[.bool false, .int .i64 0, .int .i64 0, .int .i64 0, .int .i64 60, .int .i64 (-1), .int .i64 0] (M1.out.alloc (.cells #[.bool false, .int .i64 0, .int .i64 0, .int .i64 0, .int .i64 0, .int .i64 0, .int .i64 0] 25)) ?_ ?_ ?_ ?_ ?_); (next => rfl); (next => rfl); (next => (simp [Value.oneCell']; done)); (next => (go_simp; done)); go_simp) | ((with_reducible refine upon_store #[.bool false, .int .i64 0, .int .i64 0, .int .i64 0, .int .i64 60, .int .i64 (-1), .int .i64 0] (K1.out.alloc (.cells #[.bool false, .int .i64 0, .int .i64 0, .int .i64 0, .int .i64 0, .int .i64 0, .int .i64 0] 25)) ?_ ?_ ?_ ?_ ?_); (next => rfl); (next => rfl); (next => (simp [Value.oneCell']; done)); (next => (go_simp; done)); go_simp) | ((with_reducible refine upon_store #[.bool false, .int .i64 0, .int .i64 0, .int .i64 0, .int .i64 60, .int .i64 (-1), .int .i64 0] ((own_at (w := wu) (n := wu.heap.size) [.bool false, .int .i64 0, .int .i64 0, .int .i64 0, .int .i64 0, .int .i64 0, .int .i64 0] 25 rfl).alloc (.cells #[.bool false, .int .i64 0, .int .i64 0, .int .i64 0, .int .i64 0, .int .i64 0, .int .i64 0] 25)) ?_ ?_ ?_ ?_ ?_); (next => rfl); (next => rfl); (next => (simp [Value.oneCell']; done)); (next => (go_simp; done)); go_simp) | ((with_reducible refine upon_store #[.bool false, .int .i64 0, .int .i64 0, .int .i64 0, .int .i64 60, .int .i64 (-1), .int .i64 0] M2.out ?_ ?_ ?_ ?_ ?_); (next => rfl); (next => rfl); (next => (simp [Value.oneCell']; done)); (next => (go_simp; done)); go_simp) | ((with_reducible refine upon_store #[.bool false, .int .i64 0, .int .i64 0, .int .i64 0, .int .i64 60, .int .i64 (-1), .int .i64 0] K2.out ?_ ?_ ?_ ?_ ?_); (next => rfl); (next => rfl); (next => (simp [Value.oneCell']; done)); (next => (go_simp; done)); go_simp) | ((with_reducible refine upon_store #[.bool false, .int .i64 0, .int .i64 0, .int .i64 0, .int .i64 60, .int .i64 (-1), .int .i64 0] (own_at (w := wu) (n := wu.heap.size) [.bool false, .int .i64 0, .int .i64 0, .int .i64 0, .int .i64 0, .int .i64 0, .int .i64 0] 25 rfl) ?_ ?_ ?_ ?_ ?_); (next => rfl); (next => rfl); (next => (simp [Value.oneCell']; done)); (next => (go_simp; done)); go_simp) | ((with_reducible refine upon_store #[.bool false, .int .i64 0, .int .i64 0, .int .i64 0, .int .i64 60, .int .i64 (-1), .int .i64 0] (own_at (w := wu.alloc (.cells #[.bool false, .int .i64 0, .int .i64 0, .int .i64 0, .int .i64 0, .int .i64 0, .int .i64 0] 25)) (n := wu.heap.size + 1) [.bool false, .int .i64 0, .int .i64 0, .int .i64 0, .int .i64 0, .int .i64 0, .int .i64 0] 25 size_alloc.symm) ?_ ?_ ?_ ?_ ?_); (next => rfl); (next => rfl); (next => (simp [Value.oneCell']; done)); (next => (go_simp; done)); go_simp) | ((with_reducible refine upon_store #[.bool false, .int .i64 0, .int .i64 0, .int .i64 0, .int .i64 60, .int .i64 (-1), .int .i64 0] (own_apart2 (#[.bool false, .int .i64 0, .int .i64 0, .int .i64 0, .int .i64 60, .int .i64 (-1), .int .i64 0]).toList M1.out M2.out (by omega)) ?_ ?_ ?_ ?_ ?_); (next => rfl); (next => rfl); (next => (simp [Value.oneCell']; done)); (next => (go_simp; done)); go_simp) | ((with_reducible refine upon_store #[.bool false, .int .i64 0, .int .i64 0, .int .i64 0, .int .i64 60, .int .i64 (-1), .int .i64 0] (own_apart2 (#[.bool false, .int .i64 0, .int .i64 0, .int .i64 0, .int .i64 60, .int .i64 (-1), .int .i64 0]).toList M1.out K1.out (by omega)) ?_ ?_ ?_ ?_ ?_); (next => rfl); (next => rfl); (next => (simp [Value.oneCell']; done)); (next => (go_simp; done)); go_simp) | ((with_reducible refine upon_store #[.bool false, .int .i64 0, .int .i64 0, .int .i64 0, .int .i64 60, .int .i64 (-1), .int .i64 0] (own_apart2 (#[.bool false, .int .i64 0, .int .i64 0, .int .i64 0, .int .i64 60, .int .i64 (-1), .int .i64 0]).toList K1.out K2.out (by omega)) ?_ ?_ ?_ ?_ ?_); (next => rfl); (next => rfl); (next => (simp [Value.oneCell']; done)); (next => (go_simp; done)); go_simp) | ((with_reducible refine upon_store #[.bool false, .int .i64 0, .int .i64 0, .int .i64 0, .int .i64 60, .int .i64 (-1), .int .i64 0] (own_apart2 (#[.bool false, .int .i64 0, .int .i64 0, .int .i64 0, .int .i64 60, .int .i64 (-1), .int .i64 0]).toList (M1.out.alloc (.cells #[.bool false, .int .i64 0, .int .i64 0, .int .i64 0, .int .i64 0, .int .i64 0, .int .i64 0] 25)) (own_at (w := wu) (n := wu.heap.size) [.bool false, .int .i64 0, .int .i64 0, .int .i64 0, .int .i64 0, .int .i64 0, .int .i64 0] 25 rfl) (by omega)) ?_ ?_ ?_ ?_ ?_); (next => rfl); (next => rfl); (next => (simp [Value.oneCell']; done)); (next => (go_simp; done)); go_simp) | ((with_reducible refine upon_store #[.bool false, .int .i64 0, .int .i64 0, .int .i64 0, .int .i64 60, .int .i64 (-1), .int .i64 0] (own_apart2 (#[.bool false, .int .i64 0, .int .i64 0, .int .i64 0, .int .i64 60, .int .i64 (-1), .int .i64 0]).toList (K1.out.alloc (.cells #[.bool false, .int .i64 0, .int .i64 0, .int .i64 0, .int .i64 0, .int .i64 0, .int .i64 0] 25)) (own_at (w := wu) (n := wu.heap.size) [.bool false, .int .i64 0, .int .i64 0, .int .i64 0, .int .i64 0, .int .i64 0, .int .i64 0] 25 rfl) (by omega)) ?_ ?_ ?_ ?_ ?_); (next => rfl); (next => rfl); (next => (simp [Value.oneCell']; done)); (next => (go_simp; done)); go_simp) | ((with_reducible refine upon_store #[.bool false, .int .i64 0, .int .i64 0, .int .i64 0, .int .i64 60, .int .i64 (-1), .int .i64 0] (own_apart2 (#[.bool false, .int .i64 0, .int .i64 0, .int .i64 0, .int .i64 60, .int .i64 (-1), .int .i64 0]).toList ((own_at (w := wu) (n := wu.heap.size) [.bool false, .int .i64 0, .int .i64 0, .int .i64 0, .int .i64 0, .int .i64 0, .int .i64 0] 25 rfl).alloc (.cells #[.bool false, .int .i64 0, .int .i64 0, .int .i64 0, .int .i64 0, .int .i64 0, .int .i64 0] 25)) (own_at (w := wu.alloc (.cells #[.bool false, .int .i64 0, .int .i64 0, .int .i64 0, .int .i64 0, .int .i64 0, .int .i64 0] 25)) (n := wu.heap.size + 1) [.bool false, .int .i64 0, .int .i64 0, .int .i64 0, .int .i64 0, .int .i64 0, .int .i64 0] 25 size_alloc.symm) (by omega)) ?_ ?_ ?_ ?_ ?_); (next => rfl); (next => rfl); (next => (simp [Value.oneCell']; done)); (next => (go_simp; done)); go_simp) | ((with_reducible refine upon_store #[.bool false, .int .i64 0, .int .i64 0, .int .i64 0, .int .i64 60, .int .i64 (-1), .int .i64 0] (own_apart2 (#[.bool false, .int .i64 0, .int .i64 0, .int .i64 0, .int .i64 60, .int .i64 (-1), .int .i64 0]).toList M2.out M1.out (by omega)) ?_ ?_ ?_ ?_ ?_); (next => rfl); (next => rfl); (next => (simp [Value.oneCell']; done)); (next => (go_simp; done)); go_simp) | ((with_reducible refine upon_store #[.bool false, .int .i64 0, .int .i64 0, .int .i64 0, .int .i64 60, .int .i64 (-1), .int .i64 0] (own_apart2 (#[.bool false, .int .i64 0, .int .i64 0, .int .i64 0, .int .i64 60, .int .i64 (-1), .int .i64 0]).toList K1.out M1.out (by omega)) ?_ ?_ ?_ ?_ ?_); (next => rfl); (next => rfl); (next => (simp [Value.oneCell']; done)); (next => (go_simp; done)); go_simp) | ((with_reducible refine upon_store #[.bool false, .int .i64 0, .int .i64 0, .int .i64 0, .int .i64 60, .int .i64 (-1), .int .i64 0] (own_apart2 (#[.bool false, .int .i64 0, .int .i64 0, .int .i64 0, .int .i64 60, .int .i64 (-1), .int .i64 0]).toList K2.out K1.out (by omega)) ?_ ?_ ?_ ?_ ?_); (next => rfl); (next => rfl); (next => (simp [Value.oneCell']; done)); (next => (go_simp; done)); go_simp) | ((with_reducible refine upon_store #[.bool false, .int .i64 0, .int .i64 0, .int .i64 0, .int .i64 60, .int .i64 (-1), .int .i64 0] (own_apart2 (#[.bool false, .int .i64 0, .int .i64 0, .int .i64 0, .int .i64 60, .int .i64 (-1), .int .i64 0]).toList (own_at (w := wu) (n := wu.heap.size) [.bool false, .int .i64 0, .int .i64 0, .int .i64 0, .int .i64 0, .int .i64 0, .int .i64 0] 25 rfl) (M1.out.alloc (.cells #[.bool false, .int .i64 0, .int .i64 0, .int .i64 0, .int .i64 0, .int .i64 0, .int .i64 0] 25)) (by omega)) ?_ ?_ ?_ ?_ ?_); (next => rfl); (next => rfl); (next => (simp [Value.oneCell']; done)); (next => (go_simp; done)); go_simp) | ((with_reducible refine upon_store #[.bool false, .int .i64 0, .int .i64 0, .int .i64 0, .int .i64 60, .int .i64 (-1), .int .i64 0] (own_apart2 (#[.bool false, .int .i64 0, .int .i64 0, .int .i64 0, .int .i64 60, .int .i64 (-1), .int .i64 0]).toList (own_at (w := wu) (n := wu.heap.size) [.bool false, .int .i64 0, .int .i64 0, .int .i64 0, .int .i64 0, .int .i64 0, .int .i64 0] 25 rfl) (K1.out.alloc (.cells #[.bool false, .int .i64 0, .int .i64 0, .int .i64 0, .int .i64 0, .int .i64 0, .int .i64 0] 25)) (by omega)) ?_ ?_ ?_ ?_ ?_); (next => rfl); (next => rfl); (next => (simp [Value.oneCell']; done)); (next => (go_simp; done)); go_simp) | ((with_reducible refine upon_store #[.bool false, .int .i64 0, .int .i64 0, .int .i64 0, .int .i64 60, .int .i64 (-1), .int .i64 0] (own_apart2 (#[.bool false, .int .i64 0, .int .i64 0, .int .i64 0, .int .i64 60, .int .i64 (-1), .int .i64 0]).toList (own_at (w := wu.alloc (.cells #[.bool false, .int .i64 0, .int .i64 0, .int .i64 0, .int .i64 0, .int .i64 0, .int .i64 0] 25)) (n := wu.heap.size + 1) [.bool false, .int .i64 0, .int .i64 0, .int .i64 0, .int .i64 0, .int .i64 0, .int .i64 0] 25 size_alloc.symm) ((own_at (w := wu) (n := wu.heap.size) [.bool false, .int .i64 0, .int .i64 0, .int .i64 0, .int .i64 0, .int .i64 0, .int .i64 0] 25 rfl).alloc (.cells #[.bool false, .int .i64 0, .int .i64 0, .int .i64 0, .int .i64 0, .int .i64 0, .int .i64 0] 25)) (by omega)) ?_ ?_ ?_ ?_ ?_); (next => rfl); (next => rfl); (next => (simp [Value.oneCell']; done)); (next => (go_simp; done)); go_simp) | ((with_reducible refine upon_store #[.bool false, .int .i64 0, .int .i64 0, .int .i64 0, .int .i64 60, .int .i64 (-1), .int .i64 0] (M1.out.alloc (.cells #[.bool false, .int .i64 0, .int .i64 0, .int .i64 0, .int .i64 60, .int .i64 (-1), .int .i64 0] 25)) ?_ ?_ ?_ ?_ ?_); (next => rfl); (next => rfl); (next => (simp [Value.oneCell']; done)); (next => (go_simp; done)); go_simp) | ((with_reducible refine upon_store #[.bool false, .int .i64 0, .int .i64 0, .int .i64 0, .int .i64 60, .int .i64 (-1), .int .i64 0] (K1.out.alloc (.cells #[.bool false, .int .i64 0, .int .i64 0, .int .i64 0, .int .i64 60, .int .i64 (-1), .int .i64 0] 25)) ?_ ?_ ?_ ?_ ?_); (next => rfl); (next => rfl); (next => (simp [Value.oneCell']; done)); (next => (go_simp; done)); go_simp) | fail)
    all_goals (go_wp2_with fail; go_meet)
    · exact ⟨_, _, rfl, rfl, (oS2.alloc _).alloc _, (own_at _ _ rfl).alloc _, own_at _ _ size_alloc.symm, (BE2.out.alloc BE2.out.size _).alloc (by rw [size_alloc]; have := BE2.out.size; omega) _⟩
    · exact ⟨_, _, rfl, rfl, (oS2.alloc _).alloc _, own_at _ _ size_alloc.symm, (own_at _ _ rfl).alloc _, (BE2.out.alloc BE2.out.size _).alloc (by rw [size_alloc]; have := BE2.out.size; omega) _⟩
    · refine ⟨_, _, rfl, rfl, fin2 (oS2.alloc (.cells #[.bool false, .int .i64 0, .int .i64 0, .int .i64 0, .int .i64 0, .int .i64 0, .int .i64 0] 25)) (K1.out.alloc (.cells #[.bool false, .int .i64 0, .int .i64 0, .int .i64 0, .int .i64 0, .int .i64 0, .int .i64 0] 25)) (own_at (w := wu) (n := wu.heap.size) [.bool false, .int .i64 0, .int .i64 0, .int .i64 0, .int .i64 0, .int .i64 0, .int .i64 0] 25 rfl) ?_ ?_ ?_ rfl rfl (BE2.out.alloc BE2.out.size (.cells #[.bool false, .int .i64 0, .int .i64 0, .int .i64 0, .int .i64 0, .int .i64 0, .int .i64 0] 25))⟩ <;> omega
    · refine ⟨_, _, rfl, rfl, fin2 oS2 K2.out K1.out ?_ ?_ ?_ rfl rfl BE2.out⟩ <;> omega
    · refine ⟨_, _, rfl, rfl, fin3 oS2 K1.out rfl ?_ rfl BE2.out⟩ <;> omega
    · refine ⟨_, _, rfl, rfl, fin2 oS2 K1.out K2.out ?_ ?_ ?_ rfl rfl BE2.out⟩ <;> omega
    · refine ⟨_, _, rfl, rfl, fin2 (oS2.alloc (.cells #[.bool false, .int .i64 0, .int .i64 0, .int .i64 0, .int .i64 0, .int .i64 0, .int .i64 0] 25)) (M1.out.alloc (.cells #[.bool false, .int .i64 0, .int .i64 0, .int .i64 0, .int .i64 0, .int .i64 0, .int .i64 0] 25)) (own_at (w := wu) (n := wu.heap.size) [.bool false, .int .i64 0, .int .i64 0, .int .i64 0, .int .i64 0, .int .i64 0, .int .i64 0] 25 rfl) ?_ ?_ ?_ rfl rfl (BE2.out.alloc BE2.out.size (.cells #[.bool false, .int .i64 0, .int .i64 0, .int .i64 0, .int .i64 0, .int .i64 0, .int .i64 0] 25))⟩ <;> omega
    · refine ⟨_, _, rfl, rfl, fin2 oS2 M1.out K1.out ?_ ?_ ?_ rfl rfl BE2.out⟩ <;> omega
    · refine ⟨_, _, rfl, rfl, fin2 oS2 M2.out M1.out ?_ ?_ ?_ rfl rfl BE2.out⟩ <;> omega
    · refine ⟨_, _, rfl, rfl, fin3 oS2 M1.out rfl ?_ rfl BE2.out⟩ <;> omega
    · refine ⟨_, _, rfl, rfl, fin2 oS2 K1.out M1.out ?_ ?_ ?_ rfl rfl BE2.out⟩ <;> omega
    · refine ⟨_, _, rfl, rfl, fin2 oS2 M1.out M2.out ?_ ?_ ?_ rfl rfl BE2.out⟩ <;> omega
  case rest =>
    clear cS0 cS1 cS2 cS3 cS4 cS5 cS6 fS zS oS bel
    obtain ⟨bx, by', rfl, rfl, oS, oX, oY, bel⟩ := hcut
    generalize wc = w9 at oS oX oY bel ⊢
    obtain ⟨cS0, cS1, cS2, cS3, cS4, cS5, cS6, fS, zS⟩ := own7 oS
    obtain ⟨cX0, cX1, cX2, cX3, cX4, cX5, cX6, fX, zX⟩ := own7 oX
    obtain ⟨cY0, cY1, cY2, cY3, cY4, cY5, cY6, fY, zY⟩ := own7 oY
    go_wp2_with fail
    have pS0 := fun x : Past w9 => (oS.past x).cell (i := 0) rfl
    have pS1 := fun x : Past w9 => (oS.past x).cell (i := 1) rfl
    have pS2 := fun x : Past w9 => (oS.past x).cell (i := 2) rfl
    have pS3 := fun x : Past w9 => (oS.past x).cell (i := 3) rfl
    have pS4 := fun x : Past w9 => (oS.past x).cell (i := 4) rfl
    have pS5 := fun x : Past w9 => (oS.past x).cell (i := 5) rfl
    have pS6 := fun x : Past w9 => (oS.past x).cell (i := 6) rfl
    have pX0 := fun x : Past w9 => (oX.past x).cell (i := 0) rfl
    have pX1 := fun x : Past w9 => (oX.past x).cell (i := 1) rfl
    have pX2 := fun x : Past w9 => (oX.past x).cell (i := 2) rfl
    have pX3 := fun x : Past w9 => (oX.past x).cell (i := 3) rfl
    have pX4 := fun x : Past w9 => (oX.past x).cell (i := 4) rfl
    have pX5 := fun x : Past w9 => (oX.past x).cell (i := 5) rfl
    have pX6 := fun x : Past w9 => (oX.past x).cell (i := 6) rfl
    have pY0 := fun x : Past w9 => (oY.past x).cell (i := 0) rfl
    have pY1 := fun x : Past w9 => (oY.past x).cell (i := 1) rfl
    have pY2 := fun x : Past w9 => (oY.past x).cell (i := 2) rfl
    have pY3 := fun x : Past w9 => (oY.past x).cell (i := 3) rfl
    have pY4 := fun x : Past w9 => (oY.past x).cell (i := 4) rfl
    have pY5 := fun x : Past w9 => (oY.past x).cell (i := 5) rfl
    have pY6 := fun x : Past w9 => (oY.past x).cell (i := 6) rfl
    refine wp_region_past (by kernel_rfl) (by kernel_rfl) ?_
    repeat (go_big_quiet_step ((first | (go_at_call 18; exact calls_past (start_any false _)))))
    refine wpQuiet_nil ?_
    rintro _ ⟨x, rfl⟩
    replace bel : Below w.heap.size w (past w9 x) := bel.trans (x.h.mono bel.size)
    clear pS0 pS1 pS2 pS3 pS4 pS5 pS6
    clear pX0 pX1 pX2 pX3 pX4 pX5 pX6
    clear pY0 pY1 pY2 pY3 pY4 pY5 pY6
    clear cS0 cS1 cS2 cS3 cS4 cS5 cS6 fS zS cX0 cX1 cX2 cX3 cX4 cX5 cX6 fX zX cY0 cY1 cY2 cY3 cY4 cY5 cY6 fY zY
    replace oS := oS.past x
    replace oX := oX.past x
    replace oY := oY.past x
    generalize past w9 x = w10 at oS oX oY bel ⊢
    obtain ⟨cS0, cS1, cS2, cS3, cS4, cS5, cS6, fS, zS⟩ := own7 oS
    obtain ⟨cX0, cX1, cX2, cX3, cX4, cX5, cX6, fX, zX⟩ := own7 oX
    obtain ⟨cY0, cY1, cY2, cY3, cY4, cY5, cY6, fY, zY⟩ := own7 oY
    go_wp2_with fail
    have pS0 := fun x : Past w10 => (oS.past x).cell (i := 0) rfl
    have pS1 := fun x : Past w10 => (oS.past x).cell (i := 1) rfl
    have pS2 := fun x : Past w10 => (oS.past x).cell (i := 2) rfl
    have pS3 := fun x : Past w10 => (oS.past x).cell (i := 3) rfl
    have pS4 := fun x : Past w10 => (oS.past x).cell (i := 4) rfl
    have pS5 := fun x : Past w10 => (oS.past x).cell (i := 5) rfl
    have pS6 := fun x : Past w10 => (oS.past x).cell (i := 6) rfl
    have pX0 := fun x : Past w10 => (oX.past x).cell (i := 0) rfl
    have pX1 := fun x : Past w10 => (oX.past x).cell (i := 1) rfl
    have pX2 := fun x : Past w10 => (oX.past x).cell (i := 2) rfl
    have pX3 := fun x : Past w10 => (oX.past x).cell (i := 3) rfl
    have pX4 := fun x : Past w10 => (oX.past x).cell (i := 4) rfl
    have pX5 := fun x : Past w10 => (oX.past x).cell (i := 5) rfl
    have pX6 := fun x : Past w10 => (oX.past x).cell (i := 6) rfl
    have pY0 := fun x : Past w10 => (oY.past x).cell (i := 0) rfl
    have pY1 := fun x : Past w10 => (oY.past x).cell (i := 1) rfl
    have pY2 := fun x : Past w10 => (oY.past x).cell (i := 2) rfl
    have pY3 := fun x : Past w10 => (oY.past x).cell (i := 3) rfl
    have pY4 := fun x : Past w10 => (oY.past x).cell (i := 4) rfl
    have pY5 := fun x : Past w10 => (oY.past x).cell (i := 5) rfl
    have pY6 := fun x : Past w10 => (oY.past x).cell (i := 6) rfl
    refine wp_region_past (by kernel_rfl) (by kernel_rfl) ?_
    repeat (go_big_quiet_step ((first | (go_at_call 18; exact calls_past (start_any false _)))))
    refine wpQuiet_nil ?_
    rintro _ ⟨x, rfl⟩
    replace bel : Below w.heap.size w (past w10 x) := bel.trans (x.h.mono bel.size)
    clear pS0 pS1 pS2 pS3 pS4 pS5 pS6
    clear pX0 pX1 pX2 pX3 pX4 pX5 pX6
    clear pY0 pY1 pY2 pY3 pY4 pY5 pY6
    clear cS0 cS1 cS2 cS3 cS4 cS5 cS6 fS zS cX0 cX1 cX2 cX3 cX4 cX5 cX6 fX zX cY0 cY1 cY2 cY3 cY4 cY5 cY6 fY zY
    replace oS := oS.past x
    replace oX := oX.past x
    replace oY := oY.past x
    generalize past w10 x = w11 at oS oX oY bel ⊢
    obtain ⟨cS0, cS1, cS2, cS3, cS4, cS5, cS6, fS, zS⟩ := own7 oS
    obtain ⟨cX0, cX1, cX2, cX3, cX4, cX5, cX6, fX, zX⟩ := own7 oX
    obtain ⟨cY0, cY1, cY2, cY3, cY4, cY5, cY6, fY, zY⟩ := own7 oY
    go_wp2
    all_goals (go_ret; exact ⟨by first | rfl | simp_all, (by repeat (first | exact bel | refine Below.alloc ?_ (by have := bel.size; simp; omega) _))⟩)

end Go.Proofs.Ytfclodgfifbfbaa

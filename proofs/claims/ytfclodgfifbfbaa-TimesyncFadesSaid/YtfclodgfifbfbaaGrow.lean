/- The contracts of growing, and of what stands on it. -/
import Derived.Test.YtfclodgfifbfbaaBound
namespace Go.Proofs.Ytfclodgfifbfbaa
open Go.RowKit

set_option maxHeartbeats 1000000 in
theorem grow_in (l h a n : Int) (w : World) (kv : vldS l h a = true) (ka : a ≤ n) (kn : n ≤ 20000000000000) :
    Calls Try.prog 40 #[.agg #[.int .i64 l, .int .i64 h, .int .i64 a], .int .i64 n] w
      fun e w' => e = .returned (.tuple #[.agg #[.int .i64 (grL l h a n), .int .i64 (grH l h a n), .int .i64 (grA l h a n)], .int .i64 (grE l h a n)]) ∧ Below w.heap.size w w' := by
  obtain ⟨v1, v2, v3, v4, v5⟩ := vldS_iff.1 kv
  have k := okA_iff.2 ⟨kv, ka, kn⟩
  have KV := Lib.hid kv
  rcases Bool.eq_false_or_eq_true (okR l h a n) with kr | kr
  · obtain ⟨e1, e2, e3, e4⟩ := gr_ok k kr
    rw [e1, e2, e3, e4]
    have KR : Hid (vldS (l - gm (n - a)) (h + gm (n - a)) n = true) := kr
    clear e1 e2 e3 e4 k kv kr
    go_enter Try.func40, Try.ntmps40
    go_wp2_with fail
    refine (spval_lit _ _ _ true _ KV.out).mono ?_
    rintro e w1 ⟨rfl, hb⟩
    have oS : Own w1 w.heap.size [.int .i64 l, .int .i64 h, .int .i64 a] 61 := ((own_at _ _ rfl).alloc _).below hb
    have oR : Own w1 (w.heap.size + 1) [.int .i64 0, .int .i64 0, .int .i64 0] 61 := (own_at _ _ (by simp)).below hb
    have bel := belowTo ((belowNew w _).alloc (by simp) _) hb (by simp; omega)
    clear hb
    obtain ⟨cS0, cS1, cS2, fS, zS⟩ := own3 oS
    obtain ⟨cR0, cR1, cR2, fR, zR⟩ := own3 oR
    go_wp2_with fail
    refine (asc3_lit _ _ _ _ true _ ?_ ?_ ?_ (decide_eq_true ⟨ka, kn⟩)).mono ?_
    iterate 3 simp [go_sem]
    rintro e w' ⟨rfl, m, rfl⟩
    go_wp2_with fail
    rw [show (51 * (n - a) + 1000000 - 1) / 1000000 + 1 = gm (n - a) from by unfold gm; omega]
    refine (spval_lit _ _ _ true _ KR.out).mono ?_
    rintro e w3 ⟨rfl, hb⟩
    have oS3 : Own w3 w.heap.size [.int .i64 (l - gm (n - a)), .int .i64 (h + gm (n - a)), .int .i64 n] 61 := (((((oS.alloc _).drewN m).set 0 _).set 1 _).set 2 _).below hb
    have oR3 : Own w3 (w.heap.size + 1) [.int .i64 0, .int .i64 0, .int .i64 0] 61 := (((((oR.alloc _).drewN m).other (by simp) _).other (by simp) _).other (by simp) _).below hb
    have b2 := (((belowN (n := m) (bel.alloc bel.size (.cells #[.int .i64 a, .int .i64 n, .int .i64 20000000000000] 3))).setCell (p := ⟨w.heap.size, 0, none⟩) (Nat.le_refl _) (.int .i64 (l - gm (n - a)))).setCell (p := ⟨w.heap.size, 1, none⟩) (Nat.le_refl _) (.int .i64 (h + gm (n - a)))).setCell (p := ⟨w.heap.size, 2, none⟩) (Nat.le_refl _) (.int .i64 n)
    have b3 := belowTo b2 hb b2.size
    clear hb b2 bel oS oR cS0 cS1 cS2 fS zS cR0 cR1 cR2 fR zR
    obtain ⟨cS0, cS1, cS2, fS, zS⟩ := own3 oS3
    obtain ⟨cR0, cR1, cR2, fR, zR⟩ := own3 oR3
    go_wp2
    exact bodyPost_ret (v := .tuple #[.agg #[.int .i64 (l - gm (n - a)), .int .i64 (h + gm (n - a)), .int .i64 n], .int .i64 0]) (by simp [results, Try.results40, go_sem, *]) rfl
      ⟨rfl, ((b3.setCell (by simp) _).setCell (by simp) _).setCell (by simp) _⟩

  · obtain ⟨e1, e2, e3, e4⟩ := gr_range k kr
    rw [e1, e2, e3, e4]
    have KR : Hid (vldS (l - gm (n - a)) (h + gm (n - a)) n = false) := kr
    clear e1 e2 e3 e4 k kv kr
    go_enter Try.func40, Try.ntmps40
    go_wp2_with fail
    refine (spval_lit _ _ _ true _ KV.out).mono ?_
    rintro e w1 ⟨rfl, hb⟩
    have oS : Own w1 w.heap.size [.int .i64 l, .int .i64 h, .int .i64 a] 61 := ((own_at _ _ rfl).alloc _).below hb
    have oR : Own w1 (w.heap.size + 1) [.int .i64 0, .int .i64 0, .int .i64 0] 61 := (own_at _ _ (by simp)).below hb
    have bel := belowTo ((belowNew w _).alloc (by simp) _) hb (by simp; omega)
    clear hb
    obtain ⟨cS0, cS1, cS2, fS, zS⟩ := own3 oS
    obtain ⟨cR0, cR1, cR2, fR, zR⟩ := own3 oR
    go_wp2_with fail
    refine (asc3_lit _ _ _ _ true _ ?_ ?_ ?_ (decide_eq_true ⟨ka, kn⟩)).mono ?_
    iterate 3 simp [go_sem]
    rintro e w' ⟨rfl, m, rfl⟩
    go_wp2_with fail
    rw [show (51 * (n - a) + 1000000 - 1) / 1000000 + 1 = gm (n - a) from by unfold gm; omega]
    refine (spval_lit _ _ _ false _ KR.out).mono ?_
    rintro e w3 ⟨rfl, hb⟩
    have oS3 : Own w3 w.heap.size [.int .i64 (l - gm (n - a)), .int .i64 (h + gm (n - a)), .int .i64 n] 61 := (((((oS.alloc _).drewN m).set 0 _).set 1 _).set 2 _).below hb
    have oR3 : Own w3 (w.heap.size + 1) [.int .i64 0, .int .i64 0, .int .i64 0] 61 := (((((oR.alloc _).drewN m).other (by simp) _).other (by simp) _).other (by simp) _).below hb
    have b2 := (((belowN (n := m) (bel.alloc bel.size (.cells #[.int .i64 a, .int .i64 n, .int .i64 20000000000000] 3))).setCell (p := ⟨w.heap.size, 0, none⟩) (Nat.le_refl _) (.int .i64 (l - gm (n - a)))).setCell (p := ⟨w.heap.size, 1, none⟩) (Nat.le_refl _) (.int .i64 (h + gm (n - a)))).setCell (p := ⟨w.heap.size, 2, none⟩) (Nat.le_refl _) (.int .i64 n)
    have b3 := belowTo b2 hb b2.size
    clear hb b2 bel oS oR cS0 cS1 cS2 fS zS cR0 cR1 cR2 fR zR
    obtain ⟨cS0, cS1, cS2, fS, zS⟩ := own3 oS3
    obtain ⟨cR0, cR1, cR2, fR, zR⟩ := own3 oR3
    go_wp2
    exact bodyPost_ret (v := .tuple #[.agg #[.int .i64 0, .int .i64 0, .int .i64 0], .int .i64 3]) (by simp [results, Try.results40, go_sem, *]) rfl
      ⟨rfl, ((b3.setCell (by simp) _).setCell (by simp) _).setCell (by simp) _⟩


set_option maxHeartbeats 1000000 in
theorem grow_out (l h a n : Int) (w : World) (k : okA l h a n = false) :
    Calls Try.prog 40 #[.agg #[.int .i64 l, .int .i64 h, .int .i64 a], .int .i64 n] w
      fun e w' => e = .returned (.tuple #[.agg #[.int .i64 (grL l h a n), .int .i64 (grH l h a n), .int .i64 (grA l h a n)], .int .i64 (grE l h a n)]) ∧ Below w.heap.size w w' := by
  obtain ⟨e1, e2, e3, e4⟩ := gr_arg k
  rw [e1, e2, e3, e4]
  clear e1 e2 e3 e4
  rcases Bool.eq_false_or_eq_true (vldS l h a) with kv | kv
  · have kn : decide (a ≤ n ∧ n ≤ 20000000000000) = false := by
      rcases Bool.eq_false_or_eq_true (decide (a ≤ n ∧ n ≤ 20000000000000)) with q | q
      · simp [okA, kv] at k; simp at q; omega
      · exact q
    have KV := Lib.hid kv
    have KN := Lib.hid kn
    clear kv kn k
    go_enter Try.func40, Try.ntmps40
    go_wp2_with fail
    refine (spval_lit _ _ _ true _ KV.out).mono ?_
    rintro e w1 ⟨rfl, hb⟩
    have oS : Own w1 w.heap.size [.int .i64 l, .int .i64 h, .int .i64 a] 61 := ((own_at _ _ rfl).alloc _).below hb
    have oR : Own w1 (w.heap.size + 1) [.int .i64 0, .int .i64 0, .int .i64 0] 61 := (own_at _ _ (by simp)).below hb
    have bel := belowTo ((belowNew w _).alloc (by simp) _) hb (by simp; omega)
    clear hb
    obtain ⟨cS0, cS1, cS2, fS, zS⟩ := own3 oS
    obtain ⟨cR0, cR1, cR2, fR, zR⟩ := own3 oR
    go_wp2_with fail
    refine (asc3_lit _ _ _ _ false _ ?_ ?_ ?_ KN.out).mono ?_
    iterate 3 simp [go_sem]
    rintro e w' ⟨rfl, m, rfl⟩
    have oR2 : Own ((w1.alloc (.cells #[.int .i64 a, .int .i64 n, .int .i64 20000000000000] 3)).drewN m) (w.heap.size + 1) [.int .i64 0, .int .i64 0, .int .i64 0] 61 := (oR.alloc _).drewN m
    clear cS0 cS1 cS2 fS cR0 cR1 cR2 fR
    obtain ⟨cR0, cR1, cR2, fR, _⟩ := own3 oR
    go_wp2
    exact bodyPost_ret (v := .tuple #[.agg #[.int .i64 0, .int .i64 0, .int .i64 0], .int .i64 1]) (by simp [results, Try.results40, go_sem, *]) rfl
      ⟨rfl, (((belowN (bel.alloc bel.size _)).setCell (by simp) _).setCell (by simp) _).setCell (by simp) _⟩

  · have KV := Lib.hid kv
    clear kv k
    go_enter Try.func40, Try.ntmps40
    go_wp2_with fail
    refine (spval_lit _ _ _ false _ KV.out).mono ?_
    rintro e w1 ⟨rfl, hb⟩
    have oR : Own w1 (w.heap.size + 1) [.int .i64 0, .int .i64 0, .int .i64 0] 61 := (own_at _ _ (by simp)).below hb
    have bel := belowTo ((belowNew w _).alloc (by simp) _) hb (by simp; omega)
    clear hb
    obtain ⟨cR0, cR1, cR2, fR, zR⟩ := own3 oR
    go_wp2
    exact bodyPost_ret (v := .tuple #[.agg #[.int .i64 0, .int .i64 0, .int .i64 0], .int .i64 1]) (by simp [results, Try.results40, go_sem, *]) rfl
      ⟨rfl, ((bel.setCell (by simp) _).setCell (by simp) _).setCell (by simp) _⟩


theorem sgrow_any (l h a n : Int) (w : World) :
    Calls Try.prog 40 #[.agg #[.int .i64 l, .int .i64 h, .int .i64 a], .int .i64 n] w
      fun e w' => e = .returned (.tuple #[.agg #[.int .i64 (grL l h a n), .int .i64 (grH l h a n), .int .i64 (grA l h a n)], .int .i64 (grE l h a n)]) ∧ Below w.heap.size w w' := by
  rcases Bool.eq_false_or_eq_true (okA l h a n) with k | k
  · obtain ⟨k1, k2, k3⟩ := okA_iff.1 k
    exact grow_in l h a n w k1 k2 k3
  · exact grow_out l h a n w k

theorem sgrow_lit (l h a n L H A E : Int) (w : World) (k : grL l h a n = L ∧ grH l h a n = H ∧ grA l h a n = A ∧ grE l h a n = E) :
    Calls Try.prog 40 #[.agg #[.int .i64 l, .int .i64 h, .int .i64 a], .int .i64 n] w
      fun e w' => e = .returned (.tuple #[.agg #[.int .i64 L, .int .i64 H, .int .i64 A], .int .i64 E]) ∧ Below w.heap.size w w' := by
  have := sgrow_any l h a n w
  rwa [k.1, k.2.1, k.2.2.1, k.2.2.2] at this

set_option maxHeartbeats 1000000 in
theorem bgrow_lit (l h a n L H A E : Int) (w : World) (k : grL l h a n = L ∧ grH l h a n = H ∧ grA l h a n = A ∧ grE l h a n = E) :
    Calls Try.prog 23 #[.agg #[.int .i64 l, .int .i64 h, .int .i64 a], .int .i64 n] w
      fun e w' => e = .returned (.tuple #[.agg #[.int .i64 L, .int .i64 H, .int .i64 A], .int .i64 E]) ∧ Below w.heap.size w w' := by
  go_enter Try.func23, Try.ntmps23
  go_wp2_with fail
  refine (sgrow_lit _ _ _ _ _ _ _ _ _ k).mono ?_
  rintro e w1 ⟨rfl, hb⟩
  have oR : Own w1 (w.heap.size + 1) [.int .i64 0, .int .i64 0, .int .i64 0] 23 := (own_at _ _ (by simp)).below hb
  have bel := belowTo ((belowNew w _).alloc (by simp) _) hb (by simp; omega)
  clear hb
  obtain ⟨cR0, cR1, cR2, fR, zR⟩ := own3 oR
  go_wp2
  exact bodyPost_ret (v := .tuple #[.agg #[.int .i64 L, .int .i64 H, .int .i64 A], .int .i64 E]) (by simp [results, Try.results23, go_sem, *]) rfl
    ⟨rfl, ((((bel.setCell (by simp) _).setCell (by simp) _).setCell (by simp) _).alloc (by have := bel.size; simp; omega) _)⟩

set_option maxHeartbeats 1000000 in
theorem bvalid_lit (l h a : Int) (r : Bool) (w : World) (k : vldS l h a = r) :
    Calls Try.prog 45 #[.agg #[.int .i64 l, .int .i64 h, .int .i64 a]] w
      fun e w' => e = .returned (.bool r) ∧ Below w.heap.size w w' := by
  go_enter Try.func45, Try.ntmps45
  go_wp2_with fail
  refine (spval_lit _ _ _ r _ k).mono ?_
  rintro e w1 ⟨rfl, hb⟩
  go_wp2
  go_ret
  exact ⟨rfl, belowTo (belowNew w _) hb (by simp)⟩

set_option maxHeartbeats 1000000 in
theorem bwidth_any (l h a : Int) (w : World) :
    Calls Try.prog 35 #[.agg #[.int .i64 l, .int .i64 h, .int .i64 a]] w
      fun e w' => e = .returned (.int .i64 (widS l h a)) ∧ Below w.heap.size w w' := by
  rcases Bool.eq_false_or_eq_true (vldS l h a) with k | k
  · obtain ⟨v1, v2, v3, v4, v5⟩ := vldS_iff.1 k
    rw [show widS l h a = h - l from by simp [widS, k]]
    go_enter Try.func35, Try.ntmps35
    go_wp2_with fail
    refine (bvalid_lit _ _ _ true _ k).mono ?_
    rintro e w1 ⟨rfl, hb⟩
    have oS : Own w1 w.heap.size [.int .i64 l, .int .i64 h, .int .i64 a] 23 := (own_at _ _ rfl).below hb
    obtain ⟨cS0, cS1, cS2, fS, zS⟩ := own3 oS
    go_wp2
    go_ret
    exact ⟨rfl, belowTo (belowNew w _) hb (by simp)⟩
  · rw [show widS l h a = -1 from by simp [widS, k]]
    go_enter Try.func35, Try.ntmps35
    go_wp2_with fail
    refine (bvalid_lit _ _ _ false _ k).mono ?_
    rintro e w1 ⟨rfl, hb⟩
    go_wp2
    go_ret
    exact ⟨rfl, belowTo (belowNew w _) hb (by simp)⟩

theorem bwidth_lit (l h a x : Int) (w : World) (k : widS l h a = x) :
    Calls Try.prog 35 #[.agg #[.int .i64 l, .int .i64 h, .int .i64 a]] w
      fun e w' => e = .returned (.int .i64 x) ∧ Below w.heap.size w w' := by
  have := bwidth_any l h a w
  rwa [k] at this

end Go.Proofs.Ytfclodgfifbfbaa

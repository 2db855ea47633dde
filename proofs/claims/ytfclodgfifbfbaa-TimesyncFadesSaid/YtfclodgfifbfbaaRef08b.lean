/- The contracts of the reference: Grow and Heard. -/
import Derived.Test.YtfclodgfifbfbaaRef08
namespace Go.Proofs.Ytfclodgfifbfbaa
open Go.RowKit

set_option maxHeartbeats 2000000 in
theorem rgrow_any (l h a n : Int) (w : World) :
    Calls Try.prog 36 #[.agg #[.int .i64 l, .int .i64 h, .int .i64 a], .int .i64 n] w
      fun e w' => e = .returned (.tuple #[.agg #[.int .i64 (grL l h a n), .int .i64 (grH l h a n), .int .i64 (grA l h a n)], .int .i64 (grE l h a n)]) ∧ Below w.heap.size w w' := by
  rcases Bool.eq_false_or_eq_true (okA l h a n) with k | k
  · obtain ⟨kv, ka, kn⟩ := okA_iff.1 k
    obtain ⟨v1, v2, v3, v4, v5⟩ := vldS_iff.1 kv
    have hg := gm_bd (e := n - a) (by omega) (by omega)
    have KV := Lib.hid kv
    rcases Bool.eq_false_or_eq_true (okR l h a n) with kr | kr
    · obtain ⟨e1, e2, e3, e4⟩ := gr_ok k kr
      rw [e1, e2, e3, e4]
      have KR : Hid (vldS (l - gm (n - a)) (h + gm (n - a)) n = true) := kr
      clear e1 e2 e3 e4 k kv kr
      go_enter Try.func36, Try.ntmps36
      go_wp2_with fail
      refine (rsvalid_lit _ _ _ true _ KV.out).mono ?_
      rintro e w1 ⟨rfl, hb⟩
      have oS : Own w1 w.heap.size [.int .i64 l, .int .i64 h, .int .i64 a] 23 := ((own_at _ _ rfl).alloc _).below hb
      have oR : Own w1 (w.heap.size + 1) [.int .i64 0, .int .i64 0, .int .i64 0] 23 := (own_at _ _ (by simp)).below hb
      have bel := belowTo ((belowNew w _).alloc (by simp) _) hb (by simp; omega)
      clear hb
      obtain ⟨cS0, cS1, cS2, fS, zS⟩ := own3 oS
      obtain ⟨cR0, cR1, cR2, fR, zR⟩ := own3 oR
      go_wp2_with fail
      refine (more_any (n - a) _ (by omega) (by omega)).mono ?_
      rintro e w2 ⟨rfl, rfl⟩
      go_wp2_with fail
      refine (rsvalid_lit _ _ _ true _ KR.out).mono ?_
      rintro e w3 ⟨rfl, hb⟩
      have oO : Own w3 w1.heap.size [.int .i64 (l - gm (n - a)), .int .i64 (h + gm (n - a)), .int .i64 n] 23 := (own_at _ _ rfl).below hb
      replace oR := (oR.alloc _).below hb
      have b3 := belowTo (bel.alloc bel.size _) hb (by have := bel.size; simp; omega)
      clear hb cS0 cS1 cS2 fS zS cR0 cR1 cR2 fR zR
      obtain ⟨cO0, cO1, cO2, fO, zO⟩ := own3 oO
      obtain ⟨cR0, cR1, cR2, fR, zR⟩ := own3 oR
      go_wp2
      exact bodyPost_ret (v := .tuple #[.agg #[.int .i64 (l - gm (n - a)), .int .i64 (h + gm (n - a)), .int .i64 n], .int .i64 0]) (by simp [results, Try.results36, go_sem, *]) rfl
        ⟨rfl, ((b3.setCell (by simp) _).setCell (by simp) _).setCell (by simp) _⟩

    · obtain ⟨e1, e2, e3, e4⟩ := gr_range k kr
      rw [e1, e2, e3, e4]
      have KR : Hid (vldS (l - gm (n - a)) (h + gm (n - a)) n = false) := kr
      clear e1 e2 e3 e4 k kv kr
      go_enter Try.func36, Try.ntmps36
      go_wp2_with fail
      refine (rsvalid_lit _ _ _ true _ KV.out).mono ?_
      rintro e w1 ⟨rfl, hb⟩
      have oS : Own w1 w.heap.size [.int .i64 l, .int .i64 h, .int .i64 a] 23 := ((own_at _ _ rfl).alloc _).below hb
      have oR : Own w1 (w.heap.size + 1) [.int .i64 0, .int .i64 0, .int .i64 0] 23 := (own_at _ _ (by simp)).below hb
      have bel := belowTo ((belowNew w _).alloc (by simp) _) hb (by simp; omega)
      clear hb
      obtain ⟨cS0, cS1, cS2, fS, zS⟩ := own3 oS
      obtain ⟨cR0, cR1, cR2, fR, zR⟩ := own3 oR
      go_wp2_with fail
      refine (more_any (n - a) _ (by omega) (by omega)).mono ?_
      rintro e w2 ⟨rfl, rfl⟩
      go_wp2_with fail
      refine (rsvalid_lit _ _ _ false _ KR.out).mono ?_
      rintro e w3 ⟨rfl, hb⟩
      have oO : Own w3 w1.heap.size [.int .i64 (l - gm (n - a)), .int .i64 (h + gm (n - a)), .int .i64 n] 23 := (own_at _ _ rfl).below hb
      replace oR := (oR.alloc _).below hb
      have b3 := belowTo (bel.alloc bel.size _) hb (by have := bel.size; simp; omega)
      clear hb cS0 cS1 cS2 fS zS cR0 cR1 cR2 fR zR
      obtain ⟨cO0, cO1, cO2, fO, zO⟩ := own3 oO
      obtain ⟨cR0, cR1, cR2, fR, zR⟩ := own3 oR
      go_wp2
      exact bodyPost_ret (v := .tuple #[.agg #[.int .i64 0, .int .i64 0, .int .i64 0], .int .i64 3]) (by simp [results, Try.results36, go_sem, *]) rfl
        ⟨rfl, ((b3.setCell (by simp) _).setCell (by simp) _).setCell (by simp) _⟩

  · obtain ⟨e1, e2, e3, e4⟩ := gr_arg k
    rw [e1, e2, e3, e4]
    clear e1 e2 e3 e4
    rcases Bool.eq_false_or_eq_true (vldS l h a) with kv | kv
    · have kn : n < a ∨ (a ≤ n ∧ 20000000000000 < n) := by
        rcases Int.lt_or_le n a with q | q
        · exact .inl q
        · refine .inr ⟨q, ?_⟩
          rcases Int.lt_or_le 20000000000000 n with q2 | q2
          · exact q2
          · rw [okA_iff.2 ⟨kv, q, q2⟩] at k; cases k
      have KV := Lib.hid kv
      clear kv k
      rcases kn with kn | ⟨kn, kn2⟩
      · go_enter Try.func36, Try.ntmps36
        go_wp2_with fail
        refine (rsvalid_lit _ _ _ true _ KV.out).mono ?_
        rintro e w1 ⟨rfl, hb⟩
        have oS : Own w1 w.heap.size [.int .i64 l, .int .i64 h, .int .i64 a] 23 := ((own_at _ _ rfl).alloc _).below hb
        have oR : Own w1 (w.heap.size + 1) [.int .i64 0, .int .i64 0, .int .i64 0] 23 := (own_at _ _ (by simp)).below hb
        have bel := belowTo ((belowNew w _).alloc (by simp) _) hb (by simp; omega)
        clear hb
        obtain ⟨cS0, cS1, cS2, fS, zS⟩ := own3 oS
        obtain ⟨cR0, cR1, cR2, fR, zR⟩ := own3 oR
        go_wp2
        exact bodyPost_ret (v := .tuple #[.agg #[.int .i64 0, .int .i64 0, .int .i64 0], .int .i64 1]) (by simp [results, Try.results36, go_sem, *]) rfl
          ⟨rfl, ((bel.setCell (by simp) _).setCell (by simp) _).setCell (by simp) _⟩
      · go_enter Try.func36, Try.ntmps36
        go_wp2_with fail
        refine (rsvalid_lit _ _ _ true _ KV.out).mono ?_
        rintro e w1 ⟨rfl, hb⟩
        have oS : Own w1 w.heap.size [.int .i64 l, .int .i64 h, .int .i64 a] 23 := ((own_at _ _ rfl).alloc _).below hb
        have oR : Own w1 (w.heap.size + 1) [.int .i64 0, .int .i64 0, .int .i64 0] 23 := (own_at _ _ (by simp)).below hb
        have bel := belowTo ((belowNew w _).alloc (by simp) _) hb (by simp; omega)
        clear hb
        obtain ⟨cS0, cS1, cS2, fS, zS⟩ := own3 oS
        obtain ⟨cR0, cR1, cR2, fR, zR⟩ := own3 oR
        go_wp2
        exact bodyPost_ret (v := .tuple #[.agg #[.int .i64 0, .int .i64 0, .int .i64 0], .int .i64 1]) (by simp [results, Try.results36, go_sem, *]) rfl
          ⟨rfl, ((bel.setCell (by simp) _).setCell (by simp) _).setCell (by simp) _⟩

    · have KV := Lib.hid kv
      clear kv k
      go_enter Try.func36, Try.ntmps36
      go_wp2_with fail
      refine (rsvalid_lit _ _ _ false _ KV.out).mono ?_
      rintro e w1 ⟨rfl, hb⟩
      have oS : Own w1 w.heap.size [.int .i64 l, .int .i64 h, .int .i64 a] 23 := ((own_at _ _ rfl).alloc _).below hb
      have oR : Own w1 (w.heap.size + 1) [.int .i64 0, .int .i64 0, .int .i64 0] 23 := (own_at _ _ (by simp)).below hb
      have bel := belowTo ((belowNew w _).alloc (by simp) _) hb (by simp; omega)
      clear hb
      obtain ⟨cS0, cS1, cS2, fS, zS⟩ := own3 oS
      obtain ⟨cR0, cR1, cR2, fR, zR⟩ := own3 oR
      go_wp2
      exact bodyPost_ret (v := .tuple #[.agg #[.int .i64 0, .int .i64 0, .int .i64 0], .int .i64 1]) (by simp [results, Try.results36, go_sem, *]) rfl
        ⟨rfl, ((bel.setCell (by simp) _).setCell (by simp) _).setCell (by simp) _⟩


theorem rgrow_lit (l h a n L H A E : Int) (w : World) (k : grL l h a n = L ∧ grH l h a n = H ∧ grA l h a n = A ∧ grE l h a n = E) :
    Calls Try.prog 36 #[.agg #[.int .i64 l, .int .i64 h, .int .i64 a], .int .i64 n] w
      fun e w' => e = .returned (.tuple #[.agg #[.int .i64 L, .int .i64 H, .int .i64 A], .int .i64 E]) ∧ Below w.heap.size w w' := by
  have := rgrow_any l h a n w
  rwa [k.1, k.2.1, k.2.2.1, k.2.2.2] at this

set_option maxHeartbeats 2000000 in
theorem rheard_any (f p b s c : Int) (w : World) :
    Calls Try.prog 32 #[.agg #[.int .i64 f, .int .i64 p, .int .i64 b, .int .i64 s, .int .i64 c]] w
      fun e w' => e = .returned (.tuple #[.agg #[.int .i64 (heL s b c), .int .i64 (heH s b c), .int .i64 (heA s b c)], .int .i64 (heE s b c)]) ∧ Below w.heap.size w w' := by
  rcases Bool.eq_false_or_eq_true (vldH s b c) with k | k
  · obtain ⟨k1, k2, k3, k4, k5, k6⟩ := vldH_iff.1 k
    obtain ⟨e1, e2, e3, e4⟩ := he_ok k
    rw [e1, e2, e3, e4]
    have KV := Lib.hid k
    clear e1 e2 e3 e4 k
    go_enter Try.func32, Try.ntmps32
    go_wp2_with fail
    refine (rhint_lit _ _ _ _ _ true _ KV.out).mono ?_
    rintro e w1 ⟨rfl, hb⟩
    have oS : Own w1 w.heap.size [.int .i64 f, .int .i64 p, .int .i64 b, .int .i64 s, .int .i64 c] 27 := ((own_at _ _ rfl).alloc _).below hb
    have oR : Own w1 (w.heap.size + 1) [.int .i64 0, .int .i64 0, .int .i64 0] 23 := (own_at _ _ (by simp)).below hb
    have bel := belowTo ((belowNew w _).alloc (by simp) _) hb (by simp; omega)
    clear hb
    have cS2 := oS.cell (i := 2) rfl
    have cS3 := oS.cell (i := 3) rfl
    have cS4 := oS.cell (i := 4) rfl
    obtain ⟨cR0, cR1, cR2, fR, zR⟩ := own3 oR
    go_wp2
    exact bodyPost_ret (v := .tuple #[.agg #[.int .i64 (s * 10000 - c - b), .int .i64 (s * 10000 - c + b), .int .i64 c], .int .i64 0]) (by simp [results, Try.results32, go_sem, *]) rfl
      ⟨rfl, ((bel.setCell (by simp) _).setCell (by simp) _).setCell (by simp) _⟩

  · obtain ⟨e1, e2, e3, e4⟩ := he_no k
    rw [e1, e2, e3, e4]
    have KV := Lib.hid k
    clear e1 e2 e3 e4 k
    go_enter Try.func32, Try.ntmps32
    go_wp2_with fail
    refine (rhint_lit _ _ _ _ _ false _ KV.out).mono ?_
    rintro e w1 ⟨rfl, hb⟩
    have oS : Own w1 w.heap.size [.int .i64 f, .int .i64 p, .int .i64 b, .int .i64 s, .int .i64 c] 27 := ((own_at _ _ rfl).alloc _).below hb
    have oR : Own w1 (w.heap.size + 1) [.int .i64 0, .int .i64 0, .int .i64 0] 23 := (own_at _ _ (by simp)).below hb
    have bel := belowTo ((belowNew w _).alloc (by simp) _) hb (by simp; omega)
    clear hb
    have cS2 := oS.cell (i := 2) rfl
    have cS3 := oS.cell (i := 3) rfl
    have cS4 := oS.cell (i := 4) rfl
    obtain ⟨cR0, cR1, cR2, fR, zR⟩ := own3 oR
    go_wp2
    exact bodyPost_ret (v := .tuple #[.agg #[.int .i64 0, .int .i64 0, .int .i64 0], .int .i64 1]) (by simp [results, Try.results32, go_sem, *]) rfl
      ⟨rfl, ((bel.setCell (by simp) _).setCell (by simp) _).setCell (by simp) _⟩


theorem rheard_lit (f p b s c L H A E : Int) (w : World) (k : heL s b c = L ∧ heH s b c = H ∧ heA s b c = A ∧ heE s b c = E) :
    Calls Try.prog 32 #[.agg #[.int .i64 f, .int .i64 p, .int .i64 b, .int .i64 s, .int .i64 c]] w
      fun e w' => e = .returned (.tuple #[.agg #[.int .i64 L, .int .i64 H, .int .i64 A], .int .i64 E]) ∧ Below w.heap.size w w' := by
  have := rheard_any f p b s c w
  rwa [k.1, k.2.1, k.2.2.1, k.2.2.2] at this

end Go.Proofs.Ytfclodgfifbfbaa

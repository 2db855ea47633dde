/- The contract of Heard. -/
import Derived.Test.YtfclodgfifbfbaaGrow
namespace Go.Proofs.Ytfclodgfifbfbaa
open Go.RowKit

set_option maxHeartbeats 2000000 in
theorem heard_any (f p b s c : Int) (w : World) :
    Calls Try.prog 22 #[.agg #[.int .i64 f, .int .i64 p, .int .i64 b, .int .i64 s, .int .i64 c]] w
      fun e w' => e = .returned (.tuple #[.agg #[.int .i64 (heL s b c), .int .i64 (heH s b c), .int .i64 (heA s b c)], .int .i64 (heE s b c)]) ∧ Below w.heap.size w w' := by
  rcases Bool.eq_false_or_eq_true (vldH s b c) with k | k
  · obtain ⟨k1, k2, k3, k4, k5, k6⟩ := vldH_iff.1 k
    obtain ⟨e1, e2, e3, e4⟩ := he_ok k
    rw [e1, e2, e3, e4]
    clear e1 e2 e3 e4 k
    go_enter Try.func22, Try.ntmps22
    go_wp2_with fail
    refine (asc3_lit _ _ _ _ true _ ?_ ?_ ?_ (decide_eq_true ⟨k1, k2⟩)).mono ?_
    iterate 3 simp [go_sem]
    rintro e w' ⟨rfl, m1, rfl⟩
    go_wp2_with fail
    refine (asc3_lit _ _ _ _ true _ ?_ ?_ ?_ (decide_eq_true ⟨k3, k4⟩)).mono ?_
    iterate 3 simp [go_sem]
    rintro e w' ⟨rfl, m2, rfl⟩
    go_wp2_with fail
    refine (asc3_lit _ _ _ _ true _ ?_ ?_ ?_ (decide_eq_true ⟨k5, k6⟩)).mono ?_
    iterate 3 simp [go_sem]
    rintro e w' ⟨rfl, m3, rfl⟩
    go_wp2
    exact bodyPost_ret (v := .tuple #[.agg #[.int .i64 (s * 10000 - c - b), .int .i64 (s * 10000 - c + b), .int .i64 c], .int .i64 0]) (by simp [results, Try.results22, go_sem, *]) rfl ⟨rfl, by repeat (first | exact Below.refl _ _ | refine belowN ?_ | refine Below.setCell ?_ (by simp) _ | refine Below.alloc ?_ (by simp; omega) _ | refine Below.alloc ?_ (by simp) _)⟩

  · obtain ⟨e1, e2, e3, e4⟩ := he_no k
    rw [e1, e2, e3, e4]
    have k' := vldH_no.1 k
    clear e1 e2 e3 e4 k
    by_cases h1 : 0 ≤ s ∧ s ≤ 1000000000
    · by_cases h2 : 0 ≤ b ∧ b ≤ 2000
      · have h3 : ¬(-2000000000 ≤ c ∧ c ≤ 20000000000000) := by omega
        have H1 := Lib.hid h1
        have H2 := Lib.hid h2
        have H3 := Lib.hid h3
        clear h1 h2 h3 k'
        go_enter Try.func22, Try.ntmps22
        go_wp2_with fail
        refine (asc3_lit _ _ _ _ true _ ?_ ?_ ?_ (decide_eq_true H1.out)).mono ?_
        iterate 3 simp [go_sem]
        rintro e w' ⟨rfl, m1, rfl⟩
        go_wp2_with fail
        refine (asc3_lit _ _ _ _ true _ ?_ ?_ ?_ (decide_eq_true H2.out)).mono ?_
        iterate 3 simp [go_sem]
        rintro e w' ⟨rfl, m2, rfl⟩
        go_wp2_with fail
        refine (asc3_lit _ _ _ _ false _ ?_ ?_ ?_ (decide_eq_false H3.out)).mono ?_
        iterate 3 simp [go_sem]
        rintro e w' ⟨rfl, m3, rfl⟩
        go_wp2
        exact bodyPost_ret (v := .tuple #[.agg #[.int .i64 0, .int .i64 0, .int .i64 0], .int .i64 1]) (by simp [results, Try.results22, go_sem, *]) rfl ⟨rfl, by repeat (first | exact Below.refl _ _ | refine belowN ?_ | refine Below.setCell ?_ (by simp) _ | refine Below.alloc ?_ (by simp; omega) _ | refine Below.alloc ?_ (by simp) _)⟩

      · have H1 := Lib.hid h1
        have H2 := Lib.hid h2
        clear h1 h2 k'
        go_enter Try.func22, Try.ntmps22
        go_wp2_with fail
        refine (asc3_lit _ _ _ _ true _ ?_ ?_ ?_ (decide_eq_true H1.out)).mono ?_
        iterate 3 simp [go_sem]
        rintro e w' ⟨rfl, m1, rfl⟩
        go_wp2_with fail
        refine (asc3_lit _ _ _ _ false _ ?_ ?_ ?_ (decide_eq_false H2.out)).mono ?_
        iterate 3 simp [go_sem]
        rintro e w' ⟨rfl, m2, rfl⟩
        go_wp2
        exact bodyPost_ret (v := .tuple #[.agg #[.int .i64 0, .int .i64 0, .int .i64 0], .int .i64 1]) (by simp [results, Try.results22, go_sem, *]) rfl ⟨rfl, by repeat (first | exact Below.refl _ _ | refine belowN ?_ | refine Below.setCell ?_ (by simp) _ | refine Below.alloc ?_ (by simp; omega) _ | refine Below.alloc ?_ (by simp) _)⟩

    · have H1 := Lib.hid h1
      clear h1 k'
      go_enter Try.func22, Try.ntmps22
      go_wp2_with fail
      refine (asc3_lit _ _ _ _ false _ ?_ ?_ ?_ (decide_eq_false H1.out)).mono ?_
      iterate 3 simp [go_sem]
      rintro e w' ⟨rfl, m1, rfl⟩
      go_wp2
      exact bodyPost_ret (v := .tuple #[.agg #[.int .i64 0, .int .i64 0, .int .i64 0], .int .i64 1]) (by simp [results, Try.results22, go_sem, *]) rfl ⟨rfl, by repeat (first | exact Below.refl _ _ | refine belowN ?_ | refine Below.setCell ?_ (by simp) _ | refine Below.alloc ?_ (by simp; omega) _ | refine Below.alloc ?_ (by simp) _)⟩


theorem heard_lit (f p b s c L H A E : Int) (w : World) (k : heL s b c = L ∧ heH s b c = H ∧ heA s b c = A ∧ heE s b c = E) :
    Calls Try.prog 22 #[.agg #[.int .i64 f, .int .i64 p, .int .i64 b, .int .i64 s, .int .i64 c]] w
      fun e w' => e = .returned (.tuple #[.agg #[.int .i64 L, .int .i64 H, .int .i64 A], .int .i64 E]) ∧ Below w.heap.size w w' := by
  have := heard_any f p b s c w
  rwa [k.1, k.2.1, k.2.2.1, k.2.2.2] at this

end Go.Proofs.Ytfclodgfifbfbaa

/- When: what it returns. -/
import Derived.Test.YthnilgmafbkdkaaClock2
namespace Go.Proofs.Ythnilgmafbkdkaa
open Go.RowKit

theorem okW_lt0 {o d s : Int} (hv : vldB o d = true) (h : s < atI o d 0) : okW o d s = false := by
  cases hk : okW o d s
  · rfl
  · exfalso
    obtain ⟨h1, h2, h3, h4⟩ := vld_out hv
    obtain ⟨ha, hb⟩ := (okW_iff hv).1 hk
    have := at_mono (o := o) h3 (lst_bd o d s).1
    omega

theorem okW_gtM {o d s : Int} (hv : vldB o d = true) (h : atI o d 10000000000000 < s) : okW o d s = false := by
  cases hk : okW o d s
  · rfl
  · exfalso
    obtain ⟨h1, h2, h3, h4⟩ := vld_out hv
    obtain ⟨ha, hb⟩ := (okW_iff hv).1 hk
    have := at_mono (o := o) h3 ha
    omega

theorem okW_mid {o d s : Int} (hv : vldB o d = true) (h2 : s ≤ atI o d 10000000000000) : okW o d s = true ↔ lst o d s ≤ lst o d (s + 1) - 1 := by
  obtain ⟨g1, g2, g3, g4⟩ := vld_out hv
  have hb := lst_bd o d s
  have hm := (lst_le (o := o) (s := s) g3 (show (0 : Int) ≤ 10000000000000 by omega) (Int.le_refl _)).2 h2
  constructor
  · intro h; exact (whs h).2.1
  · intro h
    refine (okW_iff hv).2 ⟨hm, ?_⟩
    have e1 := (lst_le (o := o) (s := s) g3 hb.1 hm).1 (Int.le_refl _)
    have e2 : ¬ s + 1 ≤ atI o d (lst o d s) := fun hc => by have := (lst_le g3 hb.1 hm).2 hc; omega
    omega

set_option maxHeartbeats 800000 in
theorem when_arg (o d s : Int) (w : World) (hv : vldB o d = false) :
    Calls Try.prog 42 #[.agg #[.int .i64 o, .int .i64 d], .int .i64 s] w
      fun e w' => e = .returned (.tuple #[.agg #[.int .i64 0, .int .i64 0], .int .i64 1]) ∧ Below w.heap.size w w' := by
  go_enter Try.func42, Try.ntmps42
  go_wp2_with (go_at_call 22; refine (valid_any _ _ _).mono ?_; rintro e w1 ⟨rfl, hb⟩; have oA : Own w1 w.heap.size [.int .i64 o, .int .i64 d] 27 := ((own_at _ _ rfl).alloc _).below hb; have oB : Own w1 (w.heap.size + 1) [.int .i64 0, .int .i64 0] 62 := (own_at _ _ (by simp)).below hb; obtain ⟨cA0, cA1, fA, zA⟩ := own2 oA; obtain ⟨cB0, cB1, fB, zB⟩ := own2 oB)
  exact bodyPost_ret (v := .tuple #[.agg #[.int .i64 0, .int .i64 0], .int .i64 1]) (by simp [results, Try.results42, go_sem, *]) rfl
    ⟨rfl, ((belowTo ((belowNew _ _).alloc (by simp) _) hb (by simp; omega)).setCell (by simp) _).setCell (by simp) _⟩

set_option maxHeartbeats 1600000 in
theorem when_out (o d s : Int) (w : World) (hv : vldB o d = true) (h : s < atI o d 0 ∨ atI o d 10000000000000 < s) :
    Calls Try.prog 42 #[.agg #[.int .i64 o, .int .i64 d], .int .i64 s] w
      fun e w' => e = .returned (.tuple #[.agg #[.int .i64 0, .int .i64 0], .int .i64 4]) ∧ Below w.heap.size w w' := by
  obtain ⟨g1, g2, g3, g4⟩ := vld_out hv
  by_cases h0 : s < atI o d 0
  · clear h
    go_enter Try.func42, Try.ntmps42
    go_wp2_with (first | (go_at_call 22; refine (valid_any _ _ _).mono ?_; rintro e w1 ⟨rfl, hb⟩; have oA : Own w1 w.heap.size [.int .i64 o, .int .i64 d] 27 := ((own_at _ _ rfl).alloc _).below hb; have oB : Own w1 (w.heap.size + 1) [.int .i64 0, .int .i64 0] 62 := (own_at _ _ (by simp)).below hb; obtain ⟨cA0, cA1, fA, zA⟩ := own2 oA; obtain ⟨cB0, cB1, fB, zB⟩ := own2 oB) | (go_at_call 23; refine (at_any _ _ _ _ (by assumption) (by assumption) (by assumption) (by assumption) (by omega) (by omega)).mono ?_; rintro e w2 ⟨rfl, hb2⟩; clear cA0 cA1 fA zA cB0 cB1 fB zB; have oBw2 := oB.below hb2; obtain ⟨cB0, cB1, fB, zB⟩ := own2 oBw2))
    have b1 := belowTo ((belowNew w _).alloc (by simp) _) hb (by simp; omega)
    have b2 := belowTo b1 hb2 b1.size
    exact bodyPost_ret (v := .tuple #[.agg #[.int .i64 0, .int .i64 0], .int .i64 4]) (by simp [results, Try.results42, go_sem, *]) rfl
      ⟨rfl, (b2.setCell (by simp) _).setCell (by simp) _⟩
  · have h1 : atI o d 10000000000000 < s := by omega
    have h2 : atI o d 0 ≤ s := by omega
    clear h h0
    go_enter Try.func42, Try.ntmps42
    go_wp2_with (first | (go_at_call 22; refine (valid_any _ _ _).mono ?_; rintro e w1 ⟨rfl, hb⟩; have oA : Own w1 w.heap.size [.int .i64 o, .int .i64 d] 27 := ((own_at _ _ rfl).alloc _).below hb; have oB : Own w1 (w.heap.size + 1) [.int .i64 0, .int .i64 0] 62 := (own_at _ _ (by simp)).below hb; obtain ⟨cA0, cA1, fA, zA⟩ := own2 oA; obtain ⟨cB0, cB1, fB, zB⟩ := own2 oB) | (go_at_call_of 23 (Value.int IntKind.i64 0); refine (at_any _ _ _ _ (by assumption) (by assumption) (by assumption) (by assumption) (by omega) (by omega)).mono ?_; rintro e w2 ⟨rfl, hb2⟩; clear cA0 cA1 fA zA cB0 cB1 fB zB; have oBw2 := oB.below hb2; obtain ⟨cB0, cB1, fB, zB⟩ := own2 oBw2) | (go_at_call 23; refine (at_any _ _ _ _ (by assumption) (by assumption) (by assumption) (by assumption) (by omega) (by omega)).mono ?_; rintro e w3 ⟨rfl, hb3⟩; clear cB0 cB1 fB zB; have oBw3 := oBw2.below hb3; obtain ⟨cB0, cB1, fB, zB⟩ := own2 oBw3))
    have b1 := belowTo ((belowNew w _).alloc (by simp) _) hb (by simp; omega)
    have b2 := belowTo b1 hb2 b1.size
    have b3 := belowTo b2 hb3 b2.size
    exact bodyPost_ret (v := .tuple #[.agg #[.int .i64 0, .int .i64 0], .int .i64 4]) (by simp [results, Try.results42, go_sem, *]) rfl
      ⟨rfl, (b3.setCell (by simp) _).setCell (by simp) _⟩

set_option maxHeartbeats 3200000 in
theorem when_mid (o d s : Int) (w : World) (hv : vldB o d = true) (h1 : s ≤ atI o d 10000000000000) (h2 : atI o d 0 ≤ s) :
    Calls Try.prog 42 #[.agg #[.int .i64 o, .int .i64 d], .int .i64 s] w
      fun e w' => e = .returned (.tuple #[.agg #[.int .i64 (whL o d s), .int .i64 (whH o d s)], .int .i64 (whE o d s)]) ∧ Below w.heap.size w w' := by
  obtain ⟨g1, g2, g3, g4⟩ := vld_out hv
  have hbd := at_bd g1 g2 g3 g4 (show (-1 : Int) ≤ 10000000000000 by omega) (by omega)
  have hbd0 := at_bd g1 g2 g3 g4 (show (-1 : Int) ≤ 0 by omega) (by omega)
  have hl := lst_bd o d s
  have hl1 := lst_bd o d (s + 1)
  by_cases hk : lst o d s ≤ lst o d (s + 1) - 1
  · obtain ⟨e1, e2, e3⟩ := wh_yes ((okW_mid hv h1).2 hk)
    rw [e1, e2, e3]
    clear e1 e2 e3
    go_enter Try.func42, Try.ntmps42
    go_wp2_with (first | (go_at_call 22; refine (valid_any _ _ _).mono ?_; rintro e w1 ⟨rfl, hb⟩; have oA : Own w1 w.heap.size [.int .i64 o, .int .i64 d] 27 := ((own_at _ _ rfl).alloc _).below hb; have oB : Own w1 (w.heap.size + 1) [.int .i64 0, .int .i64 0] 62 := (own_at _ _ (by simp)).below hb; obtain ⟨cA0, cA1, fA, zA⟩ := own2 oA; obtain ⟨cB0, cB1, fB, zB⟩ := own2 oB) | (go_at_call_of 23 (Value.int IntKind.i64 0); refine (at_any _ _ _ _ (by assumption) (by assumption) (by assumption) (by assumption) (by omega) (by omega)).mono ?_; rintro e w2 ⟨rfl, hb2⟩; clear cA0 cA1 fA zA cB0 cB1 fB zB; have oBw2 := oB.below hb2; obtain ⟨cB0, cB1, fB, zB⟩ := own2 oBw2) | (go_at_call 23; refine (at_any _ _ _ _ (by assumption) (by assumption) (by assumption) (by assumption) (by omega) (by omega)).mono ?_; rintro e w3 ⟨rfl, hb3⟩; clear cB0 cB1 fB zB; have oBw3 := oBw2.below hb3; obtain ⟨cB0, cB1, fB, zB⟩ := own2 oBw3) | (go_at_call_of 43 (Value.int IntKind.i64 s); refine (first_any _ _ _ _ (by assumption) (by assumption) (by assumption) (by assumption)).mono ?_; rintro e w4 ⟨rfl, hb4⟩; clear cB0 cB1 fB zB; have oBw4 := oBw3.below hb4; obtain ⟨cB0, cB1, fB, zB⟩ := own2 oBw4) | (go_at_call 43; refine (first_any _ _ _ _ (by assumption) (by assumption) (by assumption) (by assumption)).mono ?_; rintro e w5 ⟨rfl, hb5⟩; clear cB0 cB1 fB zB; have oBw5 := oBw4.below hb5; obtain ⟨cB0, cB1, fB, zB⟩ := own2 oBw5))
    have b1 := belowTo ((belowNew w _).alloc (by simp) _) hb (by simp; omega)
    have b2 := belowTo b1 hb2 b1.size
    have b3 := belowTo b2 hb3 b2.size
    have b4 := belowTo b3 hb4 b3.size
    have b5 := belowTo b4 hb5 b4.size
    exact bodyPost_ret (v := .tuple #[.agg #[.int .i64 (lst o d s), .int .i64 (lst o d (s + 1) - 1)], .int .i64 0]) (by simp [results, Try.results42, go_sem, *]) rfl
      ⟨rfl, ((b5.setCell (by simp) _).setCell (by simp) _).alloc (by have := b5.size; simp; omega) _⟩
  · have hk' : ¬ okW o d s = true := fun hc => hk ((okW_mid hv h1).1 hc)
    obtain ⟨e1, e2, e3⟩ := wh_none hv (by simpa using hk')
    rw [e1, e2, e3]
    clear e1 e2 e3 hk'
    go_enter Try.func42, Try.ntmps42
    go_wp2_with (first | (go_at_call 22; refine (valid_any _ _ _).mono ?_; rintro e w1 ⟨rfl, hb⟩; have oA : Own w1 w.heap.size [.int .i64 o, .int .i64 d] 27 := ((own_at _ _ rfl).alloc _).below hb; have oB : Own w1 (w.heap.size + 1) [.int .i64 0, .int .i64 0] 62 := (own_at _ _ (by simp)).below hb; obtain ⟨cA0, cA1, fA, zA⟩ := own2 oA; obtain ⟨cB0, cB1, fB, zB⟩ := own2 oB) | (go_at_call_of 23 (Value.int IntKind.i64 0); refine (at_any _ _ _ _ (by assumption) (by assumption) (by assumption) (by assumption) (by omega) (by omega)).mono ?_; rintro e w2 ⟨rfl, hb2⟩; clear cA0 cA1 fA zA cB0 cB1 fB zB; have oBw2 := oB.below hb2; obtain ⟨cB0, cB1, fB, zB⟩ := own2 oBw2) | (go_at_call 23; refine (at_any _ _ _ _ (by assumption) (by assumption) (by assumption) (by assumption) (by omega) (by omega)).mono ?_; rintro e w3 ⟨rfl, hb3⟩; clear cB0 cB1 fB zB; have oBw3 := oBw2.below hb3; obtain ⟨cB0, cB1, fB, zB⟩ := own2 oBw3) | (go_at_call_of 43 (Value.int IntKind.i64 s); refine (first_any _ _ _ _ (by assumption) (by assumption) (by assumption) (by assumption)).mono ?_; rintro e w4 ⟨rfl, hb4⟩; clear cB0 cB1 fB zB; have oBw4 := oBw3.below hb4; obtain ⟨cB0, cB1, fB, zB⟩ := own2 oBw4) | (go_at_call 43; refine (first_any _ _ _ _ (by assumption) (by assumption) (by assumption) (by assumption)).mono ?_; rintro e w5 ⟨rfl, hb5⟩; clear cB0 cB1 fB zB; have oBw5 := oBw4.below hb5; obtain ⟨cB0, cB1, fB, zB⟩ := own2 oBw5))
    have b1 := belowTo ((belowNew w _).alloc (by simp) _) hb (by simp; omega)
    have b2 := belowTo b1 hb2 b1.size
    have b3 := belowTo b2 hb3 b2.size
    have b4 := belowTo b3 hb4 b3.size
    have b5 := belowTo b4 hb5 b4.size
    exact bodyPost_ret (v := .tuple #[.agg #[.int .i64 0, .int .i64 0], .int .i64 4]) (by simp [results, Try.results42, go_sem, *]) rfl
      ⟨rfl, ((b5.setCell (by simp) _).setCell (by simp) _).alloc (by have := b5.size; simp; omega) _⟩

theorem when_any (o d s : Int) (w : World) :
    Calls Try.prog 42 #[.agg #[.int .i64 o, .int .i64 d], .int .i64 s] w
      fun e w' => e = .returned (.tuple #[.agg #[.int .i64 (whL o d s), .int .i64 (whH o d s)], .int .i64 (whE o d s)]) ∧ Below w.heap.size w w' := by
  cases hv : vldB o d with
  | false =>
    obtain ⟨e1, e2, e3⟩ := wh_arg (s := s) hv
    rw [e1, e2, e3]
    exact when_arg o d s w hv
  | true =>
    by_cases h1 : atI o d 10000000000000 < s
    · obtain ⟨e1, e2, e3⟩ := wh_none hv (okW_gtM hv h1)
      rw [e1, e2, e3]
      exact when_out o d s w hv (.inr h1)
    · by_cases h2 : s < atI o d 0
      · obtain ⟨e1, e2, e3⟩ := wh_none hv (okW_lt0 hv h2)
        rw [e1, e2, e3]
        exact when_out o d s w hv (.inl h2)
      · exact when_mid o d s w hv (by omega) (by omega)

end Go.Proofs.Ythnilgmafbkdkaa

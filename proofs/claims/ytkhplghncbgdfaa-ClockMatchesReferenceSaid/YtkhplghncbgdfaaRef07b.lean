/- The contracts of the reference's Show, before and When. -/
import Derived.Test.YtkhplghncbgdfaaRef07
namespace Go.Proofs.Ytkhplghncbgdfaa
open Go.RowKit

set_option maxHeartbeats 1000000 in
theorem rshow_any (o d t : Int) (w : World) :
    Calls Try.prog 12 #[.agg #[.int .i64 o, .int .i64 d], .int .i64 t] w fun e w' => e = .returned (.tuple #[.int .i64 (shN o d t), .int .i64 (shE o d t)]) ∧ Below w.heap.size w w' := by
  have arm : ∀ b : Bool, vldB o d = b → ∀ w, Calls Try.prog 16 #[.agg #[.int .i64 o, .int .i64 d]] w fun e w' => e = .returned (.bool b) ∧ Below w.heap.size w w' := by
    intro b hb w
    have := rvalid_any o d w
    rwa [hb] at this
  by_cases hk : okS o d t = true
  · obtain ⟨⟨g1, g2, g3, g4⟩, g5, g6⟩ := okS_iff.1 hk
    obtain ⟨e1, e2⟩ := sh_yes hk
    rw [e1, e2]
    have hv := Lib.hid (arm true (okS_vld hk))
    clear e1 e2 hk arm
    go_enter Try.func12, Try.ntmps12
    go_wp2_with fail
    refine (hv.out _).mono ?_
    rintro e w1 ⟨rfl, hb⟩
    have oA : Own w1 w.heap.size [.int .i64 o, .int .i64 d] 23 := (own_at _ _ rfl).below hb
    have bel := belowTo (belowNew w _) hb (by simp)
    clear hb
    obtain ⟨cA0, cA1, fA, zA⟩ := own2 oA
    go_wp2_with fail
    refine (rat_any _ _ _ _ g1 g2 g3 g4 (by omega) (by omega)).mono ?_
    rintro e w2 ⟨rfl, hb⟩
    replace bel := belowTo bel hb bel.size
    go_wp2
    go_ret2
    exact ⟨rfl, bel⟩
  · have hk' : okS o d t = false := by simpa using hk
    obtain ⟨e1, e2⟩ := sh_no hk'
    rw [e1, e2]
    have hc : vldB o d = false ∨ (vldB o d = true ∧ t < 0) ∨ (vldB o d = true ∧ 0 ≤ t ∧ 10000000000000 < t) := by
      rcases Bool.eq_false_or_eq_true (vldB o d) with h | h
      · right
        by_cases h1 : t < 0
        · exact .inl ⟨h, h1⟩
        · refine .inr ⟨h, by omega, ?_⟩
          rcases Int.lt_or_le 10000000000000 t with h2 | h2
          · exact h2
          · exact absurd (okS_mk h (by omega) h2) hk
      · exact .inl h
    clear e1 e2 hk hk'
    rcases hc with h | ⟨h, h1⟩ | ⟨h, h0, h1⟩
    · have hv := Lib.hid (arm false h)
      clear arm h
      go_enter Try.func12, Try.ntmps12
      go_wp2_with fail
      refine (hv.out _).mono ?_
      rintro e w1 ⟨rfl, hb⟩
      go_wp2
      go_ret2
      exact ⟨rfl, belowTo (belowNew w _) hb (by simp)⟩
    · have hv := Lib.hid (arm true h)
      clear arm h
      go_enter Try.func12, Try.ntmps12
      go_wp2_with fail
      refine (hv.out _).mono ?_
      rintro e w1 ⟨rfl, hb⟩
      go_wp2
      go_ret2
      exact ⟨rfl, belowTo (belowNew w _) hb (by simp)⟩
    · have hv := Lib.hid (arm true h)
      clear arm h
      go_enter Try.func12, Try.ntmps12
      go_wp2_with fail
      refine (hv.out _).mono ?_
      rintro e w1 ⟨rfl, hb⟩
      go_wp2
      go_ret2
      exact ⟨rfl, belowTo (belowNew w _) hb (by simp)⟩

def Step2 (s : Int) : Prop := ∃ k : Nat, k ≤ 44 ∧ s = 2 ^ k
theorem step2_start : Step2 17592186044416 := ⟨44, Nat.le_refl _, by decide⟩
theorem step2_bd {s : Int} (h : Step2 s) : 1 ≤ s ∧ s ≤ 17592186044416 := by
  obtain ⟨k, hk, rfl⟩ := h
  have h1 : (2 : Nat) ^ k ≤ 2 ^ 44 := Nat.pow_le_pow_right (by decide) hk
  have h2 : 1 ≤ (2 : Nat) ^ k := Nat.one_le_two_pow
  have e : ((2 : Int) ^ k) = ((2 ^ k : Nat) : Int) := by push_cast; rfl
  rw [e]
  have h3 : (2 : Nat) ^ 44 = 17592186044416 := by decide
  omega
theorem step2_half {s : Int} (h : Step2 s) : (s = 1 ∧ s / 2 = 0) ∨ (s = 2 * (s / 2) ∧ Step2 (s / 2)) := by
  obtain ⟨k, hk, rfl⟩ := h
  cases k with
  | zero => left; decide
  | succ k =>
    right
    have e : (2 : Int) ^ (k + 1) / 2 = 2 ^ k := by rw [Int.pow_succ]; omega
    rw [e]
    exact ⟨by rw [Int.pow_succ]; omega, k, by omega, rfl⟩

theorem step2_rel {a b L : Int} (hh : (b = 1 ∧ b / 2 = 0) ∨ (b = 2 * (b / 2) ∧ Step2 (b / 2))) (h1 : a ≤ L) (h2 : L < a + b) : (b / 2 = 0 ∧ L = a) ∨ (Step2 (b / 2) ∧ L < a + 2 * (b / 2)) := by
  rcases hh with ⟨h, h'⟩ | ⟨h, h'⟩
  · exact .inl ⟨h', by omega⟩
  · exact .inr ⟨h', by omega⟩

set_option maxHeartbeats 1600000 in
theorem before_any (o d s : Int) (w : World) (h1 : -1000000000 ≤ o) (h2 : o ≤ 1000000000) (h3 : -50 ≤ d) (h4 : d ≤ 50) :
    Calls Try.prog 23 #[.agg #[.int .i64 o, .int .i64 d], .int .i64 s] w
      fun e w' => e = .returned (.int .i64 (lst o d s)) ∧ Below w.heap.size w w' := by
  have hl := lst_bd o d s
  have o0 : Own (w.alloc (.cells #[.int .i64 o, .int .i64 d] 23)) w.heap.size [.int .i64 o, .int .i64 d] 23 := own_at _ _ rfl
  go_enter Try.func23, Try.ntmps23
  go_wp2
  go_loopw [5, 6] (fun n st wr => ∃ a b : Int, n = .int .i64 a ∧ st = .int .i64 b ∧ 0 ≤ a ∧ a ≤ lst o d s ∧ ((b = 0 ∧ lst o d s = a) ∨ (Step2 b ∧ lst o d s < a + 2 * b)) ∧
      Own wr w.heap.size [.int .i64 o, .int .i64 d] 23 ∧ Below w.heap.size w wr) (fun _ st _ => (intOf st).toNat)
  case atStart => exact ⟨0, 17592186044416, rfl, rfl, by omega, hl.1, .inr ⟨step2_start, by omega⟩, o0, belowNew w _⟩
  case round =>
    obtain ⟨a, b, rfl, rfl, ha, hal, hcase, oA, hbel⟩ := hrel
    obtain ⟨cA0, cA1, fA, zA⟩ := own2 oA
    rcases hcase with ⟨rfl, hla⟩ | ⟨hst, hlt⟩
    · have hla' := Lib.hid hla
      clear hla
      go_wp2
      go_ret
      exact ⟨by rw [hla'.out]; rfl, hbel⟩
    · obtain ⟨q1, q2⟩ := step2_bd hst
      have hh := Lib.hid (step2_half hst)
      by_cases hc : a + b ≤ 10000000000001
      · go_wp2_with (go_at_call 21; refine (rat_any _ _ _ _ (by assumption) (by assumption) (by assumption) (by assumption) (by omega) (by omega)).mono ?_; rintro e w' ⟨rfl, hb2⟩)
        · have ht : atI o d (a + b - 1) < s := by assumption
          have hk : ¬ lst o d s ≤ a + b - 1 := fun hq => by have := (lst_le h3 (by omega) (by omega)).1 hq; omega
          have hh' := hh.out
          go_roundw
          case rel => exact ⟨a + b, b / 2, rfl, rfl, by omega, by omega, step2_rel hh' (by omega) (by omega), oA.below hb2, belowTo hbel hb2 hbel.size⟩
          case measure => simp [intOf]; omega
        · have ht : s ≤ atI o d (a + b - 1) := by assumption
          have hk := (lst_le h3 (by omega) (by omega)).2 ht
          have hh' := hh.out
          go_roundw
          case rel => exact ⟨a, b / 2, rfl, rfl, by omega, by omega, step2_rel hh' (by omega) (by omega), oA.below hb2, belowTo hbel hb2 hbel.size⟩
          case measure => simp [intOf]; omega
      · go_wp2
        have hh' := hh.out
        go_roundw
        case rel => exact ⟨a, b / 2, rfl, rfl, by omega, by omega, step2_rel hh' (by omega) (by omega), oA, hbel⟩
        case measure => simp [intOf]; omega

theorem rvalid_lit (o d : Int) (b : Bool) (w : World) (h : vldB o d = b) :
    Calls Try.prog 16 #[.agg #[.int .i64 o, .int .i64 d]] w fun e w' => e = .returned (.bool b) ∧ Below w.heap.size w w' := by
  have := rvalid_any o d w
  rwa [h] at this
theorem before_lit (o d s K : Int) (w : World) (hv : Hid (vldB o d = true)) (h : lst o d s = K) :
    Calls Try.prog 23 #[.agg #[.int .i64 o, .int .i64 d], .int .i64 s] w fun e w' => e = .returned (.int .i64 K) ∧ Below w.heap.size w w' := by
  obtain ⟨g1, g2, g3, g4⟩ := vld_out hv.out
  have := before_any o d s w g1 g2 g3 g4
  rwa [h] at this
theorem rat_lit (o d t V : Int) (w : World) (hv : Hid (vldB o d = true)) (h5 : -1 ≤ t) (h6 : t ≤ 19000000000000) (h : atI o d t = V) :
    Calls Try.prog 21 #[.agg #[.int .i64 o, .int .i64 d], .int .i64 t] w fun e w' => e = .returned (.int .i64 V) ∧ Below w.heap.size w w' := by
  obtain ⟨g1, g2, g3, g4⟩ := vld_out hv.out
  have := rat_any o d t w g1 g2 g3 g4 h5 h6
  rwa [h] at this

set_option maxHeartbeats 1600000 in
theorem rwhen_arg (o d s : Int) (w : World) (hv : vldB o d = false) :
    Calls Try.prog 14 #[.agg #[.int .i64 o, .int .i64 d], .int .i64 s] w fun e w' => e = .returned (.tuple #[.agg #[.int .i64 0, .int .i64 0], .int .i64 1]) ∧ Below w.heap.size w w' := by
  go_enter Try.func14, Try.ntmps14
  go_wp2_with fail
  refine (rvalid_lit o d false _ hv).mono ?_
  rintro e w1 ⟨rfl, hb⟩
  have oC : Own w1 w.heap.size [.int .i64 o, .int .i64 d] 23 := ((own_at _ _ rfl).alloc _).below hb
  have oR : Own w1 (w.heap.size + 1) [.int .i64 0, .int .i64 0] 29 := (own_at _ _ (by simp)).below hb
  have bel := belowTo (((Below.refl w.heap.size w).alloc (by simp) _).alloc (by simp) _) hb (by simp; omega)
  clear hb 
  obtain ⟨cC0, cC1, fC, zC⟩ := own2 oC
  obtain ⟨cR0, cR1, fR, zR⟩ := own2 oR
  go_wp2
  exact bodyPost_ret (v := .tuple #[.agg #[.int .i64 0, .int .i64 0], .int .i64 1]) (by simp [results, Try.results14, go_sem, *]) rfl ⟨rfl, (bel.setCell (by simp) _).setCell (by simp) _⟩

set_option maxHeartbeats 1600000 in
theorem rwhen_far (o d s K : Int) (w : World) (hg : Hid (vldB o d = true)) (hv : vldB o d = true) (hK : lst o d s = K) (_k0 : 0 ≤ K) (k1 : 10000000000000 < K) :
    Calls Try.prog 14 #[.agg #[.int .i64 o, .int .i64 d], .int .i64 s] w fun e w' => e = .returned (.tuple #[.agg #[.int .i64 0, .int .i64 0], .int .i64 4]) ∧ Below w.heap.size w w' := by
  go_enter Try.func14, Try.ntmps14
  go_wp2_with fail
  refine (rvalid_lit o d true _ hv).mono ?_
  rintro e w1 ⟨rfl, hb⟩
  have oC : Own w1 w.heap.size [.int .i64 o, .int .i64 d] 23 := ((own_at _ _ rfl).alloc _).below hb
  have oR : Own w1 (w.heap.size + 1) [.int .i64 0, .int .i64 0] 29 := (own_at _ _ (by simp)).below hb
  have bel := belowTo (((Below.refl w.heap.size w).alloc (by simp) _).alloc (by simp) _) hb (by simp; omega)
  clear hb 
  obtain ⟨cC0, cC1, fC, zC⟩ := own2 oC
  obtain ⟨cR0, cR1, fR, zR⟩ := own2 oR
  go_wp2_with fail
  refine (before_lit o d s K _ hg hK).mono ?_
  rintro e w2 ⟨rfl, hb⟩
  replace oC := oC.below hb
  replace oR := oR.below hb
  replace bel := belowTo bel hb (by exact bel.size)
  clear hb cC0 cC1 fC zC cR0 cR1 fR zR
  obtain ⟨cC0, cC1, fC, zC⟩ := own2 oC
  obtain ⟨cR0, cR1, fR, zR⟩ := own2 oR
  go_wp2
  exact bodyPost_ret (v := .tuple #[.agg #[.int .i64 0, .int .i64 0], .int .i64 4]) (by simp [results, Try.results14, go_sem, *]) rfl ⟨rfl, (bel.setCell (by simp) _).setCell (by simp) _⟩

set_option maxHeartbeats 1600000 in
theorem rwhen_none (o d s K V : Int) (w : World) (hg : Hid (vldB o d = true)) (hv : vldB o d = true) (hK : lst o d s = K) (_k0 : 0 ≤ K) (k1 : K ≤ 10000000000000) (hV : atI o d K = V) (n1 : (V != s) = true) :
    Calls Try.prog 14 #[.agg #[.int .i64 o, .int .i64 d], .int .i64 s] w fun e w' => e = .returned (.tuple #[.agg #[.int .i64 0, .int .i64 0], .int .i64 4]) ∧ Below w.heap.size w w' := by
  go_enter Try.func14, Try.ntmps14
  go_wp2_with fail
  refine (rvalid_lit o d true _ hv).mono ?_
  rintro e w1 ⟨rfl, hb⟩
  have oC : Own w1 w.heap.size [.int .i64 o, .int .i64 d] 23 := ((own_at _ _ rfl).alloc _).below hb
  have oR : Own w1 (w.heap.size + 1) [.int .i64 0, .int .i64 0] 29 := (own_at _ _ (by simp)).below hb
  have bel := belowTo (((Below.refl w.heap.size w).alloc (by simp) _).alloc (by simp) _) hb (by simp; omega)
  clear hb 
  obtain ⟨cC0, cC1, fC, zC⟩ := own2 oC
  obtain ⟨cR0, cR1, fR, zR⟩ := own2 oR
  go_wp2_with fail
  refine (before_lit o d s K _ hg hK).mono ?_
  rintro e w2 ⟨rfl, hb⟩
  replace oC := oC.below hb
  replace oR := oR.below hb
  replace bel := belowTo bel hb (by exact bel.size)
  clear hb cC0 cC1 fC zC cR0 cR1 fR zR
  obtain ⟨cC0, cC1, fC, zC⟩ := own2 oC
  obtain ⟨cR0, cR1, fR, zR⟩ := own2 oR
  go_wp2_with fail
  refine (rat_lit o d K V _ hg (by omega) (by omega) hV).mono ?_
  rintro e w3 ⟨rfl, hb⟩
  replace oC := oC.below hb
  replace oR := oR.below hb
  replace bel := belowTo bel hb (by exact bel.size)
  clear hb cC0 cC1 fC zC cR0 cR1 fR zR
  obtain ⟨cC0, cC1, fC, zC⟩ := own2 oC
  obtain ⟨cR0, cR1, fR, zR⟩ := own2 oR
  go_wp2
  exact bodyPost_ret (v := .tuple #[.agg #[.int .i64 0, .int .i64 0], .int .i64 4]) (by simp [results, Try.results14, go_sem, *]) rfl ⟨rfl, (bel.setCell (by simp) _).setCell (by simp) _⟩

set_option maxHeartbeats 1600000 in
theorem rwhen_last (o d s K : Int) (w : World) (hg : Hid (vldB o d = true)) (hv : vldB o d = true) (hK : lst o d s = K) (_k0 : 0 ≤ K) (k1 : K ≤ 10000000000000) (k2 : 10000000000000 ≤ K) (hV : atI o d K = s) :
    Calls Try.prog 14 #[.agg #[.int .i64 o, .int .i64 d], .int .i64 s] w fun e w' => e = .returned (.tuple #[.agg #[.int .i64 K, .int .i64 K], .int .i64 0]) ∧ Below w.heap.size w w' := by
  go_enter Try.func14, Try.ntmps14
  go_wp2_with fail
  refine (rvalid_lit o d true _ hv).mono ?_
  rintro e w1 ⟨rfl, hb⟩
  have oC : Own w1 w.heap.size [.int .i64 o, .int .i64 d] 23 := ((own_at _ _ rfl).alloc _).below hb
  have oR : Own w1 (w.heap.size + 1) [.int .i64 0, .int .i64 0] 29 := (own_at _ _ (by simp)).below hb
  have bel := belowTo (((Below.refl w.heap.size w).alloc (by simp) _).alloc (by simp) _) hb (by simp; omega)
  clear hb 
  obtain ⟨cC0, cC1, fC, zC⟩ := own2 oC
  obtain ⟨cR0, cR1, fR, zR⟩ := own2 oR
  go_wp2_with fail
  refine (before_lit o d s K _ hg hK).mono ?_
  rintro e w2 ⟨rfl, hb⟩
  replace oC := oC.below hb
  replace oR := oR.below hb
  replace bel := belowTo bel hb (by exact bel.size)
  clear hb cC0 cC1 fC zC cR0 cR1 fR zR
  obtain ⟨cC0, cC1, fC, zC⟩ := own2 oC
  obtain ⟨cR0, cR1, fR, zR⟩ := own2 oR
  go_wp2_with fail
  refine (rat_lit o d K s _ hg (by omega) (by omega) hV).mono ?_
  rintro e w3 ⟨rfl, hb⟩
  replace oC := oC.below hb
  replace oR := oR.below hb
  replace bel := belowTo bel hb (by exact bel.size)
  clear hb cC0 cC1 fC zC cR0 cR1 fR zR
  obtain ⟨cC0, cC1, fC, zC⟩ := own2 oC
  obtain ⟨cR0, cR1, fR, zR⟩ := own2 oR
  go_wp2
  exact bodyPost_ret (v := .tuple #[.agg #[.int .i64 K, .int .i64 K], .int .i64 0]) (by simp [results, Try.results14, go_sem, *]) rfl ⟨rfl, (bel.setCell (by simp) _).setCell (by simp) _⟩

set_option maxHeartbeats 1600000 in
theorem rwhen_two (o d s K : Int) (w : World) (hg : Hid (vldB o d = true)) (hv : vldB o d = true) (hK : lst o d s = K) (_k0 : 0 ≤ K) (k1 : K < 10000000000000) (hV : atI o d K = s) (hU : atI o d (K + 1) = s) :
    Calls Try.prog 14 #[.agg #[.int .i64 o, .int .i64 d], .int .i64 s] w fun e w' => e = .returned (.tuple #[.agg #[.int .i64 K, .int .i64 (K + 1)], .int .i64 0]) ∧ Below w.heap.size w w' := by
  go_enter Try.func14, Try.ntmps14
  go_wp2_with fail
  refine (rvalid_lit o d true _ hv).mono ?_
  rintro e w1 ⟨rfl, hb⟩
  have oC : Own w1 w.heap.size [.int .i64 o, .int .i64 d] 23 := ((own_at _ _ rfl).alloc _).below hb
  have oR : Own w1 (w.heap.size + 1) [.int .i64 0, .int .i64 0] 29 := (own_at _ _ (by simp)).below hb
  have bel := belowTo (((Below.refl w.heap.size w).alloc (by simp) _).alloc (by simp) _) hb (by simp; omega)
  clear hb 
  obtain ⟨cC0, cC1, fC, zC⟩ := own2 oC
  obtain ⟨cR0, cR1, fR, zR⟩ := own2 oR
  go_wp2_with fail
  refine (before_lit o d s K _ hg hK).mono ?_
  rintro e w2 ⟨rfl, hb⟩
  replace oC := oC.below hb
  replace oR := oR.below hb
  replace bel := belowTo bel hb (by exact bel.size)
  clear hb cC0 cC1 fC zC cR0 cR1 fR zR
  obtain ⟨cC0, cC1, fC, zC⟩ := own2 oC
  obtain ⟨cR0, cR1, fR, zR⟩ := own2 oR
  go_wp2_with fail
  refine (rat_lit o d K s _ hg (by omega) (by omega) hV).mono ?_
  rintro e w3 ⟨rfl, hb⟩
  replace oC := oC.below hb
  replace oR := oR.below hb
  replace bel := belowTo bel hb (by exact bel.size)
  clear hb cC0 cC1 fC zC cR0 cR1 fR zR
  obtain ⟨cC0, cC1, fC, zC⟩ := own2 oC
  obtain ⟨cR0, cR1, fR, zR⟩ := own2 oR
  go_wp2_with fail
  refine (rat_lit o d (K + 1) s _ hg (by omega) (by omega) hU).mono ?_
  rintro e w4 ⟨rfl, hb⟩
  replace oC := oC.below hb
  replace oR := oR.below hb
  replace bel := belowTo bel hb (by exact bel.size)
  clear hb cC0 cC1 fC zC cR0 cR1 fR zR
  obtain ⟨cC0, cC1, fC, zC⟩ := own2 oC
  obtain ⟨cR0, cR1, fR, zR⟩ := own2 oR
  go_wp2
  exact bodyPost_ret (v := .tuple #[.agg #[.int .i64 K, .int .i64 (K + 1)], .int .i64 0]) (by simp [results, Try.results14, go_sem, *]) rfl ⟨rfl, (bel.setCell (by simp) _).setCell (by simp) _⟩

set_option maxHeartbeats 1600000 in
theorem rwhen_one (o d s K U : Int) (w : World) (hg : Hid (vldB o d = true)) (hv : vldB o d = true) (hK : lst o d s = K) (_k0 : 0 ≤ K) (k1 : K < 10000000000000) (hV : atI o d K = s) (hU : atI o d (K + 1) = U) (n1 : (U == s) = false) :
    Calls Try.prog 14 #[.agg #[.int .i64 o, .int .i64 d], .int .i64 s] w fun e w' => e = .returned (.tuple #[.agg #[.int .i64 K, .int .i64 K], .int .i64 0]) ∧ Below w.heap.size w w' := by
  go_enter Try.func14, Try.ntmps14
  go_wp2_with fail
  refine (rvalid_lit o d true _ hv).mono ?_
  rintro e w1 ⟨rfl, hb⟩
  have oC : Own w1 w.heap.size [.int .i64 o, .int .i64 d] 23 := ((own_at _ _ rfl).alloc _).below hb
  have oR : Own w1 (w.heap.size + 1) [.int .i64 0, .int .i64 0] 29 := (own_at _ _ (by simp)).below hb
  have bel := belowTo (((Below.refl w.heap.size w).alloc (by simp) _).alloc (by simp) _) hb (by simp; omega)
  clear hb 
  obtain ⟨cC0, cC1, fC, zC⟩ := own2 oC
  obtain ⟨cR0, cR1, fR, zR⟩ := own2 oR
  go_wp2_with fail
  refine (before_lit o d s K _ hg hK).mono ?_
  rintro e w2 ⟨rfl, hb⟩
  replace oC := oC.below hb
  replace oR := oR.below hb
  replace bel := belowTo bel hb (by exact bel.size)
  clear hb cC0 cC1 fC zC cR0 cR1 fR zR
  obtain ⟨cC0, cC1, fC, zC⟩ := own2 oC
  obtain ⟨cR0, cR1, fR, zR⟩ := own2 oR
  go_wp2_with fail
  refine (rat_lit o d K s _ hg (by omega) (by omega) hV).mono ?_
  rintro e w3 ⟨rfl, hb⟩
  replace oC := oC.below hb
  replace oR := oR.below hb
  replace bel := belowTo bel hb (by exact bel.size)
  clear hb cC0 cC1 fC zC cR0 cR1 fR zR
  obtain ⟨cC0, cC1, fC, zC⟩ := own2 oC
  obtain ⟨cR0, cR1, fR, zR⟩ := own2 oR
  go_wp2_with fail
  refine (rat_lit o d (K + 1) U _ hg (by omega) (by omega) hU).mono ?_
  rintro e w4 ⟨rfl, hb⟩
  replace oC := oC.below hb
  replace oR := oR.below hb
  replace bel := belowTo bel hb (by exact bel.size)
  clear hb cC0 cC1 fC zC cR0 cR1 fR zR
  obtain ⟨cC0, cC1, fC, zC⟩ := own2 oC
  obtain ⟨cR0, cR1, fR, zR⟩ := own2 oR
  go_wp2
  exact bodyPost_ret (v := .tuple #[.agg #[.int .i64 K, .int .i64 K], .int .i64 0]) (by simp [results, Try.results14, go_sem, *]) rfl ⟨rfl, (bel.setCell (by simp) _).setCell (by simp) _⟩

theorem rwhen_any (o d s : Int) (w : World) :
    Calls Try.prog 14 #[.agg #[.int .i64 o, .int .i64 d], .int .i64 s] w
      fun e w' => e = .returned (.tuple #[.agg #[.int .i64 (whL o d s), .int .i64 (whH o d s)], .int .i64 (whE o d s)]) ∧ Below w.heap.size w w' := by
  cases hv : vldB o d with
  | false =>
    obtain ⟨e1, e2, e3⟩ := wh_arg (s := s) hv
    rw [e1, e2, e3]
    exact rwhen_arg o d s w hv
  | true =>
    have hb := lst_bd o d s
    obtain ⟨g1, g2, g3, g4⟩ := vld_out hv
    cases hk : okW o d s with
    | false =>
      obtain ⟨e1, e2, e3⟩ := wh_none hv hk
      rw [e1, e2, e3]
      by_cases h1 : 10000000000000 < lst o d s
      · exact rwhen_far o d s _ w hv hv rfl hb.1 h1
      · refine rwhen_none o d s _ _ w hv hv rfl hb.1 (by omega) rfl ?_
        have := whs_none hv hk hb.1 (by omega : lst o d s ≤ 10000000000000)
        simpa using this
    | true =>
      obtain ⟨e1, e2, e3⟩ := wh_yes hk
      rw [e1, e2, e3]
      obtain ⟨p1, p2, p3, p4, p5⟩ := whs hk
      obtain ⟨ha, hb2⟩ := (okW_iff hv).1 hk
      by_cases h1 : lst o d s = 10000000000000
      · rw [show lst o d (s + 1) - 1 = lst o d s from by omega]
        exact rwhen_last o d s _ w hv hv rfl p1 (by omega) (by omega) hb2
      · by_cases h2 : lst o d (s + 1) - 1 = lst o d s + 1
        · rw [h2]
          exact rwhen_two o d s _ w hv hv rfl p1 (by omega) hb2 ((p5 _ (by omega) (by omega)).2 ⟨by omega, by omega⟩)
        · rw [show lst o d (s + 1) - 1 = lst o d s from by omega]
          refine rwhen_one o d s _ _ w hv hv rfl p1 (by omega) hb2 rfl ?_
          have : ¬ atI o d (lst o d s + 1) = s := fun hc => by have := (p5 _ (by omega) (by omega)).1 hc; omega
          simpa using this

end Go.Proofs.Ytkhplghncbgdfaa

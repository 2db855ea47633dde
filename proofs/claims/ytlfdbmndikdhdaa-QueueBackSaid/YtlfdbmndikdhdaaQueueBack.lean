/- QueueBack: the walk of the law. It returns true for every input, and leaves old memory alone. -/
import Derived.Test.YtlfdbmndikdhdaaHead27
import Derived.Test.YtlfdbmndikdhdaaOpen27
import Derived.Test.YtlfdbmndikdhdaaPlaces27
import Derived.Test.YtlfdbmndikdhdaaPlain27b
import Derived.WalkKit
namespace Go.Proofs.Ytlfdbmndikdhdaa
open Go.RowKit

set_option linter.unusedVariables false in
set_option maxRecDepth 100000 in
set_option maxHeartbeats 2000000 in
theorem back_long (v : Value) (rs : List Rd) (me val : Int) (w : World) (sl : SlR w v rs) (hs : decide (rs.length ≤ 40) = false) :
    Calls Try.prog 7 #[.agg #[v], .int .i64 me, .int .i64 val] w fun e w' => e = .returned (.bool true) ∧ Below w.heap.size w w' := by
  obtain ⟨p, cap, rfl, hlc, hcm, parts⟩ := sl
  have SL0 := Lib.hid (show SlR w (.slice p rs.length cap) rs from ⟨p, cap, rfl, hlc, hcm, parts⟩)
  unfold maxLen at hcm
  clear parts
  have HS := Lib.hid hs
  clear hs
  go_enter Try.func7, Try.ntmps7
  have SL := SL0
  go_wp2_with fail
  refine (head_true _).mono ?_
  rintro e w1 ⟨rfl, hb⟩
  have oQ : Own w1 w.heap.size [.slice p rs.length cap] 24 := (own_at _ _ rfl).below hb
  have bel := belowTo ((Below.refl w.heap.size w).alloc (by simp) _) hb (by simp)
  clear hb
  obtain ⟨cQ0, fQ, zQ⟩ := own1 oQ
  have SL := Lib.hid (SL0.out.below bel)
  go_wp2_with fail
  refine (short_lit (.slice p rs.length cap) rs false _ SL.out HS.out).mono ?_
  rintro e w2 ⟨rfl, hb⟩
  replace oQ := oQ.below hb
  replace SL := Lib.hid (SL.out.below hb)
  replace bel := belowTo bel hb (by exact bel.size)
  clear hb
  clear cQ0 fQ zQ
  obtain ⟨cQ0, fQ, zQ⟩ := own1 oQ
  go_wp2
  all_goals (go_ret; exact ⟨ret_bool (by simp <;> omega), bel⟩)

set_option linter.unusedVariables false in
set_option maxRecDepth 100000 in
set_option maxHeartbeats 2000000 in
theorem back_bad (v : Value) (rs : List Rd) (me val : Int) (w : World) (sl : SlR w v rs) (hs : decide (rs.length ≤ 40) = true) (hv : vdB rs = false) :
    Calls Try.prog 7 #[.agg #[v], .int .i64 me, .int .i64 val] w fun e w' => e = .returned (.bool true) ∧ Below w.heap.size w w' := by
  obtain ⟨p, cap, rfl, hlc, hcm, parts⟩ := sl
  have SL0 := Lib.hid (show SlR w (.slice p rs.length cap) rs from ⟨p, cap, rfl, hlc, hcm, parts⟩)
  unfold maxLen at hcm
  clear parts
  have HS := Lib.hid hs
  clear hs
  have HV := Lib.hid hv
  clear hv
  go_enter Try.func7, Try.ntmps7
  have SL := SL0
  go_wp2_with fail
  refine (head_true _).mono ?_
  rintro e w1 ⟨rfl, hb⟩
  have oQ : Own w1 w.heap.size [.slice p rs.length cap] 24 := (own_at _ _ rfl).below hb
  have bel := belowTo ((Below.refl w.heap.size w).alloc (by simp) _) hb (by simp)
  clear hb
  obtain ⟨cQ0, fQ, zQ⟩ := own1 oQ
  have SL := Lib.hid (SL0.out.below bel)
  go_wp2_with fail
  refine (short_lit (.slice p rs.length cap) rs true _ SL.out HS.out).mono ?_
  rintro e w2 ⟨rfl, hb⟩
  replace oQ := oQ.below hb
  replace SL := Lib.hid (SL.out.below hb)
  replace bel := belowTo bel hb (by exact bel.size)
  clear hb
  clear cQ0 fQ zQ
  obtain ⟨cQ0, fQ, zQ⟩ := own1 oQ
  go_wp2_with fail
  refine (rqvalid_lit (.slice p rs.length cap) rs false _ SL.out HV.out).mono ?_
  rintro e w3 ⟨rfl, hb⟩
  replace oQ := oQ.below hb
  replace SL := Lib.hid (SL.out.below hb)
  replace bel := belowTo bel hb (by exact bel.size)
  clear hb
  clear cQ0 fQ zQ
  obtain ⟨cQ0, fQ, zQ⟩ := own1 oQ
  go_wp2
  all_goals (go_ret; exact ⟨ret_bool (by simp <;> omega), bel⟩)

set_option linter.unusedVariables false in
set_option maxRecDepth 100000 in
set_option maxHeartbeats 2000000 in
theorem back_neg (v : Value) (rs : List Rd) (me val : Int) (w : World) (sl : SlR w v rs) (hs : decide (rs.length ≤ 40) = true) (hv : vdB rs = true) (hm : me < 0) :
    Calls Try.prog 7 #[.agg #[v], .int .i64 me, .int .i64 val] w fun e w' => e = .returned (.bool true) ∧ Below w.heap.size w w' := by
  obtain ⟨p, cap, rfl, hlc, hcm, parts⟩ := sl
  have SL0 := Lib.hid (show SlR w (.slice p rs.length cap) rs from ⟨p, cap, rfl, hlc, hcm, parts⟩)
  unfold maxLen at hcm
  clear parts
  have HS := Lib.hid hs
  clear hs
  have HV := Lib.hid hv
  clear hv
  go_enter Try.func7, Try.ntmps7
  have SL := SL0
  go_wp2_with fail
  refine (head_true _).mono ?_
  rintro e w1 ⟨rfl, hb⟩
  have oQ : Own w1 w.heap.size [.slice p rs.length cap] 24 := (own_at _ _ rfl).below hb
  have bel := belowTo ((Below.refl w.heap.size w).alloc (by simp) _) hb (by simp)
  clear hb
  obtain ⟨cQ0, fQ, zQ⟩ := own1 oQ
  have SL := Lib.hid (SL0.out.below bel)
  go_wp2_with fail
  refine (short_lit (.slice p rs.length cap) rs true _ SL.out HS.out).mono ?_
  rintro e w2 ⟨rfl, hb⟩
  replace oQ := oQ.below hb
  replace SL := Lib.hid (SL.out.below hb)
  replace bel := belowTo bel hb (by exact bel.size)
  clear hb
  clear cQ0 fQ zQ
  obtain ⟨cQ0, fQ, zQ⟩ := own1 oQ
  go_wp2_with fail
  refine (rqvalid_lit (.slice p rs.length cap) rs true _ SL.out HV.out).mono ?_
  rintro e w3 ⟨rfl, hb⟩
  replace oQ := oQ.below hb
  replace SL := Lib.hid (SL.out.below hb)
  replace bel := belowTo bel hb (by exact bel.size)
  clear hb
  clear cQ0 fQ zQ
  obtain ⟨cQ0, fQ, zQ⟩ := own1 oQ
  go_wp2
  all_goals (go_ret; exact ⟨ret_bool (by simp <;> omega), bel⟩)

set_option linter.unusedVariables false in
set_option maxRecDepth 100000 in
set_option maxHeartbeats 2000000 in
theorem back_far (v : Value) (rs : List Rd) (me val : Int) (w : World) (sl : SlR w v rs) (hs : decide (rs.length ≤ 40) = true) (hv : vdB rs = true) (hm0 : 0 ≤ me) (hm : 60 ≤ me) :
    Calls Try.prog 7 #[.agg #[v], .int .i64 me, .int .i64 val] w fun e w' => e = .returned (.bool true) ∧ Below w.heap.size w w' := by
  obtain ⟨p, cap, rfl, hlc, hcm, parts⟩ := sl
  have SL0 := Lib.hid (show SlR w (.slice p rs.length cap) rs from ⟨p, cap, rfl, hlc, hcm, parts⟩)
  unfold maxLen at hcm
  clear parts
  have HS := Lib.hid hs
  clear hs
  have HV := Lib.hid hv
  clear hv
  go_enter Try.func7, Try.ntmps7
  have SL := SL0
  go_wp2_with fail
  refine (head_true _).mono ?_
  rintro e w1 ⟨rfl, hb⟩
  have oQ : Own w1 w.heap.size [.slice p rs.length cap] 24 := (own_at _ _ rfl).below hb
  have bel := belowTo ((Below.refl w.heap.size w).alloc (by simp) _) hb (by simp)
  clear hb
  obtain ⟨cQ0, fQ, zQ⟩ := own1 oQ
  have SL := Lib.hid (SL0.out.below bel)
  go_wp2_with fail
  refine (short_lit (.slice p rs.length cap) rs true _ SL.out HS.out).mono ?_
  rintro e w2 ⟨rfl, hb⟩
  replace oQ := oQ.below hb
  replace SL := Lib.hid (SL.out.below hb)
  replace bel := belowTo bel hb (by exact bel.size)
  clear hb
  clear cQ0 fQ zQ
  obtain ⟨cQ0, fQ, zQ⟩ := own1 oQ
  go_wp2_with fail
  refine (rqvalid_lit (.slice p rs.length cap) rs true _ SL.out HV.out).mono ?_
  rintro e w3 ⟨rfl, hb⟩
  replace oQ := oQ.below hb
  replace SL := Lib.hid (SL.out.below hb)
  replace bel := belowTo bel hb (by exact bel.size)
  clear hb
  clear cQ0 fQ zQ
  obtain ⟨cQ0, fQ, zQ⟩ := own1 oQ
  go_wp2
  all_goals (go_ret; exact ⟨ret_bool (by simp <;> omega), bel⟩)

theorem back_put {qs : List Rd} {me val : Int} {k : Nat} (hv : vdB qs = true) (hm0 : 0 ≤ me) (hm1 : me < 60) (hk : k ≤ 16) (hF : fnd ((me + 1) % 60) ((k : Int) + 1) qs < 0) :
    putE qs ⟨(me + 1) % 60, k + 1, 0, val, 0⟩ me = if qs.length = 16 then 10 else 0 := by
  have hf : fmB ⟨(me + 1) % 60, k + 1, 0, val, 0⟩ = true := fmB_iff.2 ⟨by simp only; omega, by simp only; omega, by simp only; omega, by simp only; omega, Or.inl rfl, by simp, by simp⟩
  rw [putE, if_neg (by simp [hv, hf]; omega), if_neg (by show ¬ 0 ≤ fnd ((me + 1) % 60) ((k : Int) + 1) qs; omega)]
  have : (me + 1) % 60 ≠ me := by omega
  by_cases h : qs.length = 16
  · rw [if_pos h, if_pos (Or.inl h)]
  · rw [if_neg h, if_neg (by rintro (h' | ⟨_, h'⟩); exact h h'; exact this h')]

set_option linter.unusedVariables false in
set_option maxRecDepth 100000 in
set_option maxHeartbeats 2000000 in
theorem back_main (v : Value) (rs : List Rd) (me val : Int) (w : World) (sl : SlR w v rs) (hs : decide (rs.length ≤ 40) = true) (hv : vdB rs = true) (hm0 : 0 ≤ me) (hm1 : me < 60) (fu : Bool) (hfu : (vdB rs && decide (14 ≤ rs.length)) = fu) :
    Calls Try.prog 7 #[.agg #[v], .int .i64 me, .int .i64 val] w fun e w' => e = .returned (.bool true) ∧ Below w.heap.size w w' := by
  obtain ⟨p, cap, rfl, hlc, hcm, parts⟩ := sl
  have SL0 := Lib.hid (show SlR w (.slice p rs.length cap) rs from ⟨p, cap, rfl, hlc, hcm, parts⟩)
  unfold maxLen at hcm
  clear parts
  have HS := Lib.hid hs
  clear hs
  have HV := Lib.hid hv
  clear hv
  have HFU := Lib.hid hfu
  clear hfu
  go_enter Try.func7, Try.ntmps7
  have SL := SL0
  go_wp2_with fail
  refine (head_true _).mono ?_
  rintro e w1 ⟨rfl, hb⟩
  have oQ : Own w1 w.heap.size [.slice p rs.length cap] 24 := (own_at _ _ rfl).below hb
  have bel := belowTo ((Below.refl w.heap.size w).alloc (by simp) _) hb (by simp)
  clear hb
  obtain ⟨cQ0, fQ, zQ⟩ := own1 oQ
  have SL := Lib.hid (SL0.out.below bel)
  go_wp2_with fail
  refine (short_lit (.slice p rs.length cap) rs true _ SL.out HS.out).mono ?_
  rintro e w2 ⟨rfl, hb⟩
  replace oQ := oQ.below hb
  replace SL := Lib.hid (SL.out.below hb)
  replace bel := belowTo bel hb (by exact bel.size)
  clear hb
  clear cQ0 fQ zQ
  obtain ⟨cQ0, fQ, zQ⟩ := own1 oQ
  go_wp2_with fail
  refine (rqvalid_lit (.slice p rs.length cap) rs true _ SL.out HV.out).mono ?_
  rintro e w3 ⟨rfl, hb⟩
  replace oQ := oQ.below hb
  replace SL := Lib.hid (SL.out.below hb)
  replace bel := belowTo bel hb (by exact bel.size)
  clear hb
  clear cQ0 fQ zQ
  obtain ⟨cQ0, fQ, zQ⟩ := own1 oQ
  go_wp2_with fail
  refine (full_lit (.slice p rs.length cap) rs fu _ SL.out HFU.out).mono ?_
  rintro e w4 ⟨rfl, hb⟩
  replace oQ := oQ.below hb
  replace SL := Lib.hid (SL.out.below hb)
  replace bel := belowTo bel hb (by exact bel.size)
  clear hb
  clear cQ0 fQ zQ
  obtain ⟨cQ0, fQ, zQ⟩ := own1 oQ
  go_wp2
  go_loopw [10, 11] (fun tk n wr => ∃ (t k : Nat) (u : Value) (qs : List Rd), t ≤ 3 ∧ tk = .int .i64 t ∧ n = .int .i64 (k + 1) ∧ k ≤ upTo ((me + 1) % 60) k qs ∧ vdB qs = true ∧ qs.length = rs.length + t ∧ Own wr w.heap.size [u] 24 ∧ Below w.heap.size w wr ∧ SlR wr u qs) (fun _ n _ => 60 - (intOf n).toNat)
  case atStart => exact ⟨0, 0, _, rs, by omega, rfl, rfl, by omega, HV.out, by simp, oQ, bel, SL.out⟩
  case round =>
    obtain ⟨t, k, u, qs, ht, rfl, rfl, hcnt, hvq, hlq, oQ, bel, slq⟩ := hrel
    clear cQ0 fQ zQ SL
    have hk16 : k ≤ 16 := Nat.le_trans hcnt (Nat.le_trans (upTo_le _ _ _) (vd_len hvq))
    have HCNT := Lib.hid hcnt
    have HVQ := Lib.hid hvq
    have HLQ := Lib.hid hlq
    have SL := Lib.hid slq
    clear hcnt hvq hlq
    obtain ⟨pq, capq, rfl, hlcq, hcmq, partsq⟩ := slq
    unfold maxLen at hcmq
    clear partsq
    obtain ⟨cQ0, fQ, zQ⟩ := own1 oQ
    by_cases ht3 : t < 3
    · obtain ⟨F, hF⟩ : ∃ F, fnd ((me + 1) % 60) ((k : Int) + 1) qs = F := ⟨_, rfl⟩
      have HF := Lib.hid hF
      clear hF
      by_cases hF0 : 0 ≤ F
      · go_wp2_with fail
        refine (rfind_lit (.slice pq qs.length capq) qs ((me + 1) % 60) (k + 1) F _ SL.out HF.out).mono ?_
        rintro e w5 ⟨rfl, hb⟩
        replace oQ := oQ.below hb
        replace SL := Lib.hid (SL.out.below hb)
        replace bel := belowTo bel hb (by exact bel.size)
        clear hb
        clear cQ0 fQ zQ
        obtain ⟨cQ0, fQ, zQ⟩ := own1 oQ
        go_wp2
        go_roundw
        case rel => exact ⟨t, k + 1, _, qs, ht, rfl, by go_num, by have := upTo_step (by have := HF.out; omega : 0 ≤ fnd ((me + 1) % 60) ((k : Int) + 1) qs); have := HCNT.out; rw [show ((k + 1 : Nat) : Int) = (k : Int) + 1 by omega]; omega, HVQ.out, HLQ.out, oQ, bel, SL.out⟩
        case measure => simp [intOf]; omega
      · have hF1 : F < 0 := by omega
        clear hF0
        by_cases hl16 : qs.length = 16
        · have HL16 := Lib.hid hl16
          clear hl16
          have HE := Lib.hid (show putE qs ⟨(me + 1) % 60, k + 1, 0, val, 0⟩ me = 10 ∧ putL qs ⟨(me + 1) % 60, k + 1, 0, val, 0⟩ me = [] by have := back_put (k := k) (val := val) HVQ.out hm0 hm1 hk16 (by have := HF.out; omega); rw [if_pos HL16.out] at this; exact ⟨this, by rw [putL, if_neg (by omega)]⟩)
          go_wp2_with fail
          refine (rfind_lit (.slice pq qs.length capq) qs ((me + 1) % 60) (k + 1) F _ SL.out HF.out).mono ?_
          rintro e w5 ⟨rfl, hb⟩
          replace oQ := oQ.below hb
          replace SL := Lib.hid (SL.out.below hb)
          replace bel := belowTo bel hb (by exact bel.size)
          clear hb
          clear cQ0 fQ zQ
          obtain ⟨cQ0, fQ, zQ⟩ := own1 oQ
          go_wp2_with fail
          refine (put_lit (.slice pq qs.length capq) qs ⟨(me + 1) % 60, k + 1, 0, val, 0⟩ me 10 [] _ SL.out HE.out).mono ?_
          rintro e w6 ⟨vp, rfl, sP, _, hb⟩
          replace oQ := oQ.below hb
          replace SL := Lib.hid (SL.out.below hb)
          replace bel := belowTo bel hb (by exact bel.size)
          clear hb
          clear cQ0 fQ zQ
          obtain ⟨cQ0, fQ, zQ⟩ := own1 oQ
          obtain ⟨pp, cp, rfl⟩ := slr_form _ sP rfl
          clear sP
          have hfu : fu = true := by have h1 := HFU.out; have h2 := HLQ.out; have h3 := HL16.out; rw [HV.out, Bool.true_and, decide_eq_true (by omega)] at h1; exact h1.symm
          subst hfu
          go_wp2
          go_ret
          exact ⟨rfl, bel.alloc bel.size _⟩
        · have HE := Lib.hid (show putE qs ⟨(me + 1) % 60, k + 1, 0, val, 0⟩ me = 0 ∧ putL qs ⟨(me + 1) % 60, k + 1, 0, val, 0⟩ me = qs ++ [⟨(me + 1) % 60, k + 1, 0, val, 0⟩] by have := back_put (k := k) (val := val) HVQ.out hm0 hm1 hk16 (by have := HF.out; omega); rw [if_neg hl16] at this; exact ⟨this, by rw [putL, if_pos this]⟩)
          go_wp2_with fail
          refine (rfind_lit (.slice pq qs.length capq) qs ((me + 1) % 60) (k + 1) F _ SL.out HF.out).mono ?_
          rintro e w5 ⟨rfl, hb⟩
          replace oQ := oQ.below hb
          replace SL := Lib.hid (SL.out.below hb)
          replace bel := belowTo bel hb (by exact bel.size)
          clear hb
          clear cQ0 fQ zQ
          obtain ⟨cQ0, fQ, zQ⟩ := own1 oQ
          go_wp2_with fail
          refine (put_lit (.slice pq qs.length capq) qs ⟨(me + 1) % 60, k + 1, 0, val, 0⟩ me 0 (qs ++ [⟨(me + 1) % 60, k + 1, 0, val, 0⟩]) _ SL.out HE.out).mono ?_
          rintro e w6 ⟨vp, rfl, sP, _, hb⟩
          replace oQ := oQ.below hb
          replace SL := Lib.hid (SL.out.below hb)
          replace bel := belowTo bel hb (by exact bel.size)
          clear hb
          clear cQ0 fQ zQ
          obtain ⟨cQ0, fQ, zQ⟩ := own1 oQ
          have SP := Lib.hid sP
          obtain ⟨pp, cp, rfl⟩ := slr_form (qs.length + 1) sP (by simp)
          clear sP
          go_wp2
          go_roundw
          case rel => exact ⟨t + 1, k + 1, _, qs ++ [⟨(me + 1) % 60, k + 1, 0, val, 0⟩], by omega, by go_num, by go_num, by have := upTo_snoc (o := (me + 1) % 60) (k := k) (rs := qs) (r := ⟨(me + 1) % 60, k + 1, 0, val, 0⟩) rfl rfl; have := HCNT.out; rw [show ((k + 1 : Nat) : Int) = (k : Int) + 1 by omega]; omega, (vd_put HE.out.1).2.2.2.2.2.2, by have := HLQ.out; simp; omega, (oQ.set 0 _).alloc _, (belowSet bel _ _ _ (Nat.le_refl _)).alloc (by have := bel.size; simp; omega) _, (slr_setq SP.out oQ (fun k i e => by cases e) _).below (belowNew _ _)⟩
          case measure => simp [intOf]; omega
    · have hfu : fu = false := by have h1 := HFU.out; have h2 := HLQ.out; have h3 := vd_len HVQ.out; rw [HV.out, Bool.true_and, decide_eq_false (by omega)] at h1; exact h1.symm
      subst hfu
      go_wp2
      go_ret
      exact ⟨ret_bool (by simp; omega), bel⟩

set_option linter.unusedVariables false in
theorem queueBack_walk (v : Value) (rs : List Rd) (me val : Int) (w : World) (sl : SlR w v rs) (nk : NilOk v) (ri : ∀ r ∈ rs, RdIn r) (g0 : IntKind.i64.has me) (g1 : IntKind.i64.has val) :
    Calls Try.prog 7 #[.agg #[v], .int .i64 me, .int .i64 val] w fun e w' => e = .returned (.bool true) ∧ Below w.heap.size w w' := by
  cases hs : decide (rs.length ≤ 40) with
  | false => exact back_long v rs me val w sl hs
  | true =>
    cases hv : vdB rs with
    | false => exact back_bad v rs me val w sl hs hv
    | true =>
      by_cases m0 : me < 0
      · exact back_neg v rs me val w sl hs hv m0
      · by_cases m1 : 60 ≤ me
        · exact back_far v rs me val w sl hs hv (by omega) m1
        · exact back_main v rs me val w sl hs hv (by omega) (by omega) _ rfl

end Go.Proofs.Ytlfdbmndikdhdaa

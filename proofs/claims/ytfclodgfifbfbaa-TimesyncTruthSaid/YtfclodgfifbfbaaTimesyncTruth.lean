/- TimesyncTruth: the walk of the law. It returns true for every input, and leaves old memory alone. -/
import Derived.Test.YtfclodgfifbfbaaHead09
import Derived.Test.YtfclodgfifbfbaaIs09
import Derived.Test.YtfclodgfifbfbaaHolds09
import Derived.Test.YtfclodgfifbfbaaPlain09b
import Derived.Test.YtfclodgfifbfbaaTruthA1
import Derived.Test.YtfclodgfifbfbaaTruthA2
import Derived.Test.YtfclodgfifbfbaaTruthB1
import Derived.Test.YtfclodgfifbfbaaTruthB2
namespace Go.Proofs.Ytfclodgfifbfbaa
open Go.RowKit

theorem timesyncTruth_walk (sy : Bool) (l h a k src he o d f p b s c t later off : Int) (w : World) (_0 : IntKind.i64.has l) (_1 : IntKind.i64.has h) (_2 : IntKind.i64.has a) (_3 : IntKind.i64.has k) (_4 : IntKind.i64.has src) (_5 : IntKind.i64.has he) (_6 : IntKind.i64.has o) (_7 : IntKind.i64.has d) (_8 : IntKind.i64.has f) (_9 : IntKind.i64.has p) (_10 : IntKind.i64.has b) (_11 : IntKind.i64.has s) (_12 : IntKind.i64.has c) (_13 : IntKind.i64.has t) (_14 : IntKind.i64.has later) (_15 : IntKind.i64.has off) :
    Calls Try.prog 9 #[.agg #[.bool sy, .int .i64 l, .int .i64 h, .int .i64 a, .int .i64 k, .int .i64 src, .int .i64 he], .agg #[.int .i64 o, .int .i64 d], .agg #[.int .i64 f, .int .i64 p, .int .i64 b, .int .i64 s, .int .i64 c], .int .i64 t, .int .i64 later, .int .i64 off] w fun e w' => e = .returned (.bool true) ∧ Below w.heap.size w w' := by
  by_cases p1 : 0 ≤ later
  case neg => exact timesyncTruth_r1 sy l h a k src he o d f p b s c t later off w (by omega)
  by_cases p2 : later ≤ 10000000000
  case neg => exact timesyncTruth_r2 sy l h a k src he o d f p b s c t later off w p1 (by omega)
  by_cases p7 : 0 ≤ t
  case neg => exact timesyncTruth_r5 sy l h a k src he o d f p b s c t later off w p1 p2 (by omega)
  by_cases p8 : t ≤ 10000000000000 - later - 20000
  case neg => exact timesyncTruth_r6 sy l h a k src he o d f p b s c t later off w p1 p2 p7 (by omega)
  by_cases p9 : 0 ≤ s
  case neg => exact timesyncTruth_r7 sy l h a k src he o d f p b s c t later off w p1 p2 p7 p8 (by omega)
  by_cases p10 : s ≤ 1000000000
  case neg => exact timesyncTruth_r8 sy l h a k src he o d f p b s c t later off w p1 p2 p7 p8 p9 (by omega)
  by_cases p5 : 0 ≤ b
  case neg => exact timesyncTruth_r9 sy l h a k src he o d f p b s c t later off w p1 p2 p7 p8 p9 p10 (by omega)
  by_cases p6 : b ≤ 2000
  case neg => exact timesyncTruth_r10 sy l h a k src he o d f p b s c t later off w p1 p2 p7 p8 p9 p10 p5 (by omega)
  by_cases p3 : -b ≤ off
  case neg => exact timesyncTruth_r3 sy l h a k src he o d f p b s c t later off w p1 p2 p7 p8 p9 p10 p5 p6 (by omega)
  by_cases p4 : off ≤ b
  case neg => exact timesyncTruth_r4 sy l h a k src he o d f p b s c t later off w p1 p2 p7 p8 p9 p10 p5 p6 p3 (by omega)
  cases ok : okS o d ((t + later) / 10000 * 10000 + off) with
  | false =>
    obtain ⟨s1, s2⟩ := sh_no ok
    cases sy with
    | false => exact timesyncTruth_show_false l h a k src he o d f p b s c t later off w p1 p2 p3 p4 p5 p6 p7 p8 p9 p10 ⟨s2, s1⟩
    | true => exact timesyncTruth_show_true l h a k src he o d f p b s c t later off w p1 p2 p3 p4 p5 p6 p7 p8 p9 p10 ⟨s2, s1⟩
  | true =>
    obtain ⟨s1, s2⟩ := sh_yes ok
    by_cases q : t ≤ (t + later) / 10000 * 10000 + off
    case neg =>
      have q' : (t + later) / 10000 * 10000 + off < t := by omega
      cases sy with
      | false => exact timesyncTruth_early_false l h a k src he o d f p b s c t later off _ w p1 p2 p3 p4 p5 p6 p7 p8 p9 p10 ⟨s2, s1⟩ q'
      | true => exact timesyncTruth_early_true l h a k src he o d f p b s c t later off _ w p1 p2 p3 p4 p5 p6 p7 p8 p9 p10 ⟨s2, s1⟩ q'
    cases v : vldT sy l h a k src he with
    | false =>
      cases sy with
      | false => exact timesyncTruth_bad_false l h a k src he o d f p b s c t later off _ w p1 p2 p3 p4 p5 p6 p7 p8 p9 p10 ⟨s2, s1⟩ q v
      | true => exact timesyncTruth_bad_true l h a k src he o d f p b s c t later off _ w p1 p2 p3 p4 p5 p6 p7 p8 p9 p10 ⟨s2, s1⟩ q v
    | true =>
      cases hi : (vldH ((t + later) / 10000) b (atI o d ((t + later) / 10000 * 10000 + off)) && decide (0 ≤ f ∧ f < 60 ∧ 0 ≤ p ∧ p < 60)) with
      | false =>
        cases sy with
        | false => exact timesyncTruth_hint_false l h a k src he o d f p b s c t later off _ w p1 p2 p3 p4 p5 p6 p7 p8 p9 p10 ⟨s2, s1⟩ q v hi
        | true => exact timesyncTruth_hint_true l h a k src he o d f p b s c t later off _ w p1 p2 p3 p4 p5 p6 p7 p8 p9 p10 ⟨s2, s1⟩ q v hi
      | true =>
        have hi' := hi
        simp only [Bool.and_eq_true, decide_eq_true_eq] at hi'
        obtain ⟨hv2, hi2⟩ := hi'
        cases sy with
        | true =>
          by_cases hk : k = 0
          · exact timesyncTruth_root l h a k src he o d f p b s c t later off _ w p1 p2 p3 p4 p5 p6 p7 p8 p9 p10 ⟨s2, s1⟩ q v hi (by simp [hk])
          · have r : (true && (k == 0)) = false := by simpa using hk
            cases ho : hoB l h a o d t with
            | false => exact timesyncTruth_not l h a k src he o d f p b s c t later off _ w p1 p2 p3 p4 p5 p6 p7 p8 p9 p10 ⟨s2, s1⟩ q v hi r ho
            | true =>
                    have ho' : hoP l h a o d t := by
                      simp only [hoB, Bool.and_eq_true, truB_iff] at ho
                      exact ⟨ho.1, ho.2.1, ho.2.2.1, ho.2.2.2⟩
                    have hrd : (true && (k == 0)) = false := r
                    obtain ⟨n16, n1, tt⟩ := truth_hear (f := f) (p := p) (b := b) (G := (t + later) / 10000) v hrd (fun _ => ho') hv2 hi2 ok (by omega) (by omega) q
                    obtain ⟨Y, X1, X2, X3, X4, X5, X6, E, hq⟩ := hear_ex true l h a k src he f p b ((t + later) / 10000) (atI o d ((t + later) / 10000 * 10000 + off))
                    have hq' := hq
                    rcases hq with ⟨hC, rfl, rfl, rfl, rfl, rfl, rfl, rfl, hE⟩ | ⟨hC, rfl, rfl, rfl, rfl, rfl, rfl, rfl, rfl⟩
                    · by_cases e0 : E = 0
                      · subst e0
                        have tk : tkB true k src f p = false := by
                          cases z : tkB true k src f p with
                          | false => rfl
                          | true =>
                            exfalso
                            have : hrC true l h a k src he f p b ((t + later) / 10000) (atI o d ((t + later) / 10000 * 10000 + off)) = true := by
                              simp only [hrC, hrV, v, hv2, z, hE]; simp [hi2]
                            rw [this] at hC; cases hC
                        exact timesyncTruth_skip_true l h a k src he o d f p b s c t later off _ _ _ _ _ _ _ _ w p1 p2 p3 p4 p5 p6 p7 p8 p9 p10 ⟨s2, s1⟩ q v hi r ho hq' tk (tsB_self _ _ _ _ _ _ _)
                      · rw [hE] at n16 n1
                        exact timesyncTruth_err_true l h a k src he o d f p b s c t later off _ _ _ _ _ _ _ _ _ w p1 p2 p3 p4 p5 p6 p7 p8 p9 p10 ⟨s2, s1⟩ q v hi r ho hq' (by simpa using e0) (by simpa using e0) (by simpa using n16) (by simpa using n1)
                    · obtain ⟨_, _, _, tk, he0⟩ := hr_new hC
                      obtain ⟨z1, z2, z3, z4⟩ := tt tk he0
                      exact timesyncTruth_taken_true l h a k src he o d f p b s c t later off _ _ _ _ _ _ _ _ w p1 p2 p3 p4 p5 p6 p7 p8 p9 p10 ⟨s2, s1⟩ q v hi r ho hq' tk (by simp only [hoB, z1, Bool.true_and, truB_iff]; exact ⟨z2, z3, z4⟩)
        | false =>
                    have r : (false && (k == 0)) = false := rfl
                    have hrd : (false && (k == 0)) = false := r
                    obtain ⟨n16, n1, tt⟩ := truth_hear (f := f) (p := p) (b := b) (G := (t + later) / 10000) v hrd (fun q => by cases q) hv2 hi2 ok (by omega) (by omega) q
                    obtain ⟨Y, X1, X2, X3, X4, X5, X6, E, hq⟩ := hear_ex false l h a k src he f p b ((t + later) / 10000) (atI o d ((t + later) / 10000 * 10000 + off))
                    have hq' := hq
                    rcases hq with ⟨hC, rfl, rfl, rfl, rfl, rfl, rfl, rfl, hE⟩ | ⟨hC, rfl, rfl, rfl, rfl, rfl, rfl, rfl, rfl⟩
                    · by_cases e0 : E = 0
                      · subst e0
                        have tk : tkB false k src f p = false := by
                          cases z : tkB false k src f p with
                          | false => rfl
                          | true =>
                            exfalso
                            have : hrC false l h a k src he f p b ((t + later) / 10000) (atI o d ((t + later) / 10000 * 10000 + off)) = true := by
                              simp only [hrC, hrV, v, hv2, z, hE]; simp [hi2]
                            rw [this] at hC; cases hC
                        simp [tkB] at tk
                      · rw [hE] at n16 n1
                        exact timesyncTruth_err_false l h a k src he o d f p b s c t later off _ _ _ _ _ _ _ _ _ w p1 p2 p3 p4 p5 p6 p7 p8 p9 p10 ⟨s2, s1⟩ q v hi r hq' (by simpa using e0) (by simpa using e0) (by simpa using n16) (by simpa using n1)
                    · obtain ⟨_, _, _, tk, he0⟩ := hr_new hC
                      obtain ⟨z1, z2, z3, z4⟩ := tt tk he0
                      exact timesyncTruth_taken_false l h a k src he o d f p b s c t later off _ _ _ _ _ _ _ _ w p1 p2 p3 p4 p5 p6 p7 p8 p9 p10 ⟨s2, s1⟩ q v hi r hq' tk (by simp only [hoB, z1, Bool.true_and, truB_iff]; exact ⟨z2, z3, z4⟩)

end Go.Proofs.Ytfclodgfifbfbaa

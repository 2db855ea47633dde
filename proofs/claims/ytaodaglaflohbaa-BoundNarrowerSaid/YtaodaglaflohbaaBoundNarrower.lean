/- BoundNarrower: the walk of the law. It returns true for every input, and leaves old memory alone. -/
import Derived.Test.YtaodaglaflohbaaHead08
import Derived.Test.YtaodaglaflohbaaPlain08c
import Derived.Test.YtaodaglaflohbaaNarrowA
import Derived.Test.YtaodaglaflohbaaNarrowB
import Derived.Test.YtaodaglaflohbaaNarrowC
import Derived.Test.YtaodaglaflohbaaNarrowX
namespace Go.Proofs.Ytaodaglaflohbaa
open Go.RowKit
set_option linter.unusedVariables false

theorem boundNarrower_walk (l h a lo hi n bl bh ba : Int) (w : World) (_1 : IntKind.i64.has l) (_2 : IntKind.i64.has h) (_3 : IntKind.i64.has a) (_4 : IntKind.u16.has lo) (_5 : IntKind.u16.has hi) (_6 : IntKind.i64.has n)
    (_7 : IntKind.i64.has bl) (_8 : IntKind.i64.has bh) (_9 : IntKind.i64.has ba) :
    Calls Try.prog 7 #[.agg #[.int .i64 l, .int .i64 h, .int .i64 a], .int .u16 lo, .int .u16 hi, .int .i64 n, .agg #[.int .i64 bl, .int .i64 bh, .int .i64 ba]] w fun e w' => e = .returned (.bool true) ∧ Below w.heap.size w w' := by
  have ⟨u1, u2⟩ : 0 ≤ lo ∧ lo ≤ 65535 := by simpa [IntKind.has, IntKind.min, IntKind.max, IntKind.signed, IntKind.bits] using _4
  have ⟨u3, u4⟩ : 0 ≤ hi ∧ hi ≤ 65535 := by simpa [IntKind.has, IntKind.min, IntKind.max, IntKind.signed, IntKind.bits] using _5
  by_cases v : vldS l h a = true
  · have v' := vldS_iff.1 v
    by_cases e1 : grE l h a n = 0
    · by_cases e2 : grE (l - lo) (h + hi) a n = 0
      · have i1 : inS (grL l h a n) (grH l h a n) (grA l h a n) (grL (l - lo) (h + hi) a n) (grH (l - lo) (h + hi) a n) (grA (l - lo) (h + hi) a n) = true := by
          obtain ⟨_, _, f1, f2, f3⟩ := gr_zero e1
          obtain ⟨_, _, g1, g2, g3⟩ := gr_zero e2
          rw [inS_iff]; omega
        by_cases e3 : mtE l h a bl bh ba = 0
        · obtain ⟨f, g⟩ := mt_wider (l := l) (h := h) (a := a) (l' := l - lo) (h' := h + hi) (bl := bl) (bh := bh) (ba := ba) (by omega) (by omega) e3
          rcases f with f0 | f1 | f3
          · have i2 : inS (mtL l h a bl bh ba) (mtH l h a bl bh ba) (mtA l h a bl bh ba) (mtL (l - lo) (h + hi) a bl bh ba) (mtH (l - lo) (h + hi) a bl bh ba) (mtA (l - lo) (h + hi) a bl bh ba) = true := inS_iff.2 (g f0)
            exact boundNarrower_34 l h a lo hi n bl bh ba _ _ _ _ _ _ _ _ _ _ _ _ w (by omega) (by omega) (by omega) (by omega) (by omega) (by omega) (by omega) i1 i2 ⟨rfl, rfl, rfl, e1⟩ ⟨rfl, rfl, rfl, e2⟩ ⟨rfl, rfl, rfl, e3⟩ ⟨rfl, rfl, rfl, f0⟩
          · exact boundNarrower_32 l h a lo hi n bl bh ba _ _ _ _ _ _ _ _ _ _ _ _ w (by omega) (by omega) (by omega) (by omega) (by omega) (by omega) (by omega) i1 ⟨rfl, rfl, rfl, e1⟩ ⟨rfl, rfl, rfl, e2⟩ ⟨rfl, rfl, rfl, e3⟩ ⟨rfl, rfl, rfl, f1⟩
          · exact boundNarrower_33 l h a lo hi n bl bh ba _ _ _ _ _ _ _ _ _ _ _ _ w (by omega) (by omega) (by omega) (by omega) (by omega) (by omega) (by omega) i1 ⟨rfl, rfl, rfl, e1⟩ ⟨rfl, rfl, rfl, e2⟩ ⟨rfl, rfl, rfl, e3⟩ ⟨rfl, rfl, rfl, f3⟩
        · exact boundNarrower_31 l h a lo hi n bl bh ba _ _ _ _ _ _ _ _ _ _ _ _ _ _ w (by omega) (by omega) (by omega) (by omega) (by omega) (by omega) (by omega) (by simpa using e3) i1 ⟨rfl, rfl, rfl, e1⟩ ⟨rfl, rfl, rfl, e2⟩ ⟨rfl, rfl, rfl, rfl⟩ ⟨rfl, rfl, rfl, rfl⟩
      · skip
        by_cases e3 : mtE l h a bl bh ba = 0
        · obtain ⟨f, g⟩ := mt_wider (l := l) (h := h) (a := a) (l' := l - lo) (h' := h + hi) (bl := bl) (bh := bh) (ba := ba) (by omega) (by omega) e3
          rcases f with f0 | f1 | f3
          · have i2 : inS (mtL l h a bl bh ba) (mtH l h a bl bh ba) (mtA l h a bl bh ba) (mtL (l - lo) (h + hi) a bl bh ba) (mtH (l - lo) (h + hi) a bl bh ba) (mtA (l - lo) (h + hi) a bl bh ba) = true := inS_iff.2 (g f0)
            exact boundNarrower_24 l h a lo hi n bl bh ba _ _ _ _ _ _ _ _ _ _ _ _ _ w (by omega) (by omega) (by omega) (by omega) (by omega) (by omega) (by omega) (by simpa using e2) i2 ⟨rfl, rfl, rfl, e1⟩ ⟨rfl, rfl, rfl, rfl⟩ ⟨rfl, rfl, rfl, e3⟩ ⟨rfl, rfl, rfl, f0⟩
          · exact boundNarrower_22 l h a lo hi n bl bh ba _ _ _ _ _ _ _ _ _ _ _ _ _ w (by omega) (by omega) (by omega) (by omega) (by omega) (by omega) (by omega) (by simpa using e2) ⟨rfl, rfl, rfl, e1⟩ ⟨rfl, rfl, rfl, rfl⟩ ⟨rfl, rfl, rfl, e3⟩ ⟨rfl, rfl, rfl, f1⟩
          · exact boundNarrower_23 l h a lo hi n bl bh ba _ _ _ _ _ _ _ _ _ _ _ _ _ w (by omega) (by omega) (by omega) (by omega) (by omega) (by omega) (by omega) (by simpa using e2) ⟨rfl, rfl, rfl, e1⟩ ⟨rfl, rfl, rfl, rfl⟩ ⟨rfl, rfl, rfl, e3⟩ ⟨rfl, rfl, rfl, f3⟩
        · exact boundNarrower_21 l h a lo hi n bl bh ba _ _ _ _ _ _ _ _ _ _ _ _ _ _ _ w (by omega) (by omega) (by omega) (by omega) (by omega) (by omega) (by omega) (by simpa using e2) (by simpa using e3) ⟨rfl, rfl, rfl, e1⟩ ⟨rfl, rfl, rfl, rfl⟩ ⟨rfl, rfl, rfl, rfl⟩ ⟨rfl, rfl, rfl, rfl⟩
    · skip
      by_cases e3 : mtE l h a bl bh ba = 0
      · obtain ⟨f, g⟩ := mt_wider (l := l) (h := h) (a := a) (l' := l - lo) (h' := h + hi) (bl := bl) (bh := bh) (ba := ba) (by omega) (by omega) e3
        rcases f with f0 | f1 | f3
        · have i2 : inS (mtL l h a bl bh ba) (mtH l h a bl bh ba) (mtA l h a bl bh ba) (mtL (l - lo) (h + hi) a bl bh ba) (mtH (l - lo) (h + hi) a bl bh ba) (mtA (l - lo) (h + hi) a bl bh ba) = true := inS_iff.2 (g f0)
          exact boundNarrower_14 l h a lo hi n bl bh ba _ _ _ _ _ _ _ _ _ _ _ _ _ _ w (by omega) (by omega) (by omega) (by omega) (by omega) (by omega) (by omega) (by simpa using e1) i2 ⟨rfl, rfl, rfl, rfl⟩ ⟨rfl, rfl, rfl, rfl⟩ ⟨rfl, rfl, rfl, e3⟩ ⟨rfl, rfl, rfl, f0⟩
        · exact boundNarrower_12 l h a lo hi n bl bh ba _ _ _ _ _ _ _ _ _ _ _ _ _ _ w (by omega) (by omega) (by omega) (by omega) (by omega) (by omega) (by omega) (by simpa using e1) ⟨rfl, rfl, rfl, rfl⟩ ⟨rfl, rfl, rfl, rfl⟩ ⟨rfl, rfl, rfl, e3⟩ ⟨rfl, rfl, rfl, f1⟩
        · exact boundNarrower_13 l h a lo hi n bl bh ba _ _ _ _ _ _ _ _ _ _ _ _ _ _ w (by omega) (by omega) (by omega) (by omega) (by omega) (by omega) (by omega) (by simpa using e1) ⟨rfl, rfl, rfl, rfl⟩ ⟨rfl, rfl, rfl, rfl⟩ ⟨rfl, rfl, rfl, e3⟩ ⟨rfl, rfl, rfl, f3⟩
      · exact boundNarrower_11 l h a lo hi n bl bh ba _ _ _ _ _ _ _ _ _ _ _ _ _ _ _ _ w (by omega) (by omega) (by omega) (by omega) (by omega) (by omega) (by omega) (by simpa using e1) (by simpa using e3) ⟨rfl, rfl, rfl, rfl⟩ ⟨rfl, rfl, rfl, rfl⟩ ⟨rfl, rfl, rfl, rfl⟩ ⟨rfl, rfl, rfl, rfl⟩
  · have k : okA l h a n = false := by
      rcases Bool.eq_false_or_eq_true (okA l h a n) with q | q
      · exact absurd (okA_iff.1 q).1 v
      · exact q
    have e1 : ¬ grE l h a n = 0 := by rw [(gr_arg k).1]; decide
    have e3 : ¬ mtE l h a bl bh ba = 0 := by rw [(mt_no (fun q => v q.1) : mtL l h a bl bh ba = 0 ∧ mtH l h a bl bh ba = 0 ∧ mtA l h a bl bh ba = 0 ∧ mtE l h a bl bh ba = 1).2.2.2]; decide
    exact boundNarrower_x11 l h a lo hi n bl bh ba _ _ _ _ _ _ _ _ _ _ _ _ _ _ _ _ w u1 u2 u3 u4 (by simpa using e1) (by simpa using e3) ⟨rfl, rfl, rfl, rfl⟩ ⟨rfl, rfl, rfl, rfl⟩ ⟨rfl, rfl, rfl, rfl⟩ ⟨rfl, rfl, rfl, rfl⟩

end Go.Proofs.Ytaodaglaflohbaa

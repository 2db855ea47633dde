/- down.Learn where it refuses. -/
import Derived.Test.YtheifmdaladfdaaNews21
import Derived.WalkMore
namespace Go.Proofs.Ytheifmdaladfdaa
open Go.RowKit

theorem below2 (w : World) (a b : Obj) : Below w.heap.size w ((w.alloc a).alloc b) := (belowNew w a).trans ((belowNew _ b).mono (belowNew w a).size)
theorem toldC_any (c : Int) (be : List Dn) : toldC c be = (toldB be && !be.any (fun d => d.t == c)) := by
  rw [toldC]
  congr 1
  induction be with
  | nil => rfl
  | cons d l ih => rw [List.all_cons, List.any_cons, Bool.not_or, ih]; rfl

set_option linter.unusedVariables false in
set_option maxRecDepth 100000 in
set_option maxHeartbeats 2000000 in
theorem learn_v (v u : Value) (ls be : List Dn) (c s f : Int) (w : World) (sl : SlD w v ls) (sb : SlD w u be) (hv : vldD ls = false) :
    Calls Try.prog 12 #[v, .int .i64 c, .int .i64 s, u, .int .i64 f] w fun e w' => LrnP w [] 1 e w' := by
  obtain ⟨p, cap, e, hlc, hcm, hpn⟩ := sl.form ls.length rfl
  subst e
  have SL := Lib.hid sl
  unfold maxLen at hcm
  clear hpn sl
  obtain ⟨p2, cap2, e2, hlc2, hcm2, hpn2⟩ := sb.form be.length rfl
  subst e2
  have SB := Lib.hid sb
  unfold maxLen at hcm2
  clear hpn2 sb
  have HV := Lib.hid hv
  clear hv
  go_enter Try.func12, Try.ntmps12
  go_wp2
  go_step3
  go_wp2_with (first | (go_at_call 25; refine (dvalid_lit _ ls false _ (SL.out.below (below2 w _ _)) HV.out).mono ?_; rintro e w1 ⟨rfl, hb2⟩; have OC := Lib.hid (((own_at (w := w) [.int .i64 c] 3 rfl).alloc (.cells #[.int .i64 f] 3)).below hb2); have OF := Lib.hid ((own_at (w := w.alloc (.cells #[.int .i64 c] 3)) (n := w.heap.size + 1) [.int .i64 f] 3 (by simp)).below hb2); have B1 := Lib.hid ((below2 w _ _).trans (hb2.mono (below2 w _ _).size)); have SB1 := Lib.hid (SB.out.below B1.out); have cC := OC.out.cell (i := 0) rfl; have cF := OF.out.cell (i := 0) rfl; clear hb2) | fail)
  rw [Exit.noGoto_ret]
  go_ret2
  exact ⟨_, rfl, slt_nil _, B1.out⟩

set_option linter.unusedVariables false in
set_option maxRecDepth 100000 in
set_option maxHeartbeats 2000000 in
theorem learn_c (v u : Value) (ls be : List Dn) (c s f : Int) (w : World) (sl : SlD w v ls) (sb : SlD w u be) (hv : vldD ls = true) (hc : nodB c = false) :
    Calls Try.prog 12 #[v, .int .i64 c, .int .i64 s, u, .int .i64 f] w fun e w' => LrnP w [] 1 e w' := by
  obtain ⟨p, cap, e, hlc, hcm, hpn⟩ := sl.form ls.length rfl
  subst e
  have SL := Lib.hid sl
  unfold maxLen at hcm
  clear hpn sl
  obtain ⟨p2, cap2, e2, hlc2, hcm2, hpn2⟩ := sb.form be.length rfl
  subst e2
  have SB := Lib.hid sb
  unfold maxLen at hcm2
  clear hpn2 sb
  have HV := Lib.hid hv
  clear hv
  have HC := Lib.hid hc
  clear hc
  go_enter Try.func12, Try.ntmps12
  go_wp2
  go_step3
  go_wp2_with (first | (go_at_call 25; refine (dvalid_lit _ ls true _ (SL.out.below (below2 w _ _)) HV.out).mono ?_; rintro e w1 ⟨rfl, hb2⟩; have OC := Lib.hid (((own_at (w := w) [.int .i64 c] 3 rfl).alloc (.cells #[.int .i64 f] 3)).below hb2); have OF := Lib.hid ((own_at (w := w.alloc (.cells #[.int .i64 c] 3)) (n := w.heap.size + 1) [.int .i64 f] 3 (by simp)).below hb2); have B1 := Lib.hid ((below2 w _ _).trans (hb2.mono (below2 w _ _).size)); have SB1 := Lib.hid (SB.out.below B1.out); have cC := OC.out.cell (i := 0) rfl; have cF := OF.out.cell (i := 0) rfl; clear hb2) | (go_at_call 26; refine (node_lit c false _ HC.out).mono ?_; rintro e w2 ⟨rfl, rfl⟩) | fail)
  rw [Exit.noGoto_ret]
  go_ret2
  exact ⟨_, rfl, slt_nil _, B1.out⟩

set_option linter.unusedVariables false in
set_option maxRecDepth 100000 in
set_option maxHeartbeats 2000000 in
theorem learn_s0 (v u : Value) (ls be : List Dn) (c s f : Int) (w : World) (sl : SlD w v ls) (sb : SlD w u be) (hv : vldD ls = true) (hc : nodB c = true) (h1 : s < 0) :
    Calls Try.prog 12 #[v, .int .i64 c, .int .i64 s, u, .int .i64 f] w fun e w' => LrnP w [] 1 e w' := by
  obtain ⟨p, cap, e, hlc, hcm, hpn⟩ := sl.form ls.length rfl
  subst e
  have SL := Lib.hid sl
  unfold maxLen at hcm
  clear hpn sl
  obtain ⟨p2, cap2, e2, hlc2, hcm2, hpn2⟩ := sb.form be.length rfl
  subst e2
  have SB := Lib.hid sb
  unfold maxLen at hcm2
  clear hpn2 sb
  have HV := Lib.hid hv
  clear hv
  have HC := Lib.hid hc
  clear hc
  go_enter Try.func12, Try.ntmps12
  go_wp2
  go_step3
  go_wp2_with (first | (go_at_call 25; refine (dvalid_lit _ ls true _ (SL.out.below (below2 w _ _)) HV.out).mono ?_; rintro e w1 ⟨rfl, hb2⟩; have OC := Lib.hid (((own_at (w := w) [.int .i64 c] 3 rfl).alloc (.cells #[.int .i64 f] 3)).below hb2); have OF := Lib.hid ((own_at (w := w.alloc (.cells #[.int .i64 c] 3)) (n := w.heap.size + 1) [.int .i64 f] 3 (by simp)).below hb2); have B1 := Lib.hid ((below2 w _ _).trans (hb2.mono (below2 w _ _).size)); have SB1 := Lib.hid (SB.out.below B1.out); have cC := OC.out.cell (i := 0) rfl; have cF := OF.out.cell (i := 0) rfl; clear hb2) | (go_at_call 26; refine (node_lit c true _ HC.out).mono ?_; rintro e w2 ⟨rfl, rfl⟩) | fail)
  rw [Exit.noGoto_ret]
  go_ret2
  exact ⟨_, rfl, slt_nil _, B1.out⟩

set_option linter.unusedVariables false in
set_option maxRecDepth 100000 in
set_option maxHeartbeats 2000000 in
theorem learn_s1 (v u : Value) (ls be : List Dn) (c s f : Int) (w : World) (sl : SlD w v ls) (sb : SlD w u be) (hv : vldD ls = true) (hc : nodB c = true) (h0 : 0 ≤ s) (h1 : 1000000000 < s) :
    Calls Try.prog 12 #[v, .int .i64 c, .int .i64 s, u, .int .i64 f] w fun e w' => LrnP w [] 1 e w' := by
  obtain ⟨p, cap, e, hlc, hcm, hpn⟩ := sl.form ls.length rfl
  subst e
  have SL := Lib.hid sl
  unfold maxLen at hcm
  clear hpn sl
  obtain ⟨p2, cap2, e2, hlc2, hcm2, hpn2⟩ := sb.form be.length rfl
  subst e2
  have SB := Lib.hid sb
  unfold maxLen at hcm2
  clear hpn2 sb
  have HV := Lib.hid hv
  clear hv
  have HC := Lib.hid hc
  clear hc
  go_enter Try.func12, Try.ntmps12
  go_wp2
  go_step3
  go_wp2_with (first | (go_at_call 25; refine (dvalid_lit _ ls true _ (SL.out.below (below2 w _ _)) HV.out).mono ?_; rintro e w1 ⟨rfl, hb2⟩; have OC := Lib.hid (((own_at (w := w) [.int .i64 c] 3 rfl).alloc (.cells #[.int .i64 f] 3)).below hb2); have OF := Lib.hid ((own_at (w := w.alloc (.cells #[.int .i64 c] 3)) (n := w.heap.size + 1) [.int .i64 f] 3 (by simp)).below hb2); have B1 := Lib.hid ((below2 w _ _).trans (hb2.mono (below2 w _ _).size)); have SB1 := Lib.hid (SB.out.below B1.out); have cC := OC.out.cell (i := 0) rfl; have cF := OF.out.cell (i := 0) rfl; clear hb2) | (go_at_call 26; refine (node_lit c true _ HC.out).mono ?_; rintro e w2 ⟨rfl, rfl⟩) | fail)
  rw [Exit.noGoto_ret]
  go_ret2
  exact ⟨_, rfl, slt_nil _, B1.out⟩

set_option linter.unusedVariables false in
set_option maxRecDepth 100000 in
set_option maxHeartbeats 2000000 in
theorem learn_f0 (v u : Value) (ls be : List Dn) (c s f : Int) (w : World) (sl : SlD w v ls) (sb : SlD w u be) (hv : vldD ls = true) (hc : nodB c = true) (h0 : 0 ≤ s) (h1 : s ≤ 1000000000) (h2 : f < 0) :
    Calls Try.prog 12 #[v, .int .i64 c, .int .i64 s, u, .int .i64 f] w fun e w' => LrnP w [] 1 e w' := by
  obtain ⟨p, cap, e, hlc, hcm, hpn⟩ := sl.form ls.length rfl
  subst e
  have SL := Lib.hid sl
  unfold maxLen at hcm
  clear hpn sl
  obtain ⟨p2, cap2, e2, hlc2, hcm2, hpn2⟩ := sb.form be.length rfl
  subst e2
  have SB := Lib.hid sb
  unfold maxLen at hcm2
  clear hpn2 sb
  have HV := Lib.hid hv
  clear hv
  have HC := Lib.hid hc
  clear hc
  go_enter Try.func12, Try.ntmps12
  go_wp2
  go_step3
  go_wp2_with (first | (go_at_call 25; refine (dvalid_lit _ ls true _ (SL.out.below (below2 w _ _)) HV.out).mono ?_; rintro e w1 ⟨rfl, hb2⟩; have OC := Lib.hid (((own_at (w := w) [.int .i64 c] 3 rfl).alloc (.cells #[.int .i64 f] 3)).below hb2); have OF := Lib.hid ((own_at (w := w.alloc (.cells #[.int .i64 c] 3)) (n := w.heap.size + 1) [.int .i64 f] 3 (by simp)).below hb2); have B1 := Lib.hid ((below2 w _ _).trans (hb2.mono (below2 w _ _).size)); have SB1 := Lib.hid (SB.out.below B1.out); have cC := OC.out.cell (i := 0) rfl; have cF := OF.out.cell (i := 0) rfl; clear hb2) | (go_at_call 26; refine (node_lit c true _ HC.out).mono ?_; rintro e w2 ⟨rfl, rfl⟩) | fail)
  rw [Exit.noGoto_ret]
  go_ret2
  exact ⟨_, rfl, slt_nil _, B1.out⟩

set_option linter.unusedVariables false in
set_option maxRecDepth 100000 in
set_option maxHeartbeats 2000000 in
theorem learn_f1 (v u : Value) (ls be : List Dn) (c s f : Int) (w : World) (sl : SlD w v ls) (sb : SlD w u be) (hv : vldD ls = true) (hc : nodB c = true) (h0 : 0 ≤ s) (h1 : s ≤ 1000000000) (h2 : 0 ≤ f) (h3 : 999999997 < f) :
    Calls Try.prog 12 #[v, .int .i64 c, .int .i64 s, u, .int .i64 f] w fun e w' => LrnP w [] 1 e w' := by
  obtain ⟨p, cap, e, hlc, hcm, hpn⟩ := sl.form ls.length rfl
  subst e
  have SL := Lib.hid sl
  unfold maxLen at hcm
  clear hpn sl
  obtain ⟨p2, cap2, e2, hlc2, hcm2, hpn2⟩ := sb.form be.length rfl
  subst e2
  have SB := Lib.hid sb
  unfold maxLen at hcm2
  clear hpn2 sb
  have HV := Lib.hid hv
  clear hv
  have HC := Lib.hid hc
  clear hc
  go_enter Try.func12, Try.ntmps12
  go_wp2
  go_step3
  go_wp2_with (first | (go_at_call 25; refine (dvalid_lit _ ls true _ (SL.out.below (below2 w _ _)) HV.out).mono ?_; rintro e w1 ⟨rfl, hb2⟩; have OC := Lib.hid (((own_at (w := w) [.int .i64 c] 3 rfl).alloc (.cells #[.int .i64 f] 3)).below hb2); have OF := Lib.hid ((own_at (w := w.alloc (.cells #[.int .i64 c] 3)) (n := w.heap.size + 1) [.int .i64 f] 3 (by simp)).below hb2); have B1 := Lib.hid ((below2 w _ _).trans (hb2.mono (below2 w _ _).size)); have SB1 := Lib.hid (SB.out.below B1.out); have cC := OC.out.cell (i := 0) rfl; have cF := OF.out.cell (i := 0) rfl; clear hb2) | (go_at_call 26; refine (node_lit c true _ HC.out).mono ?_; rintro e w2 ⟨rfl, rfl⟩) | fail)
  rw [Exit.noGoto_ret]
  go_ret2
  exact ⟨_, rfl, slt_nil _, B1.out⟩

set_option linter.unusedVariables false in
set_option maxRecDepth 100000 in
set_option maxHeartbeats 2000000 in
theorem learn_t (v u : Value) (ls be : List Dn) (c s f : Int) (w : World) (sl : SlD w v ls) (sb : SlD w u be) (hv : vldD ls = true) (hc : nodB c = true) (h0 : 0 ≤ s) (h1 : s ≤ 1000000000) (h2 : 0 ≤ f) (h3 : f ≤ 999999997) (ht : toldB be = false) :
    Calls Try.prog 12 #[v, .int .i64 c, .int .i64 s, u, .int .i64 f] w fun e w' => LrnP w [] 1 e w' := by
  obtain ⟨p, cap, e, hlc, hcm, hpn⟩ := sl.form ls.length rfl
  subst e
  have SL := Lib.hid sl
  unfold maxLen at hcm
  clear hpn sl
  obtain ⟨p2, cap2, e2, hlc2, hcm2, hpn2⟩ := sb.form be.length rfl
  subst e2
  have SB := Lib.hid sb
  unfold maxLen at hcm2
  clear hpn2 sb
  have HV := Lib.hid hv
  clear hv
  have HC := Lib.hid hc
  clear hc
  have HT := Lib.hid ht
  clear ht
  go_enter Try.func12, Try.ntmps12
  go_wp2
  go_step3
  go_wp2_with (first | (go_at_call 25; refine (dvalid_lit _ ls true _ (SL.out.below (below2 w _ _)) HV.out).mono ?_; rintro e w1 ⟨rfl, hb2⟩; have OC := Lib.hid (((own_at (w := w) [.int .i64 c] 3 rfl).alloc (.cells #[.int .i64 f] 3)).below hb2); have OF := Lib.hid ((own_at (w := w.alloc (.cells #[.int .i64 c] 3)) (n := w.heap.size + 1) [.int .i64 f] 3 (by simp)).below hb2); have B1 := Lib.hid ((below2 w _ _).trans (hb2.mono (below2 w _ _).size)); have SB1 := Lib.hid (SB.out.below B1.out); have cC := OC.out.cell (i := 0) rfl; have cF := OF.out.cell (i := 0) rfl; clear hb2) | (go_at_call 26; refine (node_lit c true _ HC.out).mono ?_; rintro e w2 ⟨rfl, rfl⟩) | (go_at_call 27; refine (told_lit _ be false _ SB1.out HT.out).mono ?_; rintro e w3 ⟨rfl, hb3⟩; have OC3 := Lib.hid (OC.out.below hb3); have OF3 := Lib.hid (OF.out.below hb3); have B3 := Lib.hid (B1.out.trans (hb3.mono B1.out.size)); have SB3 := Lib.hid (SB1.out.below hb3); have cC3 := OC3.out.cell (i := 0) rfl; have cF3 := OF3.out.cell (i := 0) rfl; clear hb3 cC cF) | fail)
  rw [Exit.noGoto_ret]
  go_ret2
  exact ⟨_, rfl, slt_nil _, B3.out⟩

set_option linter.unusedVariables false in
set_option maxRecDepth 100000 in
set_option maxHeartbeats 2000000 in
theorem learn_a (v u : Value) (ls be : List Dn) (c s f : Int) (w : World) (sl : SlD w v ls) (sb : SlD w u be) (hv : vldD ls = true) (hc : nodB c = true) (h0 : 0 ≤ s) (h1 : s ≤ 1000000000) (h2 : 0 ≤ f) (h3 : f ≤ 999999997) (ht : toldB be = true) (ha : be.any (fun d => d.t == c) = true) :
    Calls Try.prog 12 #[v, .int .i64 c, .int .i64 s, u, .int .i64 f] w fun e w' => LrnP w [] 1 e w' := by
  obtain ⟨p, cap, e, hlc, hcm, hpn⟩ := sl.form ls.length rfl
  subst e
  have SL := Lib.hid sl
  unfold maxLen at hcm
  clear hpn sl
  obtain ⟨p2, cap2, e2, hlc2, hcm2, hpn2⟩ := sb.form be.length rfl
  subst e2
  have SB := Lib.hid sb
  unfold maxLen at hcm2
  clear hpn2 sb
  have HV := Lib.hid hv
  clear hv
  have HC := Lib.hid hc
  clear hc
  have HT := Lib.hid ht
  clear ht
  have HA := Lib.hid ha
  clear ha
  go_enter Try.func12, Try.ntmps12
  go_wp2
  go_step3
  go_wp2_with (first | (go_at_call 25; refine (dvalid_lit _ ls true _ (SL.out.below (below2 w _ _)) HV.out).mono ?_; rintro e w1 ⟨rfl, hb2⟩; have OC := Lib.hid (((own_at (w := w) [.int .i64 c] 3 rfl).alloc (.cells #[.int .i64 f] 3)).below hb2); have OF := Lib.hid ((own_at (w := w.alloc (.cells #[.int .i64 c] 3)) (n := w.heap.size + 1) [.int .i64 f] 3 (by simp)).below hb2); have B1 := Lib.hid ((below2 w _ _).trans (hb2.mono (below2 w _ _).size)); have SB1 := Lib.hid (SB.out.below B1.out); have cC := OC.out.cell (i := 0) rfl; have cF := OF.out.cell (i := 0) rfl; clear hb2) | (go_at_call 26; refine (node_lit c true _ HC.out).mono ?_; rintro e w2 ⟨rfl, rfl⟩) | (go_at_call 27; refine (told_lit _ be true _ SB1.out HT.out).mono ?_; rintro e w3 ⟨rfl, hb3⟩; have OC3 := Lib.hid (OC.out.below hb3); have OF3 := Lib.hid (OF.out.below hb3); have B3 := Lib.hid (B1.out.trans (hb3.mono B1.out.size)); have SB3 := Lib.hid (SB1.out.below hb3); have cC3 := OC3.out.cell (i := 0) rfl; have cF3 := OF3.out.cell (i := 0) rfl; clear hb3 cC cF) | (go_at_call 28; refine (cfl_lit _ be w.heap.size c true _ SB3.out OC3.out.lt (OC3.out.cell (i := 0) rfl) HA.out).mono ?_; rintro e w4 ⟨rfl, hb4⟩; have OC4 := Lib.hid (OC3.out.below hb4); have OF4 := Lib.hid (OF3.out.below hb4); have B4 := Lib.hid (B3.out.trans (hb4.mono B3.out.size)); have SB4 := Lib.hid (SB3.out.below hb4); have cC4 := OC4.out.cell (i := 0) rfl; have cF4 := OF4.out.cell (i := 0) rfl; clear hb4 cC3 cF3) | fail)
  rw [Exit.noGoto_ret]
  go_ret2
  exact ⟨_, rfl, slt_nil _, B4.out⟩

theorem learn_bad (v u : Value) (ls be : List Dn) (c s f : Int) (w : World) (sl : SlD w v ls) (sb : SlD w u be) (h : lrnB ls be c s f = false) :
    Calls Try.prog 12 #[v, .int .i64 c, .int .i64 s, u, .int .i64 f] w fun e w' => LrnP w [] 1 e w' := by
  cases hv : vldD ls with
  | false => exact learn_v v u ls be c s f w sl sb hv
  | true =>
    cases hc : nodB c with
    | false => exact learn_c v u ls be c s f w sl sb hv hc
    | true =>
      by_cases h0 : 0 ≤ s
      · by_cases h1 : s ≤ 1000000000
        · by_cases h2 : 0 ≤ f
          · by_cases h3 : f ≤ 999999997
            · cases ht : toldB be with
              | false => exact learn_t v u ls be c s f w sl sb hv hc h0 h1 h2 h3 ht
              | true => exact learn_a v u ls be c s f w sl sb hv hc h0 h1 h2 h3 ht (by rw [lrnB, toldC_any] at h; simpa [hv, hc, h0, h1, h2, h3, ht] using h)
            · exact learn_f1 v u ls be c s f w sl sb hv hc h0 h1 h2 (by omega)
          · exact learn_f0 v u ls be c s f w sl sb hv hc h0 h1 (by omega)
        · exact learn_s1 v u ls be c s f w sl sb hv hc h0 (by omega)
      · exact learn_s0 v u ls be c s f w sl sb hv hc (by omega)

end Go.Proofs.Ytheifmdaladfdaa

/- Contracts of chapter 21: Learn of the reference. -/
import Derived.Test.YtheifmdaladfdaaMake21b
import Derived.Test.YtheifmdaladfdaaPlain21b
namespace Go.Proofs.Ytheifmdaladfdaa
open Go.RowKit

/-- A slice and an error are returned. -/
def LrnP (w : World) (xs : List Dn) (E : Int) (e : Ending) (w' : World) : Prop := ∃ v', e = .returned (.tuple #[v', .int .i64 E]) ∧ SlD w' v' xs ∧ Below w.heap.size w w'
def lrnB (ls be : List Dn) (c s f : Int) : Bool := vldD ls && (nodB c && (decide (0 ≤ s) && (decide (s ≤ 1000000000) && (decide (0 ≤ f) && (decide (f ≤ 999999997) && toldC c be)))))

set_option linter.unusedVariables false in
set_option maxRecDepth 100000 in
set_option maxHeartbeats 2000000 in
theorem rlearn_v (v u : Value) (ls be : List Dn) (c s f : Int) (w : World) (sl : SlD w v ls) (sb : SlD w u be) (hv : vldD ls = false) :
    Calls Try.prog 13 #[v, .int .i64 c, .int .i64 s, u, .int .i64 f] w fun e w' => LrnP w [] 1 e w' := by
  obtain ⟨p, cap, e, hlc, hcm, hpn⟩ := sl.form ls.length rfl
  subst e
  have SL := Lib.hid sl
  unfold maxLen at hcm
  clear hpn sl
  obtain ⟨p2, cap2, e2, hlc2, hcm2, hpn2⟩ := sb.form be.length rfl
  subst e2
  have SB := Lib.hid sb
  unfold maxLen at hcm2
  clear hpn2 sb
  have HV := Lib.hid hv
  clear hv
  go_enter Try.func13, Try.ntmps13
  go_wp2_with (first | (go_at_call 21; refine (rdvalid_lit _ ls false _ SL.out HV.out).mono ?_; rintro e w1 ⟨rfl, hb2⟩; have B1 := Lib.hid hb2; have SB1 := Lib.hid (SB.out.below hb2); clear hb2) | fail)
  go_ret2
  exact ⟨_, rfl, slt_nil _, B1.out⟩

set_option linter.unusedVariables false in
set_option maxRecDepth 100000 in
set_option maxHeartbeats 2000000 in
theorem rlearn_c (v u : Value) (ls be : List Dn) (c s f : Int) (w : World) (sl : SlD w v ls) (sb : SlD w u be) (hv : vldD ls = true) (hc : nodB c = false) :
    Calls Try.prog 13 #[v, .int .i64 c, .int .i64 s, u, .int .i64 f] w fun e w' => LrnP w [] 1 e w' := by
  obtain ⟨p, cap, e, hlc, hcm, hpn⟩ := sl.form ls.length rfl
  subst e
  have SL := Lib.hid sl
  unfold maxLen at hcm
  clear hpn sl
  obtain ⟨p2, cap2, e2, hlc2, hcm2, hpn2⟩ := sb.form be.length rfl
  subst e2
  have SB := Lib.hid sb
  unfold maxLen at hcm2
  clear hpn2 sb
  have HV := Lib.hid hv
  clear hv
  have HC := Lib.hid hc
  clear hc
  go_enter Try.func13, Try.ntmps13
  go_wp2_with (first | (go_at_call 21; refine (rdvalid_lit _ ls true _ SL.out HV.out).mono ?_; rintro e w1 ⟨rfl, hb2⟩; have B1 := Lib.hid hb2; have SB1 := Lib.hid (SB.out.below hb2); clear hb2) | (go_at_call 30; refine (rid_lit c false _ HC.out).mono ?_; rintro e w2 ⟨rfl, rfl⟩) | fail)
  go_ret2
  exact ⟨_, rfl, slt_nil _, B1.out⟩

set_option linter.unusedVariables false in
set_option maxRecDepth 100000 in
set_option maxHeartbeats 2000000 in
theorem rlearn_s0 (v u : Value) (ls be : List Dn) (c s f : Int) (w : World) (sl : SlD w v ls) (sb : SlD w u be) (hv : vldD ls = true) (hc : nodB c = true) (h1 : s < 0) :
    Calls Try.prog 13 #[v, .int .i64 c, .int .i64 s, u, .int .i64 f] w fun e w' => LrnP w [] 1 e w' := by
  obtain ⟨p, cap, e, hlc, hcm, hpn⟩ := sl.form ls.length rfl
  subst e
  have SL := Lib.hid sl
  unfold maxLen at hcm
  clear hpn sl
  obtain ⟨p2, cap2, e2, hlc2, hcm2, hpn2⟩ := sb.form be.length rfl
  subst e2
  have SB := Lib.hid sb
  unfold maxLen at hcm2
  clear hpn2 sb
  have HV := Lib.hid hv
  clear hv
  have HC := Lib.hid hc
  clear hc
  go_enter Try.func13, Try.ntmps13
  go_wp2_with (first | (go_at_call 21; refine (rdvalid_lit _ ls true _ SL.out HV.out).mono ?_; rintro e w1 ⟨rfl, hb2⟩; have B1 := Lib.hid hb2; have SB1 := Lib.hid (SB.out.below hb2); clear hb2) | (go_at_call 30; refine (rid_lit c true _ HC.out).mono ?_; rintro e w2 ⟨rfl, rfl⟩) | fail)
  go_ret2
  exact ⟨_, rfl, slt_nil _, B1.out⟩

set_option linter.unusedVariables false in
set_option maxRecDepth 100000 in
set_option maxHeartbeats 2000000 in
theorem rlearn_s1 (v u : Value) (ls be : List Dn) (c s f : Int) (w : World) (sl : SlD w v ls) (sb : SlD w u be) (hv : vldD ls = true) (hc : nodB c = true) (h0 : 0 ≤ s) (h1 : 1000000000 < s) :
    Calls Try.prog 13 #[v, .int .i64 c, .int .i64 s, u, .int .i64 f] w fun e w' => LrnP w [] 1 e w' := by
  obtain ⟨p, cap, e, hlc, hcm, hpn⟩ := sl.form ls.length rfl
  subst e
  have SL := Lib.hid sl
  unfold maxLen at hcm
  clear hpn sl
  obtain ⟨p2, cap2, e2, hlc2, hcm2, hpn2⟩ := sb.form be.length rfl
  subst e2
  have SB := Lib.hid sb
  unfold maxLen at hcm2
  clear hpn2 sb
  have HV := Lib.hid hv
  clear hv
  have HC := Lib.hid hc
  clear hc
  go_enter Try.func13, Try.ntmps13
  go_wp2_with (first | (go_at_call 21; refine (rdvalid_lit _ ls true _ SL.out HV.out).mono ?_; rintro e w1 ⟨rfl, hb2⟩; have B1 := Lib.hid hb2; have SB1 := Lib.hid (SB.out.below hb2); clear hb2) | (go_at_call 30; refine (rid_lit c true _ HC.out).mono ?_; rintro e w2 ⟨rfl, rfl⟩) | fail)
  go_ret2
  exact ⟨_, rfl, slt_nil _, B1.out⟩

set_option linter.unusedVariables false in
set_option maxRecDepth 100000 in
set_option maxHeartbeats 2000000 in
theorem rlearn_f0 (v u : Value) (ls be : List Dn) (c s f : Int) (w : World) (sl : SlD w v ls) (sb : SlD w u be) (hv : vldD ls = true) (hc : nodB c = true) (h0 : 0 ≤ s) (h1 : s ≤ 1000000000) (h2 : f < 0) :
    Calls Try.prog 13 #[v, .int .i64 c, .int .i64 s, u, .int .i64 f] w fun e w' => LrnP w [] 1 e w' := by
  obtain ⟨p, cap, e, hlc, hcm, hpn⟩ := sl.form ls.length rfl
  subst e
  have SL := Lib.hid sl
  unfold maxLen at hcm
  clear hpn sl
  obtain ⟨p2, cap2, e2, hlc2, hcm2, hpn2⟩ := sb.form be.length rfl
  subst e2
  have SB := Lib.hid sb
  unfold maxLen at hcm2
  clear hpn2 sb
  have HV := Lib.hid hv
  clear hv
  have HC := Lib.hid hc
  clear hc
  go_enter Try.func13, Try.ntmps13
  go_wp2_with (first | (go_at_call 21; refine (rdvalid_lit _ ls true _ SL.out HV.out).mono ?_; rintro e w1 ⟨rfl, hb2⟩; have B1 := Lib.hid hb2; have SB1 := Lib.hid (SB.out.below hb2); clear hb2) | (go_at_call 30; refine (rid_lit c true _ HC.out).mono ?_; rintro e w2 ⟨rfl, rfl⟩) | fail)
  go_ret2
  exact ⟨_, rfl, slt_nil _, B1.out⟩

set_option linter.unusedVariables false in
set_option maxRecDepth 100000 in
set_option maxHeartbeats 2000000 in
theorem rlearn_f1 (v u : Value) (ls be : List Dn) (c s f : Int) (w : World) (sl : SlD w v ls) (sb : SlD w u be) (hv : vldD ls = true) (hc : nodB c = true) (h0 : 0 ≤ s) (h1 : s ≤ 1000000000) (h2 : 0 ≤ f) (h3 : 999999997 < f) :
    Calls Try.prog 13 #[v, .int .i64 c, .int .i64 s, u, .int .i64 f] w fun e w' => LrnP w [] 1 e w' := by
  obtain ⟨p, cap, e, hlc, hcm, hpn⟩ := sl.form ls.length rfl
  subst e
  have SL := Lib.hid sl
  unfold maxLen at hcm
  clear hpn sl
  obtain ⟨p2, cap2, e2, hlc2, hcm2, hpn2⟩ := sb.form be.length rfl
  subst e2
  have SB := Lib.hid sb
  unfold maxLen at hcm2
  clear hpn2 sb
  have HV := Lib.hid hv
  clear hv
  have HC := Lib.hid hc
  clear hc
  go_enter Try.func13, Try.ntmps13
  go_wp2_with (first | (go_at_call 21; refine (rdvalid_lit _ ls true _ SL.out HV.out).mono ?_; rintro e w1 ⟨rfl, hb2⟩; have B1 := Lib.hid hb2; have SB1 := Lib.hid (SB.out.below hb2); clear hb2) | (go_at_call 30; refine (rid_lit c true _ HC.out).mono ?_; rintro e w2 ⟨rfl, rfl⟩) | fail)
  go_ret2
  exact ⟨_, rfl, slt_nil _, B1.out⟩

set_option linter.unusedVariables false in
set_option maxRecDepth 100000 in
set_option maxHeartbeats 2000000 in
theorem rlearn_t (v u : Value) (ls be : List Dn) (c s f : Int) (w : World) (sl : SlD w v ls) (sb : SlD w u be) (hv : vldD ls = true) (hc : nodB c = true) (h0 : 0 ≤ s) (h1 : s ≤ 1000000000) (h2 : 0 ≤ f) (h3 : f ≤ 999999997) (ht : toldC c be = false) :
    Calls Try.prog 13 #[v, .int .i64 c, .int .i64 s, u, .int .i64 f] w fun e w' => LrnP w [] 1 e w' := by
  obtain ⟨p, cap, e, hlc, hcm, hpn⟩ := sl.form ls.length rfl
  subst e
  have SL := Lib.hid sl
  unfold maxLen at hcm
  clear hpn sl
  obtain ⟨p2, cap2, e2, hlc2, hcm2, hpn2⟩ := sb.form be.length rfl
  subst e2
  have SB := Lib.hid sb
  unfold maxLen at hcm2
  clear hpn2 sb
  have HV := Lib.hid hv
  clear hv
  have HC := Lib.hid hc
  clear hc
  have HT := Lib.hid ht
  clear ht
  go_enter Try.func13, Try.ntmps13
  go_wp2_with (first | (go_at_call 21; refine (rdvalid_lit _ ls true _ SL.out HV.out).mono ?_; rintro e w1 ⟨rfl, hb2⟩; have B1 := Lib.hid hb2; have SB1 := Lib.hid (SB.out.below hb2); clear hb2) | (go_at_call 30; refine (rid_lit c true _ HC.out).mono ?_; rintro e w2 ⟨rfl, rfl⟩) | (go_at_call 31; refine (rtold_lit _ be c false _ SB1.out HT.out).mono ?_; rintro e w3 ⟨rfl, hb3⟩; have B2 := Lib.hid (B1.out.trans (hb3.mono B1.out.size)); clear hb3) | fail)
  go_ret2
  exact ⟨_, rfl, slt_nil _, B2.out⟩

theorem rlearn_bad (v u : Value) (ls be : List Dn) (c s f : Int) (w : World) (sl : SlD w v ls) (sb : SlD w u be) (h : lrnB ls be c s f = false) :
    Calls Try.prog 13 #[v, .int .i64 c, .int .i64 s, u, .int .i64 f] w fun e w' => LrnP w [] 1 e w' := by
  cases hv : vldD ls with
  | false => exact rlearn_v v u ls be c s f w sl sb hv
  | true =>
    cases hc : nodB c with
    | false => exact rlearn_c v u ls be c s f w sl sb hv hc
    | true =>
      by_cases h0 : 0 ≤ s
      · by_cases h1 : s ≤ 1000000000
        · by_cases h2 : 0 ≤ f
          · by_cases h3 : f ≤ 999999997
            · exact rlearn_t v u ls be c s f w sl sb hv hc h0 h1 h2 h3 (by simpa [lrnB, hv, hc, h0, h1, h2, h3] using h)
            · exact rlearn_f1 v u ls be c s f w sl sb hv hc h0 h1 h2 (by omega)
          · exact rlearn_f0 v u ls be c s f w sl sb hv hc h0 h1 (by omega)
        · exact rlearn_s1 v u ls be c s f w sl sb hv hc h0 (by omega)
      · exact rlearn_s0 v u ls be c s f w sl sb hv hc (by omega)

theorem idx_get (l : List Dn) (t : Int) : (idxD (fun d => d.t == t) l = -1 ∧ getD' l t = none) ∨ ∃ (k : Nat) (r : Dn), l[k]? = some r ∧ idxD (fun d => d.t == t) l = (k : Int) ∧ getD' l t = some r := by
  rcases idx_cases (fun d => d.t == t) l with ⟨h1, h2⟩ | ⟨k, r, h1, _, h2, _, h3, _⟩
  · exact .inl ⟨h1, getD_none.2 fun d hd e => by
      have : l.any (fun d => d.t == t) = true := List.any_eq_true.2 ⟨d, hd, by simp [e]⟩
      rw [h2] at this; cases this⟩
  · exact .inr ⟨k, r, h1, h2, h3⟩
theorem tgt_len (g : Int → Option Dn) : ∀ n : Nat, (tgtL g n).length ≤ n
  | 0 => Nat.le_refl _
  | n + 1 => by
    have := tgt_len g n
    have h : (g n).toList.length ≤ 1 := by cases g n <;> simp
    rw [tgtL, List.length_append]; omega
theorem ownsRow_belowD {w w' : World} {B k n : Nat} {t : TypeId} {v : Value} {xs : List Value} (h : w.ownsRow B t k v n xs) (hb : Below w.heap.size w w') : w'.ownsRow B t k v n xs := by
  obtain ⟨hl, h⟩ := h
  refine ⟨hl, ?_⟩
  rcases h with h | ⟨g, cap, cur, hv, hbg, hg, h1, h2, h3, h4⟩
  · exact .inl h
  · exact .inr ⟨g, cap, cur, hv, hbg, by rw [hb.block g (Array.getElem?_eq_some_iff.1 hg).1]; exact hg, h1, h2, h3, h4⟩
theorem newsTn {α : Type} {L : Lay α} {w : World} {n : Nat} (hn : n = w.heap.size) (a : α) (t : TypeId) : ∀ j u, (L.f a)[j]? = some u → (w.alloc (.cells (L.f a).toArray t)).cell? ((⟨n, 0, none⟩ : Addr).add j) = some u := fun j u h => by
  subst hn; exact newsT (L := L) w a t j u h
theorem newsT1 {α : Type} {L : Lay α} (w : World) (O : Obj) (a : α) (t : TypeId) : ∀ j u, (L.f a)[j]? = some u → ((w.alloc O).alloc (.cells (L.f a).toArray t)).cell? ((⟨w.heap.size + 1, 0, none⟩ : Addr).add j) = some u := fun j u h => by
  have := newsT (L := L) (w.alloc O) a t j u h
  rwa [show (w.alloc O).heap.size = w.heap.size + 1 by simp] at this

set_option linter.unusedVariables false in
set_option maxRecDepth 100000 in
set_option maxHeartbeats 20000000 in
theorem rlearn_good (v u : Value) (ls be : List Dn) (c s f : Int) (w : World) (sl : SlD w v ls) (sb : SlD w u be) (h70 : ls.length ≤ 70) (g70 : be.length ≤ 70) (h : lrnB ls be c s f = true) :
    Calls Try.prog 13 #[v, .int .i64 c, .int .i64 s, u, .int .i64 f] w fun e w' => LrnP w (lrL ls be c s f) 0 e w' := by
  obtain ⟨p, cap, e, hlc, hcm, hpn⟩ := sl.form ls.length rfl
  subst e
  have SL := Lib.hid sl
  unfold maxLen at hcm
  clear hpn sl
  obtain ⟨p2, cap2, e2, hlc2, hcm2, hpn2⟩ := sb.form be.length rfl
  subst e2
  have SB := Lib.hid sb
  unfold maxLen at hcm2
  clear hpn2 sb
  simp only [lrnB, Bool.and_eq_true, decide_eq_true_eq] at h
  obtain ⟨hv, hc, h0, h1, h2, h3, ht⟩ := h
  obtain ⟨c0, c1⟩ := nodB_iff.1 hc
  have HV := Lib.hid hv
  have HC := Lib.hid hc
  have HT := Lib.hid ht
  clear hv hc ht
  obtain ⟨i0, hi, hz, hs0, hb0⟩ := info_parts info_dn
  have IF := Lib.hid (And.intro hi (And.intro hz (And.intro hs0 hb0)))
  clear hi hz hs0 hb0
  go_enter Try.func13, Try.ntmps13
  go_wp2_with (first | (go_at_call 21; refine (rdvalid_lit _ ls true _ SL.out HV.out).mono ?_; rintro e w1 ⟨rfl, hb2⟩; have B1 := Lib.hid hb2; have SB1 := Lib.hid (SB.out.below hb2); clear hb2) | (go_at_call 30; refine (rid_lit c true _ HC.out).mono ?_; rintro e w2 ⟨rfl, rfl⟩) | (go_at_call 31; refine (rtold_lit _ be c true _ SB1.out HT.out).mono ?_; rintro e w3 ⟨rfl, hb3⟩; have B2 := Lib.hid (B1.out.trans (hb3.mono B1.out.size)); clear hb3) | fail)
  go_loopw [12, 13] (fun out ii wr => ∃ (i : Nat), i ≤ 60 ∧ ii = .int .i64 i ∧ wr.ownsRow w3.heap.size 35 4 out (tgtL (lrOf ls be c s f) i).length (flatT dnL (tgtL (lrOf ls be c s f) i)) ∧ Below w3.heap.size w3 wr) (fun _ i _ => 60 - (intOf i).toNat)
  case atStart => exact ⟨0, by omega, rfl, World.ownsRow_nil _ _ _ _, Below.refl _ _⟩
  case round =>
    obtain ⟨i, hi, rfl, hown, bel⟩ := hrel
    have hq60 := tgt_len (lrOf ls be c s f) i
    have BE := Lib.hid bel
    have hwz := bel.size
    have BT := Lib.hid (B2.out.trans (bel.mono B2.out.size))
    have SLR := Lib.hid (SL.out.below BT.out)
    have SBR := Lib.hid (SB.out.below BT.out)
    have HN := Lib.hid (show tgtL (lrOf ls be c s f) (i + 1) = tgtL (lrOf ls be c s f) i ++ ((lrOf ls be c s f) i).toList from rfl)
    by_cases hlt : i < 60
    · obtain ⟨qs, hqs⟩ : ∃ qs, tgtL (lrOf ls be c s f) i = qs := ⟨_, rfl⟩
      rw [hqs] at hown hq60 HN
      have HOWN := Lib.hid hown
      clear hown bel hqs
      have j0 : (0 : Int) ≤ (i : Int) := Int.natCast_nonneg _
      have j1 : (i : Int) < 60 := by omega
      rcases idx_get be i with ⟨b1, b2⟩ | ⟨kb, b, b0, b1, b2⟩
      · replace b1 := Lib.hid b1
        replace b2 := Lib.hid b2
        by_cases hic : (i : Int) = c
        · have hic1 : ((i : Int) != c) = false := by simp [hic]
          have HIN := Lib.hid (show lrIn be c i = true by rw [lrIn, b2.out]; simp [hic])
          have HS := Lib.hid (show lrN be c s f i = ⟨i, c, s, f + 3⟩ by rw [lrN, b2.out]; rfl)
          clear hic
          rcases idx_get ls i with ⟨l1, l2⟩ | ⟨kl, o, l0, l1, l2⟩
          · have L1 := Lib.hid l1
            have HGI := Lib.hid (show lrOf ls be c s f i = some (⟨i, c, s, f + 3⟩ : Dn) by rw [lrOf, if_pos HIN.out, l2, HS.out])
            clear l1 l2
            go_wp2_with fail
            refine (rfind_lit _ ls _ (-1) _ SLR.out L1.out).mono ?_
            rintro e w4 ⟨rfl, rfl⟩
            go_wp2_with fail
            refine (rfind_lit _ be _ (-1) _ SBR.out b1.out).mono ?_
            rintro e w5 ⟨rfl, rfl⟩
            go_wp2_with fail
            have oN : Own (wr.alloc (.cells #[.int .i64 i, .int .i64 c, .int .i64 s, .int .i64 (f + 3)] 35)) wr.heap.size [.int .i64 i, .int .i64 c, .int .i64 s, .int .i64 (f + 3)] 35 := own_at _ _ rfl
            have BB := Lib.hid ((Below.refl wr.heap.size wr).alloc (Nat.le_refl _) (.cells #[.int .i64 i, .int .i64 c, .int .i64 s, .int .i64 (f + 3)] 35))
            generalize wr.alloc (.cells #[.int .i64 i, .int .i64 c, .int .i64 s, .int .i64 (f + 3)] 35) = w6 at oN BB ⊢
            have pN0 := fun x : Past w6 => (oN.past x).cell (i := 0) rfl
            have pN1 := fun x : Past w6 => (oN.past x).cell (i := 1) rfl
            have pN2 := fun x : Past w6 => (oN.past x).cell (i := 2) rfl
            have pN3 := fun x : Past w6 => (oN.past x).cell (i := 3) rfl
            refine wp_region_past (by kernel_rfl) (by kernel_rfl) ?_
            repeat (go_big_quiet_step (fail))
            refine wpQuiet_nil ?_
            rintro _ ⟨x, rfl⟩
            have oN7 := oN.past x
            have BB7 := Lib.hid (show Below wr.heap.size wr (past w6 x) from BB.out.trans (x.h.mono BB.out.size))
            clear pN0 pN1 pN2 pN3 oN 
            generalize past w6 x = w7 at oN7 BB7 ⊢
            obtain ⟨n0, n1, n2, n3, fN, zN⟩ := own4 oN7
            have HO7 := Lib.hid (ownsRow_belowD HOWN.out BB7.out)
            have B7 := Lib.hid (BE.out.trans (BB7.out.mono hwz))
            have hw7 := B7.out.size
            go_wp2_with (at_builtin; refine wpList_append_own _ rfl _ _ 22 rfl w3.heap.size 35 i0 _ 4 32 (by kernel_rfl) IF.out.1 IF.out.2.1 IF.out.2.2.1 IF.out.2.2.2 rfl (by decide) _ qs.length (flatT dnL qs) rfl (HO7.out.alloc _) ⟨w7.heap.size, 0, none⟩ 1 1 (dnL.f (⟨i, c, s, f + 3⟩ : Dn)) rfl rfl (newsTn (L := dnL) (w := w7) (by simp) (⟨i, c, s, f + 3⟩ : Dn) 35) (dnL.one _) ?qc4 ?qc5 ?qc6 ?_)
            case qc4 => unfold maxLen; omega
            case qc5 => omega
            case qc6 => first | omega | (simp; omega)
            intro v2 w9 hown hgrow hnil
            have B9 := Lib.hid ((B7.out.alloc B7.out.size (.cells (dnL.f (⟨i, c, s, f + 3⟩ : Dn)).toArray 35)).grown hgrow (by simp; omega) (fun k hk => (HO7.out.lt k hk).1))
            have H9 := Lib.hid hown
            clear hown hgrow hnil
            go_wp2_with fail
            go_roundw
            case rel => exact ⟨i + 1, by omega, by go_num, by have := H9.out; rw [HN.out, HGI.out, Option.toList_some, flatT_append, flatT_one, List.length_append]; simpa using this, B9.out⟩
            case measure => simp [intOf]; omega
          · have L1 := Lib.hid l1
            have L2 := Lib.hid l2
            have hkl : kl < ls.length := (List.getElem?_eq_some_iff.1 l0).1
            have HL0 := Lib.hid l0
            clear l1 l2 l0
            obtain ⟨o', bl, ol, ho, e1, hbl, _, d0, d1, d2, d3⟩ := SLR.out.at4 (Below.refl _ _) hkl
            cases e1
            obtain rfl : o = o' := by rw [HL0.out] at ho; exact Option.some.inj ho
            clear ho
            have k0 : (0 : Int) ≤ (kl : Int) := Int.natCast_nonneg _
            have k1 : (kl : Int) < (ls.length : Int) := by omega
            by_cases hk1 : o.n = c
            · have HGI := Lib.hid (show lrOf ls be c s f i = some (⟨i, c, s, f + 3⟩ : Dn) by rw [lrOf, if_pos HIN.out, L2.out]; simp only [HS.out]; rw [if_neg (by simp [lrKeep, hk1])])
              have hk3 : (o.n != c) = false := by simp [hk1]
              clear hk1
              go_wp2_with fail
              refine (rfind_lit _ ls _ ((kl : Int)) _ SLR.out L1.out).mono ?_
              rintro e w4 ⟨rfl, rfl⟩
              go_wp2_with fail
              refine (rfind_lit _ be _ (-1) _ SBR.out b1.out).mono ?_
              rintro e w5 ⟨rfl, rfl⟩
              go_wp2_with fail
              have oN : Own (wr.alloc (.cells #[.int .i64 i, .int .i64 c, .int .i64 s, .int .i64 (f + 3)] 35)) wr.heap.size [.int .i64 i, .int .i64 c, .int .i64 s, .int .i64 (f + 3)] 35 := own_at _ _ rfl
              have BB := Lib.hid ((Below.refl wr.heap.size wr).alloc (Nat.le_refl _) (.cells #[.int .i64 i, .int .i64 c, .int .i64 s, .int .i64 (f + 3)] 35))
              have hbl6 : bl < (wr.alloc (.cells #[.int .i64 i, .int .i64 c, .int .i64 s, .int .i64 (f + 3)] 35)).heap.size := Nat.lt_of_lt_of_le hbl BB.out.size
              have e0 := (BB.out.cell (p := ⟨bl, ol + kl * 4, none⟩) hbl).trans d0
              have e1 := (BB.out.cell (p := ⟨bl, ol + kl * 4 + 1, none⟩) hbl).trans d1
              have e2 := (BB.out.cell (p := ⟨bl, ol + kl * 4 + 2, none⟩) hbl).trans d2
              have e3 := (BB.out.cell (p := ⟨bl, ol + kl * 4 + 3, none⟩) hbl).trans d3
              clear d0 d1 d2 d3
              generalize wr.alloc (.cells #[.int .i64 i, .int .i64 c, .int .i64 s, .int .i64 (f + 3)] 35) = w6 at oN BB hbl6 e0 e1 e2 e3 ⊢
              have pN0 := fun x : Past w6 => (oN.past x).cell (i := 0) rfl
              have pN1 := fun x : Past w6 => (oN.past x).cell (i := 1) rfl
              have pN2 := fun x : Past w6 => (oN.past x).cell (i := 2) rfl
              have pN3 := fun x : Past w6 => (oN.past x).cell (i := 3) rfl
              have pe0 := fun x : Past w6 => past_cell x e0 hbl6
              have pe1 := fun x : Past w6 => past_cell x e1 hbl6
              have pe2 := fun x : Past w6 => past_cell x e2 hbl6
              have pe3 := fun x : Past w6 => past_cell x e3 hbl6
              refine wp_region_past (by kernel_rfl) (by kernel_rfl) ?_
              repeat (go_big_quiet_step (fail))
              refine wpQuiet_nil ?_
              rintro _ ⟨x, rfl⟩
              have oN7 := oN.past x
              have BB7 := Lib.hid (show Below wr.heap.size wr (past w6 x) from BB.out.trans (x.h.mono BB.out.size))
              have q0 := pe0 x
              have q1 := pe1 x
              have q2 := pe2 x
              have q3 := pe3 x
              clear pN0 pN1 pN2 pN3 oN pe0 pe1 pe2 pe3 e0 e1 e2 e3 hbl6
              generalize past w6 x = w7 at oN7 BB7 q0 q1 q2 q3 ⊢
              obtain ⟨n0, n1, n2, n3, fN, zN⟩ := own4 oN7
              have HO7 := Lib.hid (ownsRow_belowD HOWN.out BB7.out)
              have B7 := Lib.hid (BE.out.trans (BB7.out.mono hwz))
              have hw7 := B7.out.size
              go_wp2_with (at_builtin; refine wpList_append_own _ rfl _ _ 22 rfl w3.heap.size 35 i0 _ 4 32 (by kernel_rfl) IF.out.1 IF.out.2.1 IF.out.2.2.1 IF.out.2.2.2 rfl (by decide) _ qs.length (flatT dnL qs) rfl (HO7.out.alloc _) ⟨w7.heap.size, 0, none⟩ 1 1 (dnL.f (⟨i, c, s, f + 3⟩ : Dn)) rfl rfl (newsTn (L := dnL) (w := w7) (by simp) (⟨i, c, s, f + 3⟩ : Dn) 35) (dnL.one _) ?qc4 ?qc5 ?qc6 ?_)
              case qc4 => unfold maxLen; omega
              case qc5 => omega
              case qc6 => first | omega | (simp; omega)
              intro v2 w9 hown hgrow hnil
              have B9 := Lib.hid ((B7.out.alloc B7.out.size (.cells (dnL.f (⟨i, c, s, f + 3⟩ : Dn)).toArray 35)).grown hgrow (by simp; omega) (fun k hk => (HO7.out.lt k hk).1))
              have H9 := Lib.hid hown
              clear hown hgrow hnil
              go_wp2_with fail
              go_roundw
              case rel => exact ⟨i + 1, by omega, by go_num, by have := H9.out; rw [HN.out, HGI.out, Option.toList_some, flatT_append, flatT_one, List.length_append]; simpa using this, B9.out⟩
              case measure => simp [intOf]; omega
            · by_cases hk2 : s ≤ o.s
              · have HGI := Lib.hid (show lrOf ls be c s f i = some o by rw [lrOf, if_pos HIN.out, L2.out]; simp only [HS.out]; rw [if_pos (by simp [lrKeep, hk1, hk2])])
                have hk3 : (o.n != c) = true := by simp [hk1]
                clear hk1
                go_wp2_with fail
                refine (rfind_lit _ ls _ ((kl : Int)) _ SLR.out L1.out).mono ?_
                rintro e w4 ⟨rfl, rfl⟩
                go_wp2_with fail
                refine (rfind_lit _ be _ (-1) _ SBR.out b1.out).mono ?_
                rintro e w5 ⟨rfl, rfl⟩
                go_wp2_with fail
                have oN : Own (wr.alloc (.cells #[.int .i64 i, .int .i64 c, .int .i64 s, .int .i64 (f + 3)] 35)) wr.heap.size [.int .i64 i, .int .i64 c, .int .i64 s, .int .i64 (f + 3)] 35 := own_at _ _ rfl
                have BB := Lib.hid ((Below.refl wr.heap.size wr).alloc (Nat.le_refl _) (.cells #[.int .i64 i, .int .i64 c, .int .i64 s, .int .i64 (f + 3)] 35))
                have hbl6 : bl < (wr.alloc (.cells #[.int .i64 i, .int .i64 c, .int .i64 s, .int .i64 (f + 3)] 35)).heap.size := Nat.lt_of_lt_of_le hbl BB.out.size
                have e0 := (BB.out.cell (p := ⟨bl, ol + kl * 4, none⟩) hbl).trans d0
                have e1 := (BB.out.cell (p := ⟨bl, ol + kl * 4 + 1, none⟩) hbl).trans d1
                have e2 := (BB.out.cell (p := ⟨bl, ol + kl * 4 + 2, none⟩) hbl).trans d2
                have e3 := (BB.out.cell (p := ⟨bl, ol + kl * 4 + 3, none⟩) hbl).trans d3
                clear d0 d1 d2 d3
                generalize wr.alloc (.cells #[.int .i64 i, .int .i64 c, .int .i64 s, .int .i64 (f + 3)] 35) = w6 at oN BB hbl6 e0 e1 e2 e3 ⊢
                have pN0 := fun x : Past w6 => (oN.past x).cell (i := 0) rfl
                have pN1 := fun x : Past w6 => (oN.past x).cell (i := 1) rfl
                have pN2 := fun x : Past w6 => (oN.past x).cell (i := 2) rfl
                have pN3 := fun x : Past w6 => (oN.past x).cell (i := 3) rfl
                have pe0 := fun x : Past w6 => past_cell x e0 hbl6
                have pe1 := fun x : Past w6 => past_cell x e1 hbl6
                have pe2 := fun x : Past w6 => past_cell x e2 hbl6
                have pe3 := fun x : Past w6 => past_cell x e3 hbl6
                refine wp_region_past (by kernel_rfl) (by kernel_rfl) ?_
                repeat (go_big_quiet_step (fail))
                refine wpQuiet_nil ?_
                rintro _ ⟨x, rfl⟩
                have oN7 := oN.past x
                have BB7 := Lib.hid (show Below wr.heap.size wr (past w6 x) from BB.out.trans (x.h.mono BB.out.size))
                have q0 := pe0 x
                have q1 := pe1 x
                have q2 := pe2 x
                have q3 := pe3 x
                clear pN0 pN1 pN2 pN3 oN pe0 pe1 pe2 pe3 e0 e1 e2 e3 hbl6
                generalize past w6 x = w7 at oN7 BB7 q0 q1 q2 q3 ⊢
                obtain ⟨n0, n1, n2, n3, fN, zN⟩ := own4 oN7
                have BB8 := Lib.hid (show Below wr.heap.size wr ((((w7.setCell ⟨wr.heap.size, 0, none⟩ (.int .i64 o.t)).setCell ⟨wr.heap.size, 1, none⟩ (.int .i64 o.n)).setCell ⟨wr.heap.size, 2, none⟩ (.int .i64 o.s)).setCell ⟨wr.heap.size, 3, none⟩ (.int .i64 o.u)) from belowSet' (belowSet' (belowSet' (belowSet' BB7.out _ _ _ (Nat.le_refl _)) _ _ _ (Nat.le_refl _)) _ _ _ (Nat.le_refl _)) _ _ _ (Nat.le_refl _))
                have HO7 := Lib.hid (ownsRow_belowD HOWN.out BB8.out)
                have B7 := Lib.hid (BE.out.trans (BB8.out.mono hwz))
                have hw7 := B7.out.size
                go_wp2_with (at_builtin; refine wpList_append_own _ rfl _ _ 22 rfl w3.heap.size 35 i0 _ 4 32 (by kernel_rfl) IF.out.1 IF.out.2.1 IF.out.2.2.1 IF.out.2.2.2 rfl (by decide) _ qs.length (flatT dnL qs) rfl (HO7.out.alloc _) ⟨w7.heap.size, 0, none⟩ 1 1 (dnL.f o) rfl rfl (newsTn (L := dnL) (w := ((((w7.setCell ⟨wr.heap.size, 0, none⟩ (.int .i64 o.t)).setCell ⟨wr.heap.size, 1, none⟩ (.int .i64 o.n)).setCell ⟨wr.heap.size, 2, none⟩ (.int .i64 o.s)).setCell ⟨wr.heap.size, 3, none⟩ (.int .i64 o.u))) (by simp) o 35) (dnL.one _) ?qc4 ?qc5 ?qc6 ?_)
                case qc4 => unfold maxLen; omega
                case qc5 => omega
                case qc6 => first | omega | (simp; omega)
                intro v2 w9 hown hgrow hnil
                have B9 := Lib.hid ((B7.out.alloc B7.out.size (.cells (dnL.f o).toArray 35)).grown hgrow (by simp; omega) (fun k hk => (HO7.out.lt k hk).1))
                have H9 := Lib.hid hown
                clear hown hgrow hnil
                go_wp2_with fail
                go_roundw
                case rel => exact ⟨i + 1, by omega, by go_num, by have := H9.out; rw [HN.out, HGI.out, Option.toList_some, flatT_append, flatT_one, List.length_append]; simpa using this, B9.out⟩
                case measure => simp [intOf]; omega
              · have HGI := Lib.hid (show lrOf ls be c s f i = some (⟨i, c, s, f + 3⟩ : Dn) by rw [lrOf, if_pos HIN.out, L2.out]; simp only [HS.out]; rw [if_neg (by simp [lrKeep, hk2])])
                have hk3 : (o.n != c) = true := by simp [hk1]
                clear hk1
                go_wp2_with fail
                refine (rfind_lit _ ls _ ((kl : Int)) _ SLR.out L1.out).mono ?_
                rintro e w4 ⟨rfl, rfl⟩
                go_wp2_with fail
                refine (rfind_lit _ be _ (-1) _ SBR.out b1.out).mono ?_
                rintro e w5 ⟨rfl, rfl⟩
                go_wp2_with fail
                have oN : Own (wr.alloc (.cells #[.int .i64 i, .int .i64 c, .int .i64 s, .int .i64 (f + 3)] 35)) wr.heap.size [.int .i64 i, .int .i64 c, .int .i64 s, .int .i64 (f + 3)] 35 := own_at _ _ rfl
                have BB := Lib.hid ((Below.refl wr.heap.size wr).alloc (Nat.le_refl _) (.cells #[.int .i64 i, .int .i64 c, .int .i64 s, .int .i64 (f + 3)] 35))
                have hbl6 : bl < (wr.alloc (.cells #[.int .i64 i, .int .i64 c, .int .i64 s, .int .i64 (f + 3)] 35)).heap.size := Nat.lt_of_lt_of_le hbl BB.out.size
                have e0 := (BB.out.cell (p := ⟨bl, ol + kl * 4, none⟩) hbl).trans d0
                have e1 := (BB.out.cell (p := ⟨bl, ol + kl * 4 + 1, none⟩) hbl).trans d1
                have e2 := (BB.out.cell (p := ⟨bl, ol + kl * 4 + 2, none⟩) hbl).trans d2
                have e3 := (BB.out.cell (p := ⟨bl, ol + kl * 4 + 3, none⟩) hbl).trans d3
                clear d0 d1 d2 d3
                generalize wr.alloc (.cells #[.int .i64 i, .int .i64 c, .int .i64 s, .int .i64 (f + 3)] 35) = w6 at oN BB hbl6 e0 e1 e2 e3 ⊢
                have pN0 := fun x : Past w6 => (oN.past x).cell (i := 0) rfl
                have pN1 := fun x : Past w6 => (oN.past x).cell (i := 1) rfl
                have pN2 := fun x : Past w6 => (oN.past x).cell (i := 2) rfl
                have pN3 := fun x : Past w6 => (oN.past x).cell (i := 3) rfl
                have pe0 := fun x : Past w6 => past_cell x e0 hbl6
                have pe1 := fun x : Past w6 => past_cell x e1 hbl6
                have pe2 := fun x : Past w6 => past_cell x e2 hbl6
                have pe3 := fun x : Past w6 => past_cell x e3 hbl6
                refine wp_region_past (by kernel_rfl) (by kernel_rfl) ?_
                repeat (go_big_quiet_step (fail))
                refine wpQuiet_nil ?_
                rintro _ ⟨x, rfl⟩
                have oN7 := oN.past x
                have BB7 := Lib.hid (show Below wr.heap.size wr (past w6 x) from BB.out.trans (x.h.mono BB.out.size))
                have q0 := pe0 x
                have q1 := pe1 x
                have q2 := pe2 x
                have q3 := pe3 x
                clear pN0 pN1 pN2 pN3 oN pe0 pe1 pe2 pe3 e0 e1 e2 e3 hbl6
                generalize past w6 x = w7 at oN7 BB7 q0 q1 q2 q3 ⊢
                obtain ⟨n0, n1, n2, n3, fN, zN⟩ := own4 oN7
                have HO7 := Lib.hid (ownsRow_belowD HOWN.out BB7.out)
                have B7 := Lib.hid (BE.out.trans (BB7.out.mono hwz))
                have hw7 := B7.out.size
                go_wp2_with (at_builtin; refine wpList_append_own _ rfl _ _ 22 rfl w3.heap.size 35 i0 _ 4 32 (by kernel_rfl) IF.out.1 IF.out.2.1 IF.out.2.2.1 IF.out.2.2.2 rfl (by decide) _ qs.length (flatT dnL qs) rfl (HO7.out.alloc _) ⟨w7.heap.size, 0, none⟩ 1 1 (dnL.f (⟨i, c, s, f + 3⟩ : Dn)) rfl rfl (newsTn (L := dnL) (w := w7) (by simp) (⟨i, c, s, f + 3⟩ : Dn) 35) (dnL.one _) ?qc4 ?qc5 ?qc6 ?_)
                case qc4 => unfold maxLen; omega
                case qc5 => omega
                case qc6 => first | omega | (simp; omega)
                intro v2 w9 hown hgrow hnil
                have B9 := Lib.hid ((B7.out.alloc B7.out.size (.cells (dnL.f (⟨i, c, s, f + 3⟩ : Dn)).toArray 35)).grown hgrow (by simp; omega) (fun k hk => (HO7.out.lt k hk).1))
                have H9 := Lib.hid hown
                clear hown hgrow hnil
                go_wp2_with fail
                go_roundw
                case rel => exact ⟨i + 1, by omega, by go_num, by have := H9.out; rw [HN.out, HGI.out, Option.toList_some, flatT_append, flatT_one, List.length_append]; simpa using this, B9.out⟩
                case measure => simp [intOf]; omega
        · have hic1 : ((i : Int) != c) = true := by simp [hic]
          have HIN := Lib.hid (show lrIn be c i = false by rw [lrIn, b2.out]; simp [hic])
          clear hic
          rcases idx_get ls i with ⟨l1, l2⟩ | ⟨kl, o, l0, l1, l2⟩
          · have L1 := Lib.hid l1
            have HGI := Lib.hid (show lrOf ls be c s f i = none by rw [lrOf, if_neg (by rw [HIN.out]; simp), l2])
            clear l1 l2
            go_wp2_with fail
            refine (rfind_lit _ ls _ (-1) _ SLR.out L1.out).mono ?_
            rintro e w4 ⟨rfl, rfl⟩
            go_wp2_with fail
            refine (rfind_lit _ be _ (-1) _ SBR.out b1.out).mono ?_
            rintro e w5 ⟨rfl, rfl⟩
            go_wp2_with fail
            go_roundw
            case rel => exact ⟨i + 1, by omega, by go_num, by rw [HN.out, HGI.out]; simpa using HOWN.out.alloc _, BE.out.alloc BE.out.size _⟩
            case measure => simp [intOf]; omega
          · have L1 := Lib.hid l1
            have HGI := Lib.hid (show lrOf ls be c s f i = some o by rw [lrOf, if_neg (by rw [HIN.out]; simp), l2])
            have hkl : kl < ls.length := (List.getElem?_eq_some_iff.1 l0).1
            have HL0 := Lib.hid l0
            clear l1 l2 l0
            obtain ⟨o', bl, ol, ho, e1, hbl, _, d0, d1, d2, d3⟩ := SLR.out.at4 (Below.refl _ _) hkl
            cases e1
            obtain rfl : o = o' := by rw [HL0.out] at ho; exact Option.some.inj ho
            clear ho
            have k0 : (0 : Int) ≤ (kl : Int) := Int.natCast_nonneg _
            have k1 : (kl : Int) < (ls.length : Int) := by omega
            go_wp2_with fail
            refine (rfind_lit _ ls _ ((kl : Int)) _ SLR.out L1.out).mono ?_
            rintro e w4 ⟨rfl, rfl⟩
            go_wp2_with fail
            refine (rfind_lit _ be _ (-1) _ SBR.out b1.out).mono ?_
            rintro e w5 ⟨rfl, rfl⟩
            go_wp2_with (at_builtin; refine wpList_append_own _ rfl _ _ 22 rfl w3.heap.size 35 i0 _ 4 32 (by kernel_rfl) IF.out.1 IF.out.2.1 IF.out.2.2.1 IF.out.2.2.2 rfl (by decide) _ qs.length (flatT dnL qs) rfl ((HOWN.out.alloc (.cells #[.int .i64 i, .int .i64 c, .int .i64 s, .int .i64 (f + 3)] 35)).alloc _) ⟨wr.heap.size + 1, 0, none⟩ 1 1 (dnL.f o) rfl rfl (newsT1 (L := dnL) wr (.cells #[.int .i64 i, .int .i64 c, .int .i64 s, .int .i64 (f + 3)] 35) o 35) (dnL.one _) ?qc4 ?qc5 ?qc6 ?_)
            case qc4 => unfold maxLen; omega
            case qc5 => omega
            case qc6 => first | omega | (simp; omega)
            intro v2 w5 hown hgrow hnil
            have B5 := Lib.hid (((BE.out.alloc BE.out.size (.cells #[.int .i64 i, .int .i64 c, .int .i64 s, .int .i64 (f + 3)] 35)).alloc (by simp; omega) (.cells (dnL.f o).toArray 35)).grown hgrow (by simp; omega) (fun k hk => (HOWN.out.lt k hk).1))
            have H5 := Lib.hid hown
            clear hown hgrow hnil
            go_wp2_with fail
            go_roundw
            case rel => exact ⟨i + 1, by omega, by go_num, by have := H5.out; rw [HN.out, HGI.out, Option.toList_some, flatT_append, flatT_one, List.length_append]; simpa using this, B5.out⟩
            case measure => simp [intOf]; omega
      · replace b1 := Lib.hid b1
        replace b2 := Lib.hid b2
        have HIN := Lib.hid (show lrIn be c i = true by rw [lrIn, b2.out]; rfl)
        have HS := Lib.hid (show lrN be c s f i = ⟨i, c, b.s, f + 3⟩ by rw [lrN, b2.out]; rfl)
        have HB0 := Lib.hid b0
        have hkb : kb < be.length := (List.getElem?_eq_some_iff.1 b0).1
        clear b0
        obtain ⟨b', bb, ob, hbo, e1, hbb, _, s0, s1, s2, s3⟩ := SBR.out.at4 (Below.refl _ _) hkb
        cases e1
        obtain rfl : b = b' := by rw [HB0.out] at hbo; exact Option.some.inj hbo
        clear hbo s0 s1 s3
        have kb0 : (0 : Int) ≤ (kb : Int) := Int.natCast_nonneg _
        have kb1 : (kb : Int) < (be.length : Int) := by omega
        rcases idx_get ls i with ⟨l1, l2⟩ | ⟨kl, o, l0, l1, l2⟩
        · have L1 := Lib.hid l1
          have HGI := Lib.hid (show lrOf ls be c s f i = some (⟨i, c, b.s, f + 3⟩ : Dn) by rw [lrOf, if_pos HIN.out, l2, HS.out])
          clear l1 l2
          go_wp2_with fail
          refine (rfind_lit _ ls _ (-1) _ SLR.out L1.out).mono ?_
          rintro e w4 ⟨rfl, rfl⟩
          go_wp2_with fail
          refine (rfind_lit _ be _ ((kb : Int)) _ SBR.out b1.out).mono ?_
          rintro e w5 ⟨rfl, rfl⟩
          go_wp2_with fail
          have oN : Own (wr.alloc (.cells #[.int .i64 i, .int .i64 c, .int .i64 b.s, .int .i64 (f + 3)] 35)) wr.heap.size [.int .i64 i, .int .i64 c, .int .i64 b.s, .int .i64 (f + 3)] 35 := own_at _ _ rfl
          have BB := Lib.hid ((Below.refl wr.heap.size wr).alloc (Nat.le_refl _) (.cells #[.int .i64 i, .int .i64 c, .int .i64 b.s, .int .i64 (f + 3)] 35))
          generalize wr.alloc (.cells #[.int .i64 i, .int .i64 c, .int .i64 b.s, .int .i64 (f + 3)] 35) = w6 at oN BB ⊢
          have pN0 := fun x : Past w6 => (oN.past x).cell (i := 0) rfl
          have pN1 := fun x : Past w6 => (oN.past x).cell (i := 1) rfl
          have pN2 := fun x : Past w6 => (oN.past x).cell (i := 2) rfl
          have pN3 := fun x : Past w6 => (oN.past x).cell (i := 3) rfl
          refine wp_region_past (by kernel_rfl) (by kernel_rfl) ?_
          repeat (go_big_quiet_step (fail))
          refine wpQuiet_nil ?_
          rintro _ ⟨x, rfl⟩
          have oN7 := oN.past x
          have BB7 := Lib.hid (show Below wr.heap.size wr (past w6 x) from BB.out.trans (x.h.mono BB.out.size))
          clear pN0 pN1 pN2 pN3 oN 
          generalize past w6 x = w7 at oN7 BB7 ⊢
          obtain ⟨n0, n1, n2, n3, fN, zN⟩ := own4 oN7
          have HO7 := Lib.hid (ownsRow_belowD HOWN.out BB7.out)
          have B7 := Lib.hid (BE.out.trans (BB7.out.mono hwz))
          have hw7 := B7.out.size
          go_wp2_with (at_builtin; refine wpList_append_own _ rfl _ _ 22 rfl w3.heap.size 35 i0 _ 4 32 (by kernel_rfl) IF.out.1 IF.out.2.1 IF.out.2.2.1 IF.out.2.2.2 rfl (by decide) _ qs.length (flatT dnL qs) rfl (HO7.out.alloc _) ⟨w7.heap.size, 0, none⟩ 1 1 (dnL.f (⟨i, c, b.s, f + 3⟩ : Dn)) rfl rfl (newsTn (L := dnL) (w := w7) (by simp) (⟨i, c, b.s, f + 3⟩ : Dn) 35) (dnL.one _) ?qc4 ?qc5 ?qc6 ?_)
          case qc4 => unfold maxLen; omega
          case qc5 => omega
          case qc6 => first | omega | (simp; omega)
          intro v2 w9 hown hgrow hnil
          have B9 := Lib.hid ((B7.out.alloc B7.out.size (.cells (dnL.f (⟨i, c, b.s, f + 3⟩ : Dn)).toArray 35)).grown hgrow (by simp; omega) (fun k hk => (HO7.out.lt k hk).1))
          have H9 := Lib.hid hown
          clear hown hgrow hnil
          go_wp2_with fail
          go_roundw
          case rel => exact ⟨i + 1, by omega, by go_num, by have := H9.out; rw [HN.out, HGI.out, Option.toList_some, flatT_append, flatT_one, List.length_append]; simpa using this, B9.out⟩
          case measure => simp [intOf]; omega
        · have L1 := Lib.hid l1
          have L2 := Lib.hid l2
          have hkl : kl < ls.length := (List.getElem?_eq_some_iff.1 l0).1
          have HL0 := Lib.hid l0
          clear l1 l2 l0
          obtain ⟨o', bl, ol, ho, e1, hbl, _, d0, d1, d2, d3⟩ := SLR.out.at4 (Below.refl _ _) hkl
          cases e1
          obtain rfl : o = o' := by rw [HL0.out] at ho; exact Option.some.inj ho
          clear ho
          have k0 : (0 : Int) ≤ (kl : Int) := Int.natCast_nonneg _
          have k1 : (kl : Int) < (ls.length : Int) := by omega
          by_cases hk1 : o.n = c
          · have HGI := Lib.hid (show lrOf ls be c s f i = some (⟨i, c, b.s, f + 3⟩ : Dn) by rw [lrOf, if_pos HIN.out, L2.out]; simp only [HS.out]; rw [if_neg (by simp [lrKeep, hk1])])
            have hk3 : (o.n != c) = false := by simp [hk1]
            clear hk1
            go_wp2_with fail
            refine (rfind_lit _ ls _ ((kl : Int)) _ SLR.out L1.out).mono ?_
            rintro e w4 ⟨rfl, rfl⟩
            go_wp2_with fail
            refine (rfind_lit _ be _ ((kb : Int)) _ SBR.out b1.out).mono ?_
            rintro e w5 ⟨rfl, rfl⟩
            go_wp2_with fail
            have oN : Own (wr.alloc (.cells #[.int .i64 i, .int .i64 c, .int .i64 b.s, .int .i64 (f + 3)] 35)) wr.heap.size [.int .i64 i, .int .i64 c, .int .i64 b.s, .int .i64 (f + 3)] 35 := own_at _ _ rfl
            have BB := Lib.hid ((Below.refl wr.heap.size wr).alloc (Nat.le_refl _) (.cells #[.int .i64 i, .int .i64 c, .int .i64 b.s, .int .i64 (f + 3)] 35))
            have hbl6 : bl < (wr.alloc (.cells #[.int .i64 i, .int .i64 c, .int .i64 b.s, .int .i64 (f + 3)] 35)).heap.size := Nat.lt_of_lt_of_le hbl BB.out.size
            have e0 := (BB.out.cell (p := ⟨bl, ol + kl * 4, none⟩) hbl).trans d0
            have e1 := (BB.out.cell (p := ⟨bl, ol + kl * 4 + 1, none⟩) hbl).trans d1
            have e2 := (BB.out.cell (p := ⟨bl, ol + kl * 4 + 2, none⟩) hbl).trans d2
            have e3 := (BB.out.cell (p := ⟨bl, ol + kl * 4 + 3, none⟩) hbl).trans d3
            clear d0 d1 d2 d3
            generalize wr.alloc (.cells #[.int .i64 i, .int .i64 c, .int .i64 b.s, .int .i64 (f + 3)] 35) = w6 at oN BB hbl6 e0 e1 e2 e3 ⊢
            have pN0 := fun x : Past w6 => (oN.past x).cell (i := 0) rfl
            have pN1 := fun x : Past w6 => (oN.past x).cell (i := 1) rfl
            have pN2 := fun x : Past w6 => (oN.past x).cell (i := 2) rfl
            have pN3 := fun x : Past w6 => (oN.past x).cell (i := 3) rfl
            have pe0 := fun x : Past w6 => past_cell x e0 hbl6
            have pe1 := fun x : Past w6 => past_cell x e1 hbl6
            have pe2 := fun x : Past w6 => past_cell x e2 hbl6
            have pe3 := fun x : Past w6 => past_cell x e3 hbl6
            refine wp_region_past (by kernel_rfl) (by kernel_rfl) ?_
            repeat (go_big_quiet_step (fail))
            refine wpQuiet_nil ?_
            rintro _ ⟨x, rfl⟩
            have oN7 := oN.past x
            have BB7 := Lib.hid (show Below wr.heap.size wr (past w6 x) from BB.out.trans (x.h.mono BB.out.size))
            have q0 := pe0 x
            have q1 := pe1 x
            have q2 := pe2 x
            have q3 := pe3 x
            clear pN0 pN1 pN2 pN3 oN pe0 pe1 pe2 pe3 e0 e1 e2 e3 hbl6
            generalize past w6 x = w7 at oN7 BB7 q0 q1 q2 q3 ⊢
            obtain ⟨n0, n1, n2, n3, fN, zN⟩ := own4 oN7
            have HO7 := Lib.hid (ownsRow_belowD HOWN.out BB7.out)
            have B7 := Lib.hid (BE.out.trans (BB7.out.mono hwz))
            have hw7 := B7.out.size
            go_wp2_with (at_builtin; refine wpList_append_own _ rfl _ _ 22 rfl w3.heap.size 35 i0 _ 4 32 (by kernel_rfl) IF.out.1 IF.out.2.1 IF.out.2.2.1 IF.out.2.2.2 rfl (by decide) _ qs.length (flatT dnL qs) rfl (HO7.out.alloc _) ⟨w7.heap.size, 0, none⟩ 1 1 (dnL.f (⟨i, c, b.s, f + 3⟩ : Dn)) rfl rfl (newsTn (L := dnL) (w := w7) (by simp) (⟨i, c, b.s, f + 3⟩ : Dn) 35) (dnL.one _) ?qc4 ?qc5 ?qc6 ?_)
            case qc4 => unfold maxLen; omega
            case qc5 => omega
            case qc6 => first | omega | (simp; omega)
            intro v2 w9 hown hgrow hnil
            have B9 := Lib.hid ((B7.out.alloc B7.out.size (.cells (dnL.f (⟨i, c, b.s, f + 3⟩ : Dn)).toArray 35)).grown hgrow (by simp; omega) (fun k hk => (HO7.out.lt k hk).1))
            have H9 := Lib.hid hown
            clear hown hgrow hnil
            go_wp2_with fail
            go_roundw
            case rel => exact ⟨i + 1, by omega, by go_num, by have := H9.out; rw [HN.out, HGI.out, Option.toList_some, flatT_append, flatT_one, List.length_append]; simpa using this, B9.out⟩
            case measure => simp [intOf]; omega
          · by_cases hk2 : b.s ≤ o.s
            · have HGI := Lib.hid (show lrOf ls be c s f i = some o by rw [lrOf, if_pos HIN.out, L2.out]; simp only [HS.out]; rw [if_pos (by simp [lrKeep, hk1, hk2])])
              have hk3 : (o.n != c) = true := by simp [hk1]
              clear hk1
              go_wp2_with fail
              refine (rfind_lit _ ls _ ((kl : Int)) _ SLR.out L1.out).mono ?_
              rintro e w4 ⟨rfl, rfl⟩
              go_wp2_with fail
              refine (rfind_lit _ be _ ((kb : Int)) _ SBR.out b1.out).mono ?_
              rintro e w5 ⟨rfl, rfl⟩
              go_wp2_with fail
              have oN : Own (wr.alloc (.cells #[.int .i64 i, .int .i64 c, .int .i64 b.s, .int .i64 (f + 3)] 35)) wr.heap.size [.int .i64 i, .int .i64 c, .int .i64 b.s, .int .i64 (f + 3)] 35 := own_at _ _ rfl
              have BB := Lib.hid ((Below.refl wr.heap.size wr).alloc (Nat.le_refl _) (.cells #[.int .i64 i, .int .i64 c, .int .i64 b.s, .int .i64 (f + 3)] 35))
              have hbl6 : bl < (wr.alloc (.cells #[.int .i64 i, .int .i64 c, .int .i64 b.s, .int .i64 (f + 3)] 35)).heap.size := Nat.lt_of_lt_of_le hbl BB.out.size
              have e0 := (BB.out.cell (p := ⟨bl, ol + kl * 4, none⟩) hbl).trans d0
              have e1 := (BB.out.cell (p := ⟨bl, ol + kl * 4 + 1, none⟩) hbl).trans d1
              have e2 := (BB.out.cell (p := ⟨bl, ol + kl * 4 + 2, none⟩) hbl).trans d2
              have e3 := (BB.out.cell (p := ⟨bl, ol + kl * 4 + 3, none⟩) hbl).trans d3
              clear d0 d1 d2 d3
              generalize wr.alloc (.cells #[.int .i64 i, .int .i64 c, .int .i64 b.s, .int .i64 (f + 3)] 35) = w6 at oN BB hbl6 e0 e1 e2 e3 ⊢
              have pN0 := fun x : Past w6 => (oN.past x).cell (i := 0) rfl
              have pN1 := fun x : Past w6 => (oN.past x).cell (i := 1) rfl
              have pN2 := fun x : Past w6 => (oN.past x).cell (i := 2) rfl
              have pN3 := fun x : Past w6 => (oN.past x).cell (i := 3) rfl
              have pe0 := fun x : Past w6 => past_cell x e0 hbl6
              have pe1 := fun x : Past w6 => past_cell x e1 hbl6
              have pe2 := fun x : Past w6 => past_cell x e2 hbl6
              have pe3 := fun x : Past w6 => past_cell x e3 hbl6
              refine wp_region_past (by kernel_rfl) (by kernel_rfl) ?_
              repeat (go_big_quiet_step (fail))
              refine wpQuiet_nil ?_
              rintro _ ⟨x, rfl⟩
              have oN7 := oN.past x
              have BB7 := Lib.hid (show Below wr.heap.size wr (past w6 x) from BB.out.trans (x.h.mono BB.out.size))
              have q0 := pe0 x
              have q1 := pe1 x
              have q2 := pe2 x
              have q3 := pe3 x
              clear pN0 pN1 pN2 pN3 oN pe0 pe1 pe2 pe3 e0 e1 e2 e3 hbl6
              generalize past w6 x = w7 at oN7 BB7 q0 q1 q2 q3 ⊢
              obtain ⟨n0, n1, n2, n3, fN, zN⟩ := own4 oN7
              have BB8 := Lib.hid (show Below wr.heap.size wr ((((w7.setCell ⟨wr.heap.size, 0, none⟩ (.int .i64 o.t)).setCell ⟨wr.heap.size, 1, none⟩ (.int .i64 o.n)).setCell ⟨wr.heap.size, 2, none⟩ (.int .i64 o.s)).setCell ⟨wr.heap.size, 3, none⟩ (.int .i64 o.u)) from belowSet' (belowSet' (belowSet' (belowSet' BB7.out _ _ _ (Nat.le_refl _)) _ _ _ (Nat.le_refl _)) _ _ _ (Nat.le_refl _)) _ _ _ (Nat.le_refl _))
              have HO7 := Lib.hid (ownsRow_belowD HOWN.out BB8.out)
              have B7 := Lib.hid (BE.out.trans (BB8.out.mono hwz))
              have hw7 := B7.out.size
              go_wp2_with (at_builtin; refine wpList_append_own _ rfl _ _ 22 rfl w3.heap.size 35 i0 _ 4 32 (by kernel_rfl) IF.out.1 IF.out.2.1 IF.out.2.2.1 IF.out.2.2.2 rfl (by decide) _ qs.length (flatT dnL qs) rfl (HO7.out.alloc _) ⟨w7.heap.size, 0, none⟩ 1 1 (dnL.f o) rfl rfl (newsTn (L := dnL) (w := ((((w7.setCell ⟨wr.heap.size, 0, none⟩ (.int .i64 o.t)).setCell ⟨wr.heap.size, 1, none⟩ (.int .i64 o.n)).setCell ⟨wr.heap.size, 2, none⟩ (.int .i64 o.s)).setCell ⟨wr.heap.size, 3, none⟩ (.int .i64 o.u))) (by simp) o 35) (dnL.one _) ?qc4 ?qc5 ?qc6 ?_)
              case qc4 => unfold maxLen; omega
              case qc5 => omega
              case qc6 => first | omega | (simp; omega)
              intro v2 w9 hown hgrow hnil
              have B9 := Lib.hid ((B7.out.alloc B7.out.size (.cells (dnL.f o).toArray 35)).grown hgrow (by simp; omega) (fun k hk => (HO7.out.lt k hk).1))
              have H9 := Lib.hid hown
              clear hown hgrow hnil
              go_wp2_with fail
              go_roundw
              case rel => exact ⟨i + 1, by omega, by go_num, by have := H9.out; rw [HN.out, HGI.out, Option.toList_some, flatT_append, flatT_one, List.length_append]; simpa using this, B9.out⟩
              case measure => simp [intOf]; omega
            · have HGI := Lib.hid (show lrOf ls be c s f i = some (⟨i, c, b.s, f + 3⟩ : Dn) by rw [lrOf, if_pos HIN.out, L2.out]; simp only [HS.out]; rw [if_neg (by simp [lrKeep, hk2])])
              have hk3 : (o.n != c) = true := by simp [hk1]
              clear hk1
              go_wp2_with fail
              refine (rfind_lit _ ls _ ((kl : Int)) _ SLR.out L1.out).mono ?_
              rintro e w4 ⟨rfl, rfl⟩
              go_wp2_with fail
              refine (rfind_lit _ be _ ((kb : Int)) _ SBR.out b1.out).mono ?_
              rintro e w5 ⟨rfl, rfl⟩
              go_wp2_with fail
              have oN : Own (wr.alloc (.cells #[.int .i64 i, .int .i64 c, .int .i64 b.s, .int .i64 (f + 3)] 35)) wr.heap.size [.int .i64 i, .int .i64 c, .int .i64 b.s, .int .i64 (f + 3)] 35 := own_at _ _ rfl
              have BB := Lib.hid ((Below.refl wr.heap.size wr).alloc (Nat.le_refl _) (.cells #[.int .i64 i, .int .i64 c, .int .i64 b.s, .int .i64 (f + 3)] 35))
              have hbl6 : bl < (wr.alloc (.cells #[.int .i64 i, .int .i64 c, .int .i64 b.s, .int .i64 (f + 3)] 35)).heap.size := Nat.lt_of_lt_of_le hbl BB.out.size
              have e0 := (BB.out.cell (p := ⟨bl, ol + kl * 4, none⟩) hbl).trans d0
              have e1 := (BB.out.cell (p := ⟨bl, ol + kl * 4 + 1, none⟩) hbl).trans d1
              have e2 := (BB.out.cell (p := ⟨bl, ol + kl * 4 + 2, none⟩) hbl).trans d2
              have e3 := (BB.out.cell (p := ⟨bl, ol + kl * 4 + 3, none⟩) hbl).trans d3
              clear d0 d1 d2 d3
              generalize wr.alloc (.cells #[.int .i64 i, .int .i64 c, .int .i64 b.s, .int .i64 (f + 3)] 35) = w6 at oN BB hbl6 e0 e1 e2 e3 ⊢
              have pN0 := fun x : Past w6 => (oN.past x).cell (i := 0) rfl
              have pN1 := fun x : Past w6 => (oN.past x).cell (i := 1) rfl
              have pN2 := fun x : Past w6 => (oN.past x).cell (i := 2) rfl
              have pN3 := fun x : Past w6 => (oN.past x).cell (i := 3) rfl
              have pe0 := fun x : Past w6 => past_cell x e0 hbl6
              have pe1 := fun x : Past w6 => past_cell x e1 hbl6
              have pe2 := fun x : Past w6 => past_cell x e2 hbl6
              have pe3 := fun x : Past w6 => past_cell x e3 hbl6
              refine wp_region_past (by kernel_rfl) (by kernel_rfl) ?_
              repeat (go_big_quiet_step (fail))
              refine wpQuiet_nil ?_
              rintro _ ⟨x, rfl⟩
              have oN7 := oN.past x
              have BB7 := Lib.hid (show Below wr.heap.size wr (past w6 x) from BB.out.trans (x.h.mono BB.out.size))
              have q0 := pe0 x
              have q1 := pe1 x
              have q2 := pe2 x
              have q3 := pe3 x
              clear pN0 pN1 pN2 pN3 oN pe0 pe1 pe2 pe3 e0 e1 e2 e3 hbl6
              generalize past w6 x = w7 at oN7 BB7 q0 q1 q2 q3 ⊢
              obtain ⟨n0, n1, n2, n3, fN, zN⟩ := own4 oN7
              have HO7 := Lib.hid (ownsRow_belowD HOWN.out BB7.out)
              have B7 := Lib.hid (BE.out.trans (BB7.out.mono hwz))
              have hw7 := B7.out.size
              go_wp2_with (at_builtin; refine wpList_append_own _ rfl _ _ 22 rfl w3.heap.size 35 i0 _ 4 32 (by kernel_rfl) IF.out.1 IF.out.2.1 IF.out.2.2.1 IF.out.2.2.2 rfl (by decide) _ qs.length (flatT dnL qs) rfl (HO7.out.alloc _) ⟨w7.heap.size, 0, none⟩ 1 1 (dnL.f (⟨i, c, b.s, f + 3⟩ : Dn)) rfl rfl (newsTn (L := dnL) (w := w7) (by simp) (⟨i, c, b.s, f + 3⟩ : Dn) 35) (dnL.one _) ?qc4 ?qc5 ?qc6 ?_)
              case qc4 => unfold maxLen; omega
              case qc5 => omega
              case qc6 => first | omega | (simp; omega)
              intro v2 w9 hown hgrow hnil
              have B9 := Lib.hid ((B7.out.alloc B7.out.size (.cells (dnL.f (⟨i, c, b.s, f + 3⟩ : Dn)).toArray 35)).grown hgrow (by simp; omega) (fun k hk => (HO7.out.lt k hk).1))
              have H9 := Lib.hid hown
              clear hown hgrow hnil
              go_wp2_with fail
              go_roundw
              case rel => exact ⟨i + 1, by omega, by go_num, by have := H9.out; rw [HN.out, HGI.out, Option.toList_some, flatT_append, flatT_one, List.length_append]; simpa using this, B9.out⟩
              case measure => simp [intOf]; omega
    · obtain rfl : i = 60 := by omega
      go_wp2_with fail
      go_ret2
      exact ⟨_, rfl, slt_of_own (L := dnL) hown, BT.out⟩

end Go.Proofs.Ytheifmdaladfdaa

/- down.Learn where it learns. -/
import Derived.Test.YtheifmdaladfdaaLi21
import Derived.Test.YtheifmdaladfdaaLearnBad21
import Derived.Laws.AppendOwnNone
namespace Go.Proofs.Ytheifmdaladfdaa
open Go.RowKit Go.Shelf
attribute [local go_sem] Oper.semAt_some

set_option linter.unusedSimpArgs false in
set_option linter.unusedVariables false in
set_option maxRecDepth 100000 in
set_option maxHeartbeats 20000000 in
theorem learn_good (v u : Value) (ls be : List Dn) (c s f : Int) (w : World) (sl : SlD w v ls) (sb : SlD w u be) (h70 : ls.length ≤ 70) (g70 : be.length ≤ 70) (hv : vldD ls = true) (hc : nodB c = true) (h0 : 0 ≤ s) (h1 : s ≤ 1000000000) (h2 : 0 ≤ f) (h3 : f ≤ 999999997) (ht : toldB be = true) (ha : be.any (fun d => d.t == c) = false) :
    Calls Try.prog 12 #[v, .int .i64 c, .int .i64 s, u, .int .i64 f] w fun e w' => LrnP w (mrg c f (newsL c s be) ls) 0 e w' := by
  obtain ⟨p, cap, e, hlc, hcm, hpn⟩ := sl.form ls.length rfl
  subst e
  have SL := Lib.hid sl
  unfold maxLen at hcm
  clear hpn sl
  obtain ⟨p2, cap2, e2, hlc2, hcm2, hpn2⟩ := sb.form be.length rfl
  subst e2
  have SB := Lib.hid sb
  unfold maxLen at hcm2
  clear hpn2 sb
  have HV := Lib.hid hv
  clear hv
  have HC := Lib.hid hc
  clear hc
  have HT := Lib.hid ht
  clear ht
  have HA := Lib.hid ha
  clear ha
  refine (callsIn_wide (n := 9)).1 ?_
  refine callsIn_of_wp_marks Try.func12 rfl trivial ?_ rfl
  simp only [Try.ntmps12, List.size_toArray, List.length_cons, List.length_nil, Nat.reduceAdd, Nat.reduceSub, Array.replicate_succ, Array.replicate_zero, List.push_toArray, List.append_toArray, List.nil_append, List.cons_append]
  have kk1 : decide (s < 0) = false := decide_eq_false (by omega)
  have kk2 : decide (1000000000 < s) = false := decide_eq_false (by omega)
  have kk3 : decide (f < 0) = false := decide_eq_false (by omega)
  have kk4 : decide (999999997 < f) = false := decide_eq_false (by omega)
  have HF := Lib.hid (And.intro h0 (And.intro h1 (And.intro h2 h3)))
  clear h0 h1 h2 h3
  refine wpIn_wide.2 ?_
  go_wp2
  go_step3
  go_wp2_with (first | (go_at_call 25; refine (dvalid_lit _ ls true _ (SL.out.below (below2 w _ _)) HV.out).mono ?_; rintro e w1 ⟨rfl, hb2⟩; have OC := Lib.hid (((own_at (w := w) [.int .i64 c] 3 rfl).alloc (.cells #[.int .i64 f] 3)).below hb2); have OF := Lib.hid ((own_at (w := w.alloc (.cells #[.int .i64 c] 3)) (n := w.heap.size + 1) [.int .i64 f] 3 (by simp)).below hb2); have B1 := Lib.hid ((below2 w _ _).trans (hb2.mono (below2 w _ _).size)); have SB1 := Lib.hid (SB.out.below B1.out); have cC := OC.out.cell (i := 0) rfl; have cF := OF.out.cell (i := 0) rfl; clear hb2) | (go_at_call 26; refine (node_lit c true _ HC.out).mono ?_; rintro e w2 ⟨rfl, rfl⟩) | (go_at_call 27; refine (told_lit _ be true _ SB1.out HT.out).mono ?_; rintro e w3 ⟨rfl, hb3⟩; have OC3 := Lib.hid (OC.out.below hb3); have OF3 := Lib.hid (OF.out.below hb3); have B3 := Lib.hid (B1.out.trans (hb3.mono B1.out.size)); have SB3 := Lib.hid (SB1.out.below hb3); have cC3 := OC3.out.cell (i := 0) rfl; have cF3 := OF3.out.cell (i := 0) rfl; clear hb3 cC cF) | (go_at_call 28; refine (cfl_lit _ be w.heap.size c false _ SB3.out OC3.out.lt (OC3.out.cell (i := 0) rfl) HA.out).mono ?_; rintro e w4 ⟨rfl, hb4⟩; have OC4 := Lib.hid (OC3.out.below hb4); have OF4 := Lib.hid (OF3.out.below hb4); have B4 := Lib.hid (B3.out.trans (hb4.mono B3.out.size)); have SB4 := Lib.hid (SB3.out.below hb4); have cC4 := OC4.out.cell (i := 0) rfl; have cF4 := OF4.out.cell (i := 0) rfl; clear hb4 cC3 cF3) | fail)
  clear kk1 kk2 kk3 kk4 cC4 cF4 OC OF OC3 OF3 B1 B3 SB1 SB3 SB4
  have OO := Lib.hid ((own_at (w := w4) [.slice none 0 0] 22 rfl).alloc (.cells #[.slice p ls.length cap] 22))
  have OR := Lib.hid (own_at (w := w4.alloc (.cells #[.slice none 0 0] 22)) (n := w4.heap.size + 1) [.slice p ls.length cap] 22 (by simp))
  have OC := Lib.hid ((OC4.out.alloc (.cells #[.slice none 0 0] 22)).alloc (.cells #[.slice p ls.length cap] 22))
  have OF := Lib.hid ((OF4.out.alloc (.cells #[.slice none 0 0] 22)).alloc (.cells #[.slice p ls.length cap] 22))
  have hlc4 := OC4.out.lt
  have hlf4 := OF4.out.lt
  have B5 := Lib.hid (B4.out.trans ((below2 w4 (.cells #[.slice none 0 0] 22) (.cells #[.slice p ls.length cap] 22)).mono B4.out.size))
  have hs5 : ((w4.alloc (.cells #[.slice none 0 0] 22)).alloc (.cells #[.slice p ls.length cap] 22)).heap.size = w4.heap.size + 1 + 1 := by simp
  clear OC4 OF4 B4
  generalize ((w4.alloc (.cells #[.slice none 0 0] 22)).alloc (.cells #[.slice p ls.length cap] 22)) = W5 at OO OR OC OF B5 hs5 ⊢
  obtain ⟨bc, hbc⟩ : ∃ bc, w.heap.size = bc := ⟨_, rfl⟩
  obtain ⟨bo, hbo⟩ : ∃ bo, w4.heap.size = bo := ⟨_, rfl⟩
  obtain ⟨br, hbr⟩ : ∃ br, bo + 1 = br := ⟨_, rfl⟩
  obtain ⟨bf, hbf⟩ : ∃ bf, bc + 1 = bf := ⟨_, rfl⟩
  have HW := Lib.hid hbc
  rw [hbo] at OO OR hs5 hlc4 hlf4 ⊢
  rw [hbr] at OR hs5 ⊢
  rw [hbc] at OC OF hlc4 hlf4 ⊢
  rw [hbf] at OF hlf4 ⊢
  clear hbc hbo
  have cC := OC.out.cell (i := 0) rfl
  go_step3
  go_wp2_with (first | (go_at_call 29; refine (news_any p2 be.length cap2 c s _).mono ?_; rintro e W6 ⟨rfl, rfl⟩) | fail)
  have hb6 : Below W5.heap.size W5 (((W5.alloc (.cells #[.int .i64 c] 3)).alloc (.cells #[.int .i64 s] 3)).alloc (.cells #[.slice p2 be.length cap2] 22)) := (below2 W5 (.cells #[.int .i64 c] 3) (.cells #[.int .i64 s] 3)).trans ((belowNew _ _).mono (below2 W5 _ _).size)
  have P1 := Lib.hid (((own_at (w := W5) (n := br + 1) [.int .i64 c] 3 hs5.symm).alloc (.cells #[.int .i64 s] 3)).alloc (.cells #[.slice p2 be.length cap2] 22))
  have P2 := Lib.hid ((own_at (w := W5.alloc (.cells #[.int .i64 c] 3)) (n := br + 1 + 1) [.int .i64 s] 3 (by simp [hs5])).alloc (.cells #[.slice p2 be.length cap2] 22))
  have P3 := Lib.hid (own_at (w := (W5.alloc (.cells #[.int .i64 c] 3)).alloc (.cells #[.int .i64 s] 3)) (n := br + 1 + 2) [.slice p2 be.length cap2] 22 (by simp [hs5]))
  replace OO := Lib.hid (OO.out.below hb6)
  replace OR := Lib.hid (OR.out.below hb6)
  replace OC := Lib.hid (OC.out.below hb6)
  replace OF := Lib.hid (OF.out.below hb6)
  replace B5 := Lib.hid (B5.out.trans (hb6.mono B5.out.size))
  have hs6 : (((W5.alloc (.cells #[.int .i64 c] 3)).alloc (.cells #[.int .i64 s] 3)).alloc (.cells #[.slice p2 be.length cap2] 22)).heap.size = br + 4 := by simp [hs5]
  clear hb6 cC hs5
  generalize (((W5.alloc (.cells #[.int .i64 c] 3)).alloc (.cells #[.int .i64 s] 3)).alloc (.cells #[.slice p2 be.length cap2] 22)) = W6 at OO OR OC OF B5 hs6 P1 P2 P3 ⊢
  have S1 := Lib.hid (show Saf bo br W6 (br + 1) [.int .i64 c] 3 from ⟨P1.out, by omega, by omega, fun e => by have := (rowAt_own OO.out).1 e; simp [Value.ownBlock] at this⟩)
  have S2 := Lib.hid (show Saf bo br W6 (br + 1 + 1) [.int .i64 s] 3 from ⟨P2.out, by omega, by omega, fun e => by have := (rowAt_own OO.out).1 e; simp [Value.ownBlock] at this⟩)
  have S3 := Lib.hid (show Saf bo br W6 (br + 1 + 2) [.slice p2 be.length cap2] 22 from ⟨P3.out, by omega, by omega, fun e => by have := (rowAt_own OO.out).1 e; simp [Value.ownBlock] at this⟩)
  have HOK := Lib.hid (show RowOk bo W6 from fun g e => by have := (rowAt_own OO.out).1 e; simp [Value.ownBlock] at this)
  obtain ⟨n0, hn0⟩ : ∃ n0, W6.heap.size = n0 := ⟨_, rfl⟩
  have hwn : w.heap.size < n0 := by have := HW.out; omega
  have hwc : w.heap.size ≤ bc := by have := HW.out; omega
  have hrn : br < n0 := by omega
  have hnl : (newsL c s be).length ≤ 141 := by have := nwF_len ⟨c, 0, s, 0⟩ true be; unfold newsL; omega
  refine (wpIn_wide (n := 9)).1 ?_
  refine wpIn_rangeFunc_ownH rfl (by decide) (gf := 38) (lb := #[.pointer (some ⟨br + 1, 0, none⟩), .pointer (some ⟨br + 1 + 1, 0, none⟩), .pointer (some ⟨br + 1 + 2, 0, none⟩)]) rfl trivial (enters_of Try.func38 (by kernel_rfl) rfl) (news_stops 8 (br + 1) (br + 1 + 1) (br + 1 + 2) bo br _ be c s w W6 SB.out B5.out S1.out S2.out S3.out HOK.out (by omega) (by omega) (by decide)) (fun h k => h.trans k) (KpL.put (by omega) (by omega)) (Below.refl _ _) (fun _ => rfl) (LInv n0 bo br bc bf c f ls w) (fun _ _ _ => False) ?hI (fun _ _ _ _ _ hs _ _ => hs) ?h0 (fun (x : Dn) a' W => ∃ (Bx : Nat) (vo : Value), Own W bo [vo] 22 ∧ vo.ownBlock ≠ some Bx ∧ Own W Bx [.int .i64 x.t, .int .i64 x.n, .int .i64 x.s, .int .i64 x.u] 35 ∧ n0 ≤ Bx ∧ a' = { tmps := #[.slice p ls.length cap, .int .i64 c, .int .i64 s, .slice p2 be.length cap2, .int .i64 f, undef, .pointer (some ⟨bc, 0, none⟩), undef, undef, .pointer (some ⟨bf, 0, none⟩), .slice none 0 0, .int .i64 0, .func (.func 24) #[] #[.pointer (some ⟨bc, 0, none⟩)], .pointer (some ⟨bo, 0, none⟩), .pointer (some ⟨br, 0, none⟩), .pointer (some ⟨Bx, 0, none⟩), undef, .func (.func 24) #[] #[.pointer (some ⟨bc, 0, none⟩)], .slice p ls.length cap, .bool true, .bool false, .bool false, .int .i64 c, .bool true, .bool false, .bool false, .bool false, .int .i64 s, .bool false, .bool false, .bool false, .int .i64 s, .bool false, .bool false, .bool false, .int .i64 f, .bool false, .bool false, .bool false, .int .i64 f, .bool false, .bool false, .bool false, .slice p2 be.length cap2, .bool true, .bool false, .bool false, .bool false, .slice p2 be.length cap2, .func (.func 24) #[] #[.pointer (some ⟨bc, 0, none⟩)], .bool false, .bool false, .slice p ls.length cap, .int .i64 c, .int .i64 s, .slice p2 be.length cap2, .func (.func 38) #[] #[.pointer (some ⟨br + 1, 0, none⟩), .pointer (some ⟨br + 1 + 1, 0, none⟩), .pointer (some ⟨br + 1 + 2, 0, none⟩)], .agg #[.int .i64 x.t, .int .i64 x.n, .int .i64 x.s, .int .i64 x.u], undef, undef, undef, undef, undef, undef, undef, undef, undef, undef, undef, undef, undef, undef, undef, undef, undef, undef, undef, undef, undef, undef, undef, undef, undef, undef, undef, undef, undef, undef, undef, undef, undef, undef, undef, undef, undef, undef, undef, undef, undef, undef, undef, undef, undef, undef, undef, undef, undef, undef, undef, undef, undef, undef, undef, undef, undef, undef, undef, undef, undef, undef, undef, undef], defers := [] }) ?hAx ?assign ?body ?done ?stop
  case hI =>
    rintro s A B row ⟨out, rest, vo, pr, m, cr, g1, g2, g3, g4, g5, g6, o1, o2, o3, o4, o5, hb, hz⟩ hg hr
    have hr' : ∀ r, row = some r → ∃ o : Obj, A.heap[r]? = some o ∧ o.isCells = false := fun r e => (hr r e).2
    exact LInv.mk g1 g2 g3 g4 g5 g6 (own_kept o1 hg hr') (own_kept o2 hg hr') (row_kept o3 hg hr') (own_kept o4 hg hr') (own_kept o5 hg hr') (hb.grown hg hb.size (fun k e => by have := (hr k e).1; omega)) (Nat.le_trans hz hg.size)
  case h0 => exact LInv.mk (out := []) (rest := ls) MrgO.start rfl (by simp) SL.out hlc (by omega) OO.out OR.out (World.ownsRow_nil _ _ _ _) OC.out OF.out B5.out (by omega)
  case hAx =>
    rintro x a' _ A B row ⟨Bx, vo, e1, e2, e3, e4, e5⟩ hg hr
    exact ⟨Bx, vo, own_kept e1 hg (fun r e => (hr r e).2), e2, own_kept e3 hg (fun r e => (hr r e).2), e4, e5⟩
  case assign =>
    rintro l pre x W K ⟨out, rest, vo, pr, m, cr, g1, g2, g3, g4, g5, g6, o1, o2, o3, o4, o5, hb, hz⟩ hK
    gi_wp2
    refine hK _ _ ((KeepsOthers.alloc _ _).from _) (KB.alloc (B := 0) KB.refl (by omega) (by omega) _).kp (LInv.mk g1 g2 g3 g4 g5 g6 (o1.alloc _) (o2.alloc _) (o3.alloc _) (o4.alloc _) (o5.alloc _) (hb.alloc hb.size _) (by simp; omega)) ⟨W.heap.size, vo, o1.alloc _, fun e => by have := (o3.lt _ e).2; omega, own_at _ _ rfl, hz, rfl⟩
  case stop =>
    rintro D c' pre W _ _ h _
    exact h.elim
  case done =>
    rintro D ys W hD hys ⟨out, rest, vo, pr, m, cr, g1, g2, g3, g4, g5, g6, o1, o2, o3, o4, o5, hb, hz⟩ hK
    obtain ⟨i0, hi, hz', hs0, hb0⟩ := info_parts info_dn
    have MR := Lib.hid g1
    have SR := Lib.hid (g4.below hb)
    have HN := Lib.hid g4.none_len
    have cO := o1.cell (i := 0) rfl
    have cR := o2.cell (i := 0) rfl
    have ROW := Lib.hid o3
    have HB := Lib.hid hb
    have HY := Lib.hid hys
    have HK := Lib.hid hK
    have hy := congrArg List.length hys
    simp at hy
    have hob : out.length + m ≤ 300 := by omega
    clear o1 o2 o3 o4 o5 hb g1 hys hK hy
    cases pr with
    | none =>
      have hr0 := HN.out rfl
      obtain rfl : m = 0 := by rw [← g2, hr0]; rfl
      obtain rfl : cr = 0 := by
        obtain ⟨q, c', e, _, _, hq, _⟩ := g4
        injection e with e1 e2 e3
        rw [e3]; exact hq e1.symm
      have HR0 := Lib.hid hr0
      clear g4 hr0
      go_wp2_with (first | (at_builtin; refine wpList_append_own_none rfl _ _ 22 rfl n0 35 i0 4 (by kernel_rfl) hi _ _ _ rfl ROW.out rfl ?_) | fail)
      have HK2 := HK.out
      (try rw [Exit.noGoto_ret])
      refine ⟨by simp, .inl ⟨_, _, rfl, run_takeDeferred HK2, ?_⟩⟩
      refine ⟨_, results_tmp2 rfl _ _ _, _, rfl, ?_, ?_⟩
      · have e : out = mrg c f (newsL c s be) ls := by
          have := MR.out.done
          rw [HR0.out, List.append_nil] at this
          rw [this]; exact mrg_key _ HY.out
        rw [← e]
        exact (slt_of_own (L := dnL) (row_kept ROW.out (grownBy_putObj' _ D _) (fun r e => by cases e; exact ⟨_, HK2, rfl⟩)))
      · exact HB.out.trans (belowK_b (w := W6) (by omega) W D _ _ hD HK2 rfl rfl)
    | some ad =>
      have OL := Lib.hid (SR.out.olds ad rfl)
      clear g4
      go_wp2_with (first | (at_builtin; refine wpList_append_own _ rfl _ _ 22 rfl n0 35 i0 _ 4 32 (by kernel_rfl) hi hz' hs0 hb0 rfl (by decide) _ _ _ rfl ROW.out ad m cr (flatT dnL rest) rfl (by rw [flatT_len, g2]; rfl) OL.out flatT_cell ?qc4 ?qc5 ?qc6 ?_) | fail)
      case qc4 => unfold maxLen; omega
      case qc5 => omega
      case qc6 => omega
      intro v2 w2 hown2 hg2 _
      have R2 := Lib.hid hown2
      have hrow := ROW.out.lt
      have HK2 : w2.heap[D]? = some (.deferred (some [])) := by
        refine (hg2.block D (Array.getElem?_eq_some_iff.1 HK.out).1 fun e => ?_).trans HK.out
        rcases ROW.out.2 with ⟨rfl, _⟩ | ⟨g', cap', cur, rfl, _, hgb, _⟩
        · cases e
        · obtain rfl : D = g' := by simpa [Value.ownBlock] using e
          have := HK.out
          rw [hgb] at this; cases this
      have B2 := Lib.hid (HB.out.grown hg2 HB.out.size (fun k hk => by have := (hrow k hk).1; omega))
      clear hown2 hg2 hrow
      go_wp2
      (try rw [Exit.noGoto_ret])
      refine ⟨by simp, .inl ⟨_, _, rfl, run_takeDeferred HK2, ?_⟩⟩
      refine ⟨_, results_tmp2 rfl _ _ _, _, rfl, ?_, ?_⟩
      · have e : out ++ rest = mrg c f (newsL c s be) ls := by rw [MR.out.done]; exact mrg_key _ HY.out
        have h2 := row_kept R2.out (grownBy_putObj' _ D (.deferred none)) (fun r e => by cases e; exact ⟨_, HK2, rfl⟩)
        rw [← flatT_append, ← g2, ← List.length_append, e] at h2
        exact slt_of_own (L := dnL) h2
      · exact B2.out.trans (belowK_b (w := W6) (by omega) w2 D _ _ hD HK2 rfl rfl)
  case body =>
    rintro l pre x a' W hl hr ⟨out, rest, vo, pr, m, cr, g1, g2, g3, g4, g5, g6, o1, o2, o3, o4, o5, hb, hz⟩ ⟨Bx, vo', e1, e2, e3, e4, rfl⟩ hlt
    obtain rfl : vo' = vo := own_uniq e1 o1
    have LIE := Lib.hid (show Lie n0 bo br bc bf Bx w W from ⟨hwc, by omega, hlf4, by omega, hrn, hz, e4⟩)
    have L0 := Lib.hid (show LI n0 bo br bc bf Bx c f w W vo' (.slice pr m cr) out [.int .i64 x.t, .int .i64 x.n, .int .i64 x.s, .int .i64 x.u] W from ⟨KB.refl, o1, o2, o3, o4, o5, e3, hb, hz, e2⟩)
    have hpl : pre.length ≤ 141 := by omega
    have MG := Lib.hid (g1.go x)
    have SR := Lib.hid g4
    have HM := Lib.hid g2
    clear g1 g4 g2 o1 o2 o3 o4 o5 e1 e2 e3 e4 hb hz hlt hr OO OR OC OF P1 P2 P3 S1 S2 S3 HOK B5 hnl hs6
    have HN0 := Lib.hid hn0
    clear hn0
    gi_wp2
    gi_loopw [58] (fun _ wr => ∃ (out rest : List Dn) (vo : Value) (pr : Option Addr) (m cr : Nat), MrgI c f ls out rest pre x ∧ rest.length = m ∧ out.length + m ≤ ls.length + pre.length ∧ SlD w (.slice pr m cr) rest ∧ m ≤ cr ∧ cr ≤ 9223372036854775807 ∧ LI n0 bo br bc bf Bx c f w W vo (.slice pr m cr) out [.int .i64 x.t, .int .i64 x.n, .int .i64 x.s, .int .i64 x.u] wr) (fun _ wr => lenAt wr br)
    case atStart => exact ⟨out, rest, vo', pr, m, cr, MG.out, HM.out, g3, SR.out, g5, g6, L0.out⟩
    case round =>
      clear L0 MG SR HM g3 g5 g6
      obtain ⟨out, rest, vo, pr, m, cr, mg, hm, hsum, sr, hmc, hcr, hL⟩ := hrel
      have MG := Lib.hid mg
      have SR := Lib.hid sr
      have HM := Lib.hid hm
      have L1 := Lib.hid hL
      have hob : out.length ≤ 1000 := by omega
      clear mg sr hm hL
      have cR := L1.out.orr.cell (i := 0) rfl
      have cX := L1.out.ox.cell (i := 0) rfl
      cases rest with
      | nil =>
        have hm0 : ¬ 0 < m := by have := HM.out; simp at this; omega
        have k0 : decide ((0 : Int) < (m : Int)) = false := decide_eq_false (by omega)
        have k0n : decide (0 < m) = false := decide_eq_false hm0
        gi_wp2
        refine region_S 12 #[false, false, false, false, false, false, false, false, false, false, false, false] (by kernel_rfl) (by kernel_rfl) (fun w' => w'.cell? ⟨br, 0, none⟩ = some (.slice pr m cr)) 12 _ (fun _ _ h => h) (fun _ => trivial) (by kernel_rfl) ?x1s (fun hHeld hClo => ?x1r)
        case x1s => exact cR
        refine wpS_take (i := 0) (some 58) 40 (v := ?x2v) (fun _ => trivial) (by kernel_rfl) rfl (by kernel_rfl) (by kernel_rfl) (by kernel_rfl) (by kernel_rfl) rfl (Or.inl ⟨by rfl, ?x2y⟩) hHeld hClo ?x2r
        case x2y => (intro w hSw; (try dsimp only at hSw); go_simp; try with_reducible rfl)
        (intro hN; clear hClo; have hClo := hN; clear hN)
        try simp only [Act.put, List.setIfInBounds_toArray, List.set_cons_zero, List.set_cons_succ]
        refine wpS_take (i := 1) (some 59) 40 (v := ?x3v) (fun _ => trivial) (by kernel_rfl) rfl (by kernel_rfl) (by kernel_rfl) (by kernel_rfl) (by kernel_rfl) rfl (Or.inl ⟨by rfl, ?x3y⟩) hHeld hClo ?x3r
        case x3y => (intro w hSw; (try dsimp only at hSw); go_simp; try with_reducible rfl)
        (intro hN; clear hClo; have hClo := hN; clear hN)
        try simp only [Act.put, List.setIfInBounds_toArray, List.set_cons_zero, List.set_cons_succ]
        refine wpS_take (i := 2) (some 60) 40 (v := ?x4v) (fun _ => trivial) (by kernel_rfl) rfl (by kernel_rfl) (by kernel_rfl) (by kernel_rfl) (by kernel_rfl) rfl (Or.inl ⟨by rfl, ?x4y⟩) hHeld hClo ?x4r
        case x4y => (intro w hSw; (try dsimp only at hSw); go_simp; try with_reducible rfl)
        (intro hN; clear hClo; have hClo := hN; clear hN)
        try simp only [Act.put, List.setIfInBounds_toArray, List.set_cons_zero, List.set_cons_succ]
        refine wpS_take (i := 3) (some 61) 40 (v := ?x5v) (fun _ => trivial) (by kernel_rfl) rfl (by kernel_rfl) (by kernel_rfl) (by kernel_rfl) (by kernel_rfl) rfl (Or.inl ⟨by rfl, ?x5y⟩) hHeld hClo ?x5r
        case x5y => (intro w hSw; (try dsimp only at hSw); go_simp; try with_reducible rfl)
        (intro hN; clear hClo; have hClo := hN; clear hN)
        try simp only [Act.put, List.setIfInBounds_toArray, List.set_cons_zero, List.set_cons_succ]
        refine wpS_take (i := 4) (some 62) 40 (v := undef) (fun _ => trivial) (by kernel_rfl) rfl (by kernel_rfl) (by kernel_rfl) (by kernel_rfl) (by kernel_rfl) rfl (Or.inr ⟨by rfl, rfl⟩) hHeld hClo ?x6r
        (intro hN; clear hClo; have hClo := hN; clear hN)
        try simp only [Act.put, List.setIfInBounds_toArray, List.set_cons_zero, List.set_cons_succ]
        refine wpS_take (i := 5) (some 63) 40 (v := undef) (fun _ => trivial) (by kernel_rfl) rfl (by kernel_rfl) (by kernel_rfl) (by kernel_rfl) (by kernel_rfl) rfl (Or.inr ⟨by rfl, rfl⟩) hHeld hClo ?x7r
        (intro hN; clear hClo; have hClo := hN; clear hN)
        try simp only [Act.put, List.setIfInBounds_toArray, List.set_cons_zero, List.set_cons_succ]
        refine wpS_take (i := 6) (some 64) 40 (v := undef) (fun _ => trivial) (by kernel_rfl) rfl (by kernel_rfl) (by kernel_rfl) (by kernel_rfl) (by kernel_rfl) rfl (Or.inr ⟨by rfl, rfl⟩) hHeld hClo ?x8r
        (intro hN; clear hClo; have hClo := hN; clear hN)
        try simp only [Act.put, List.setIfInBounds_toArray, List.set_cons_zero, List.set_cons_succ]
        refine wpS_take (i := 7) (some 65) 40 (v := undef) (fun _ => trivial) (by kernel_rfl) rfl (by kernel_rfl) (by kernel_rfl) (by kernel_rfl) (by kernel_rfl) rfl (Or.inr ⟨by rfl, rfl⟩) hHeld hClo ?x9r
        (intro hN; clear hClo; have hClo := hN; clear hN)
        try simp only [Act.put, List.setIfInBounds_toArray, List.set_cons_zero, List.set_cons_succ]
        refine wpS_take (i := 8) (some 66) 40 (v := undef) (fun _ => trivial) (by kernel_rfl) rfl (by kernel_rfl) (by kernel_rfl) (by kernel_rfl) (by kernel_rfl) rfl (Or.inr ⟨by rfl, rfl⟩) hHeld hClo ?x10r
        (intro hN; clear hClo; have hClo := hN; clear hN)
        try simp only [Act.put, List.setIfInBounds_toArray, List.set_cons_zero, List.set_cons_succ]
        refine wpS_take (i := 9) (some 67) 40 (v := undef) (fun _ => trivial) (by kernel_rfl) rfl (by kernel_rfl) (by kernel_rfl) (by kernel_rfl) (by kernel_rfl) rfl (Or.inr ⟨by rfl, rfl⟩) hHeld hClo ?x11r
        (intro hN; clear hClo; have hClo := hN; clear hN)
        try simp only [Act.put, List.setIfInBounds_toArray, List.set_cons_zero, List.set_cons_succ]
        refine wpS_take (i := 10) (some 68) 40 (v := undef) (fun _ => trivial) (by kernel_rfl) rfl (by kernel_rfl) (by kernel_rfl) (by kernel_rfl) (by kernel_rfl) rfl (Or.inr ⟨by rfl, rfl⟩) hHeld hClo ?x12r
        (intro hN; clear hClo; have hClo := hN; clear hN)
        try simp only [Act.put, List.setIfInBounds_toArray, List.set_cons_zero, List.set_cons_succ]
        refine wpS_take (i := 11) (some 69) 40 (v := ?x13v) (fun _ => trivial) (by kernel_rfl) rfl (by kernel_rfl) (by kernel_rfl) (by kernel_rfl) (by kernel_rfl) rfl (Or.inl ⟨by rfl, ?x13y⟩) hHeld hClo ?x13r
        case x13y => (intro w hSw; (try dsimp only at hSw); go_simp; try with_reducible rfl)
        (intro hN; clear hClo; have hClo := hN; clear hN)
        try simp only [Act.put, List.setIfInBounds_toArray, List.set_cons_zero, List.set_cons_succ]
        clear hHeld hClo
        refine wpS_done (by kernel_rfl) ?_ _
        have L2 := Lib.hid L1.out.drew
        clear cR cX
        generalize wr.drew = w2 at L2 ⊢
        have cC := L2.out.oc.cell (i := 0) rfl
        have cF := L2.out.of.cell (i := 0) rfl
        obtain ⟨x0, x1, x2, x3, fX, zX⟩ := own4 L2.out.ox
        have wF : IntKind.i64.wrap (f + 3) = f + 3 := IntWalk.i64_in _ (by have := HF.out; omega)
        have hxc : Bx ≠ bc := by have := LIE.out.nB; have := LIE.out.rn; have := LIE.out.orr; have := LIE.out.fo; have := LIE.out.cf; omega
        have hxf : Bx ≠ bf := by have := LIE.out.nB; have := LIE.out.rn; have := LIE.out.orr; have := LIE.out.fo; omega
        gi_wp2
        have e1c : (w2.setCell ⟨Bx, 1, none⟩ (.int .i64 c)).cell? ⟨bc, 0, none⟩ = some (.int .i64 c) := (World.cell?_setCell_far _ _ _ _ hxc).trans cC
        have e1f : (w2.setCell ⟨Bx, 1, none⟩ (.int .i64 c)).cell? ⟨bf, 0, none⟩ = some (.int .i64 f) := (World.cell?_setCell_far _ _ _ _ hxf).trans cF
        refine region_S 7 #[false, false, false, false, false, false, false] (by kernel_rfl) (by kernel_rfl) (fun w' => w'.cell? ⟨bc, 0, none⟩ = some (.int .i64 c) ∧ w'.cell? ⟨bf, 0, none⟩ = some (.int .i64 f)) 6 _ (fun _ _ h => h) (fun _ => trivial) (by kernel_rfl) ?x15s (fun hHeld hClo => ?x15r)
        case x15s => exact ⟨cC, cF⟩
        refine wpS_take (i := 0) (some 78) 40 (v := ?x16v) (fun _ => trivial) (by kernel_rfl) rfl (by kernel_rfl) (by kernel_rfl) (by kernel_rfl) (by kernel_rfl) rfl (Or.inl ⟨by rfl, ?x16y⟩) hHeld hClo ?x16r
        case x16y => (intro w hSw; (try dsimp only at hSw); go_simp; try with_reducible rfl)
        (intro hN; clear hClo; have hClo := hN; clear hN)
        try simp only [Act.put, List.setIfInBounds_toArray, List.set_cons_zero, List.set_cons_succ]
        refine wpS_take (i := 1) (some 79) 40 (v := ?x17v) (fun _ => trivial) (by kernel_rfl) rfl (by kernel_rfl) (by kernel_rfl) (by kernel_rfl) (by kernel_rfl) rfl (Or.inl ⟨by rfl, ?x17y⟩) hHeld hClo ?x17r
        case x17y => (intro w hSw; (try dsimp only at hSw); go_simp; try with_reducible rfl)
        (intro hN; clear hClo; have hClo := hN; clear hN)
        try simp only [Act.put, List.setIfInBounds_toArray, List.set_cons_zero, List.set_cons_succ]
        refine wpS_take (i := 2) (some 80) 40 (v := ?x18v) (fun _ => trivial) (by kernel_rfl) rfl (by kernel_rfl) (by kernel_rfl) (by kernel_rfl) (by kernel_rfl) rfl (Or.inl ⟨by rfl, ?x18y⟩) hHeld hClo ?x18r
        case x18y => (intro w hSw; (try dsimp only at hSw); go_simp; try with_reducible rfl)
        (intro hN; clear hClo; have hClo := hN; clear hN)
        try simp only [Act.put, List.setIfInBounds_toArray, List.set_cons_zero, List.set_cons_succ]
        refine wpS_take (i := 3) (some 81) 40 (v := ?x19v) (fun _ => trivial) (by kernel_rfl) rfl (by kernel_rfl) (by kernel_rfl) (by kernel_rfl) (by kernel_rfl) rfl (Or.inl ⟨by rfl, ?x19y⟩) hHeld hClo ?x19r
        case x19y => (intro w hSw; (try dsimp only at hSw); go_simp; try with_reducible rfl)
        (intro hN; clear hClo; have hClo := hN; clear hN)
        try simp only [Act.put, List.setIfInBounds_toArray, List.set_cons_zero, List.set_cons_succ]
        refine wpS_one (i := 4) (by kernel_rfl) rfl hClo (fun K hK => ?_)
        rw [if_pos (by rfl)]
        go_simp
        refine hK _ _ (fun _ => ⟨(cell_drew_own _ _).trans e1c, (cell_drew_own _ _).trans e1f⟩) ?_
        clear hK K hHeld
        intro hH0
        have hHeld := hH0 (by kernel_rfl)
        clear hH0
        (intro hN; clear hClo; have hClo := hN; clear hN)
        try simp only [Act.put, List.setIfInBounds_toArray, List.set_cons_zero, List.set_cons_succ]
        refine wpS_take (i := 5) (some 82) 40 (v := ?x14v) (fun _ => trivial) (by kernel_rfl) rfl (by kernel_rfl) (by kernel_rfl) (by kernel_rfl) (by kernel_rfl) rfl (Or.inl ⟨by rfl, ?x14y⟩) hHeld hClo ?x14r
        case x14y => (intro w hSw; (try dsimp only at hSw); go_simp; try with_reducible rfl)
        (intro hN; clear hClo; have hClo := hN; clear hN)
        try simp only [Act.put, List.setIfInBounds_toArray, List.set_cons_zero, List.set_cons_succ]
        refine wpS_one (i := 6) (by kernel_rfl) rfl hClo (fun K hK => ?_)
        rw [if_pos (by rfl)]
        go_simp
        refine hK _ _ (fun e => absurd (e.symm.trans (by kernel_rfl : _ = true)) (by decide)) ?_
        clear hK K hHeld hClo
        intro hH0 hClo
        clear hH0 hClo
        have L3 := Lib.hid (L2.out.setX LIE.out (n' := c) (u' := f + 3) (.inl rfl)).drew
        clear e1c e1f cC cF x0 x1 x2 x3 fX zX
        refine wpS_done (by kernel_rfl) ?_ _
        generalize ((w2.setCell ⟨Bx, 1, none⟩ (.int .i64 c)).setCell ⟨Bx, 3, none⟩ (.int .i64 (f + 3))).drew = w3 at L3 ⊢
        have cR := L3.out.orr.cell (i := 0) rfl
        have cX := L3.out.ox.cell (i := 0) rfl
        gi_wp2
        refine region_S 12 #[false, false, false, false, false, false, false, false, false, false, false, false] (by kernel_rfl) (by kernel_rfl) (fun w' => w'.cell? ⟨br, 0, none⟩ = some (.slice pr m cr)) 12 _ (fun _ _ h => h) (fun _ => trivial) (by kernel_rfl) ?x20s (fun hHeld hClo => ?x20r)
        case x20s => exact cR
        refine wpS_take (i := 0) (some 83) 40 (v := ?x21v) (fun _ => trivial) (by kernel_rfl) rfl (by kernel_rfl) (by kernel_rfl) (by kernel_rfl) (by kernel_rfl) rfl (Or.inl ⟨by rfl, ?x21y⟩) hHeld hClo ?x21r
        case x21y => (intro w hSw; (try dsimp only at hSw); go_simp; try with_reducible rfl)
        (intro hN; clear hClo; have hClo := hN; clear hN)
        try simp only [Act.put, List.setIfInBounds_toArray, List.set_cons_zero, List.set_cons_succ]
        refine wpS_take (i := 1) (some 84) 40 (v := ?x22v) (fun _ => trivial) (by kernel_rfl) rfl (by kernel_rfl) (by kernel_rfl) (by kernel_rfl) (by kernel_rfl) rfl (Or.inl ⟨by rfl, ?x22y⟩) hHeld hClo ?x22r
        case x22y => (intro w hSw; (try dsimp only at hSw); go_simp; try with_reducible rfl)
        (intro hN; clear hClo; have hClo := hN; clear hN)
        try simp only [Act.put, List.setIfInBounds_toArray, List.set_cons_zero, List.set_cons_succ]
        refine wpS_take (i := 2) (some 85) 40 (v := ?x23v) (fun _ => trivial) (by kernel_rfl) rfl (by kernel_rfl) (by kernel_rfl) (by kernel_rfl) (by kernel_rfl) rfl (Or.inl ⟨by rfl, ?x23y⟩) hHeld hClo ?x23r
        case x23y => (intro w hSw; (try dsimp only at hSw); go_simp; try with_reducible rfl)
        (intro hN; clear hClo; have hClo := hN; clear hN)
        try simp only [Act.put, List.setIfInBounds_toArray, List.set_cons_zero, List.set_cons_succ]
        refine wpS_take (i := 3) (some 86) 40 (v := ?x24v) (fun _ => trivial) (by kernel_rfl) rfl (by kernel_rfl) (by kernel_rfl) (by kernel_rfl) (by kernel_rfl) rfl (Or.inl ⟨by rfl, ?x24y⟩) hHeld hClo ?x24r
        case x24y => (intro w hSw; (try dsimp only at hSw); go_simp; try with_reducible rfl)
        (intro hN; clear hClo; have hClo := hN; clear hN)
        try simp only [Act.put, List.setIfInBounds_toArray, List.set_cons_zero, List.set_cons_succ]
        refine wpS_take (i := 4) (some 87) 40 (v := undef) (fun _ => trivial) (by kernel_rfl) rfl (by kernel_rfl) (by kernel_rfl) (by kernel_rfl) (by kernel_rfl) rfl (Or.inr ⟨by rfl, rfl⟩) hHeld hClo ?x25r
        (intro hN; clear hClo; have hClo := hN; clear hN)
        try simp only [Act.put, List.setIfInBounds_toArray, List.set_cons_zero, List.set_cons_succ]
        refine wpS_take (i := 5) (some 88) 40 (v := undef) (fun _ => trivial) (by kernel_rfl) rfl (by kernel_rfl) (by kernel_rfl) (by kernel_rfl) (by kernel_rfl) rfl (Or.inr ⟨by rfl, rfl⟩) hHeld hClo ?x26r
        (intro hN; clear hClo; have hClo := hN; clear hN)
        try simp only [Act.put, List.setIfInBounds_toArray, List.set_cons_zero, List.set_cons_succ]
        refine wpS_take (i := 6) (some 89) 40 (v := undef) (fun _ => trivial) (by kernel_rfl) rfl (by kernel_rfl) (by kernel_rfl) (by kernel_rfl) (by kernel_rfl) rfl (Or.inr ⟨by rfl, rfl⟩) hHeld hClo ?x27r
        (intro hN; clear hClo; have hClo := hN; clear hN)
        try simp only [Act.put, List.setIfInBounds_toArray, List.set_cons_zero, List.set_cons_succ]
        refine wpS_take (i := 7) (some 90) 40 (v := undef) (fun _ => trivial) (by kernel_rfl) rfl (by kernel_rfl) (by kernel_rfl) (by kernel_rfl) (by kernel_rfl) rfl (Or.inr ⟨by rfl, rfl⟩) hHeld hClo ?x28r
        (intro hN; clear hClo; have hClo := hN; clear hN)
        try simp only [Act.put, List.setIfInBounds_toArray, List.set_cons_zero, List.set_cons_succ]
        refine wpS_take (i := 8) (some 91) 40 (v := undef) (fun _ => trivial) (by kernel_rfl) rfl (by kernel_rfl) (by kernel_rfl) (by kernel_rfl) (by kernel_rfl) rfl (Or.inr ⟨by rfl, rfl⟩) hHeld hClo ?x29r
        (intro hN; clear hClo; have hClo := hN; clear hN)
        try simp only [Act.put, List.setIfInBounds_toArray, List.set_cons_zero, List.set_cons_succ]
        refine wpS_take (i := 9) (some 92) 40 (v := undef) (fun _ => trivial) (by kernel_rfl) rfl (by kernel_rfl) (by kernel_rfl) (by kernel_rfl) (by kernel_rfl) rfl (Or.inr ⟨by rfl, rfl⟩) hHeld hClo ?x30r
        (intro hN; clear hClo; have hClo := hN; clear hN)
        try simp only [Act.put, List.setIfInBounds_toArray, List.set_cons_zero, List.set_cons_succ]
        refine wpS_take (i := 10) (some 93) 40 (v := undef) (fun _ => trivial) (by kernel_rfl) rfl (by kernel_rfl) (by kernel_rfl) (by kernel_rfl) (by kernel_rfl) rfl (Or.inr ⟨by rfl, rfl⟩) hHeld hClo ?x31r
        (intro hN; clear hClo; have hClo := hN; clear hN)
        try simp only [Act.put, List.setIfInBounds_toArray, List.set_cons_zero, List.set_cons_succ]
        refine wpS_take (i := 11) (some 94) 40 (v := ?x32v) (fun _ => trivial) (by kernel_rfl) rfl (by kernel_rfl) (by kernel_rfl) (by kernel_rfl) (by kernel_rfl) rfl (Or.inl ⟨by rfl, ?x32y⟩) hHeld hClo ?x32r
        case x32y => (intro w hSw; (try dsimp only at hSw); go_simp; try with_reducible rfl)
        (intro hN; clear hClo; have hClo := hN; clear hN)
        try simp only [Act.put, List.setIfInBounds_toArray, List.set_cons_zero, List.set_cons_succ]
        clear hHeld hClo
        refine wpS_done (by kernel_rfl) ?_ _
        have L4 := Lib.hid L3.out.drew
        clear cR cX
        generalize w3.drew = w4 at L4 ⊢
        have cR := L4.out.orr.cell (i := 0) rfl
        have fR := L4.out.orr.frozen
        have zR := L4.out.orr.lt
        have cO := L4.out.oo.cell (i := 0) rfl
        have cC := L4.out.oc.cell (i := 0) rfl
        have zC := L4.out.oc.lt
        have zO := L4.out.oo.lt
        obtain ⟨x0, x1, x2, x3, fX, zX⟩ := own4 L4.out.ox
        gi_wp2_with (first | (gi_at_builtin; refine app_list rfl (.tmp 115) (.tmp 117) rfl (fun _ => trivial) rfl (L4.out.alloc LIE.out (.cells #[.int .i64 x.t, .int .i64 c, .int .i64 x.s, .int .i64 (f + 3)] 35)).row _ 1 (nwD c f x) rfl (fun j u h => newsT (L := dnL) _ (nwD c f x) 35 j u h) hob (L4.out.alloc LIE.out (.cells #[.int .i64 x.t, .int .i64 c, .int .i64 x.s, .int .i64 (f + 3)] 35)).sz ?_; intro g cap3 w5 hown hg hat hlt3; have LZ := Lib.hid ((L4.out.alloc LIE.out (.cells #[.int .i64 x.t, .int .i64 c, .int .i64 x.s, .int .i64 (f + 3)] 35)).app LIE.out hown hg hat hlt3); have oo5 : Own w5 bo [vo] 22 := (hg.block bo (L4.out.alloc LIE.out (.cells #[.int .i64 x.t, .int .i64 c, .int .i64 x.s, .int .i64 (f + 3)] 35)).oo.lt (fun e => by have := LIE.out.orr; have := LIE.out.rn; have := ((L4.out.alloc LIE.out (.cells #[.int .i64 x.t, .int .i64 c, .int .i64 x.s, .int .i64 (f + 3)] 35)).row.lt bo e.symm).1; omega)).trans (L4.out.alloc LIE.out (.cells #[.int .i64 x.t, .int .i64 c, .int .i64 x.s, .int .i64 (f + 3)] 35)).oo; have cO5 := oo5.cell (i := 0) rfl; have fO5 := oo5.frozen; have zO5 := oo5.lt; clear hown hg hat hlt3 oo5) | fail)
        exact ⟨by first | exact LZ.out.kb.kf | (rw [HN0.out]; exact LZ.out.kb.kf), LZ.out.kb.kp, LZ.out.inv MG.out.nil HM.out (by rw [List.length_append, List.length_append]; simp; omega) SR.out hmc hcr⟩
      | cons y ys =>
        have hm1 : 0 < m := by have := HM.out; simp at this; omega
        have k0 : decide ((0 : Int) < (m : Int)) = true := decide_eq_true (by omega)
        have m1 : (0 : Int) < (m : Int) := by omega
        obtain ⟨y', b, off, hy, rfl, hbl, hbw, d0, d1, d2, d3⟩ := SR.out.at4 L1.out.bel (i := 0) (by rw [HM.out]; exact hm1)
        obtain rfl : y = y' := by simpa using hy
        simp only [Nat.zero_mul, Nat.add_zero] at d0 d1 d2 d3
        clear hy
        cases hlt : decide (y.t < x.t) with
        | true =>
          gi_wp2
          refine region_S 12 #[false, false, false, false, false, false, false, false, false, false, false, false] (by kernel_rfl) (by kernel_rfl) (fun w' => w'.cell? ⟨br, 0, none⟩ = some (.slice (some ⟨b, off, none⟩) m cr) ∧ w'.cell? ⟨b, off, none⟩ = some (.int .i64 y.t) ∧ w'.cell? ⟨Bx, 0, none⟩ = some (.int .i64 x.t)) 12 _ (fun _ _ h => h) (fun _ => trivial) (by kernel_rfl) ?x33s (fun hHeld hClo => ?x33r)
          case x33s => exact ⟨cR, d0, cX⟩
          refine wpS_take (i := 0) (some 58) 40 (v := ?x34v) (fun _ => trivial) (by kernel_rfl) rfl (by kernel_rfl) (by kernel_rfl) (by kernel_rfl) (by kernel_rfl) rfl (Or.inl ⟨by rfl, ?x34y⟩) hHeld hClo ?x34r
          case x34y => (intro w hSw; (try dsimp only at hSw); go_simp; try with_reducible rfl)
          (intro hN; clear hClo; have hClo := hN; clear hN)
          try simp only [Act.put, List.setIfInBounds_toArray, List.set_cons_zero, List.set_cons_succ]
          refine wpS_take (i := 1) (some 59) 40 (v := ?x35v) (fun _ => trivial) (by kernel_rfl) rfl (by kernel_rfl) (by kernel_rfl) (by kernel_rfl) (by kernel_rfl) rfl (Or.inl ⟨by rfl, ?x35y⟩) hHeld hClo ?x35r
          case x35y => (intro w hSw; (try dsimp only at hSw); go_simp; try with_reducible rfl)
          (intro hN; clear hClo; have hClo := hN; clear hN)
          try simp only [Act.put, List.setIfInBounds_toArray, List.set_cons_zero, List.set_cons_succ]
          refine wpS_take (i := 2) (some 60) 40 (v := ?x36v) (fun _ => trivial) (by kernel_rfl) rfl (by kernel_rfl) (by kernel_rfl) (by kernel_rfl) (by kernel_rfl) rfl (Or.inl ⟨by rfl, ?x36y⟩) hHeld hClo ?x36r
          case x36y => (intro w hSw; (try dsimp only at hSw); go_simp; try with_reducible rfl)
          (intro hN; clear hClo; have hClo := hN; clear hN)
          try simp only [Act.put, List.setIfInBounds_toArray, List.set_cons_zero, List.set_cons_succ]
          refine wpS_take (i := 3) (some 61) 40 (v := ?x37v) (fun _ => trivial) (by kernel_rfl) rfl (by kernel_rfl) (by kernel_rfl) (by kernel_rfl) (by kernel_rfl) rfl (Or.inl ⟨by rfl, ?x37y⟩) hHeld hClo ?x37r
          case x37y => (intro w hSw; (try dsimp only at hSw); go_simp; try with_reducible rfl)
          (intro hN; clear hClo; have hClo := hN; clear hN)
          try simp only [Act.put, List.setIfInBounds_toArray, List.set_cons_zero, List.set_cons_succ]
          refine wpS_take (i := 4) (some 62) 40 (v := ?x38v) (fun _ => trivial) (by kernel_rfl) rfl (by kernel_rfl) (by kernel_rfl) (by kernel_rfl) (by kernel_rfl) rfl (Or.inl ⟨by rfl, ?x38y⟩) hHeld hClo ?x38r
          case x38y => (intro w hSw; (try dsimp only at hSw); go_simp; try with_reducible rfl)
          (intro hN; clear hClo; have hClo := hN; clear hN)
          try simp only [Act.put, List.setIfInBounds_toArray, List.set_cons_zero, List.set_cons_succ]
          refine wpS_take (i := 5) (some 63) 40 (v := ?x39v) (fun _ => trivial) (by kernel_rfl) rfl (by kernel_rfl) (by kernel_rfl) (by kernel_rfl) (by kernel_rfl) rfl (Or.inl ⟨by rfl, ?x39y⟩) hHeld hClo ?x39r
          case x39y => (intro w hSw; (try dsimp only at hSw); go_simp; try with_reducible rfl)
          (intro hN; clear hClo; have hClo := hN; clear hN)
          try simp only [Act.put, List.setIfInBounds_toArray, List.set_cons_zero, List.set_cons_succ]
          refine wpS_take (i := 6) (some 64) 40 (v := ?x40v) (fun _ => trivial) (by kernel_rfl) rfl (by kernel_rfl) (by kernel_rfl) (by kernel_rfl) (by kernel_rfl) rfl (Or.inl ⟨by rfl, ?x40y⟩) hHeld hClo ?x40r
          case x40y => (intro w hSw; (try dsimp only at hSw); go_simp; try with_reducible rfl)
          (intro hN; clear hClo; have hClo := hN; clear hN)
          try simp only [Act.put, List.setIfInBounds_toArray, List.set_cons_zero, List.set_cons_succ]
          refine wpS_take (i := 7) (some 65) 40 (v := ?x41v) (fun _ => trivial) (by kernel_rfl) rfl (by kernel_rfl) (by kernel_rfl) (by kernel_rfl) (by kernel_rfl) rfl (Or.inl ⟨by rfl, ?x41y⟩) hHeld hClo ?x41r
          case x41y => (intro w hSw; (try dsimp only at hSw); go_simp; try with_reducible rfl)
          (intro hN; clear hClo; have hClo := hN; clear hN)
          try simp only [Act.put, List.setIfInBounds_toArray, List.set_cons_zero, List.set_cons_succ]
          refine wpS_take (i := 8) (some 66) 40 (v := ?x42v) (fun _ => trivial) (by kernel_rfl) rfl (by kernel_rfl) (by kernel_rfl) (by kernel_rfl) (by kernel_rfl) rfl (Or.inl ⟨by rfl, ?x42y⟩) hHeld hClo ?x42r
          case x42y => (intro w hSw; (try dsimp only at hSw); go_simp; try with_reducible rfl)
          (intro hN; clear hClo; have hClo := hN; clear hN)
          try simp only [Act.put, List.setIfInBounds_toArray, List.set_cons_zero, List.set_cons_succ]
          refine wpS_take (i := 9) (some 67) 40 (v := ?x43v) (fun _ => trivial) (by kernel_rfl) rfl (by kernel_rfl) (by kernel_rfl) (by kernel_rfl) (by kernel_rfl) rfl (Or.inl ⟨by rfl, ?x43y⟩) hHeld hClo ?x43r
          case x43y => (intro w hSw; (try dsimp only at hSw); go_simp; try with_reducible rfl)
          (intro hN; clear hClo; have hClo := hN; clear hN)
          try simp only [Act.put, List.setIfInBounds_toArray, List.set_cons_zero, List.set_cons_succ]
          refine wpS_take (i := 10) (some 68) 40 (v := ?x44v) (fun _ => trivial) (by kernel_rfl) rfl (by kernel_rfl) (by kernel_rfl) (by kernel_rfl) (by kernel_rfl) rfl (Or.inl ⟨by rfl, ?x44y⟩) hHeld hClo ?x44r
          case x44y => (intro w hSw; (try dsimp only at hSw); go_simp; try with_reducible rfl)
          (intro hN; clear hClo; have hClo := hN; clear hN)
          try simp only [Act.put, List.setIfInBounds_toArray, List.set_cons_zero, List.set_cons_succ]
          refine wpS_take (i := 11) (some 69) 40 (v := ?x45v) (fun _ => trivial) (by kernel_rfl) rfl (by kernel_rfl) (by kernel_rfl) (by kernel_rfl) (by kernel_rfl) rfl (Or.inl ⟨by rfl, ?x45y⟩) hHeld hClo ?x45r
          case x45y => (intro w hSw; (try dsimp only at hSw); go_simp; try with_reducible rfl)
          (intro hN; clear hClo; have hClo := hN; clear hN)
          try simp only [Act.put, List.setIfInBounds_toArray, List.set_cons_zero, List.set_cons_succ]
          clear hHeld hClo
          refine wpS_done (by kernel_rfl) ?_ _
          replace d0 : (wr.drew).cell? ⟨b, off, none⟩ = some (.int .i64 y.t) := d0
          replace d1 : (wr.drew).cell? ⟨b, off + 1, none⟩ = some (.int .i64 y.n) := d1
          replace d2 : (wr.drew).cell? ⟨b, off + 2, none⟩ = some (.int .i64 y.s) := d2
          replace d3 : (wr.drew).cell? ⟨b, off + 3, none⟩ = some (.int .i64 y.u) := d3
          have L2 := Lib.hid L1.out.drew
          clear cR cX hbl
          generalize wr.drew = w2 at L2 d0 d1 d2 d3 ⊢
          have cR := L2.out.orr.cell (i := 0) rfl
          have cO := L2.out.oo.cell (i := 0) rfl
          gi_wp2
          have k1 : decide ((1 : Int) ≤ (m : Int)) = true := decide_eq_true (by omega)
          have k2 : (1 : Int) ≤ (m : Int) := by omega
          have k3 : (m : Int) ≤ (cr : Int) := by omega
          refine region_S 10 #[false, false, false, false, false, false, false, false, false, false] (by kernel_rfl) (by kernel_rfl) (fun w' => w'.cell? ⟨br, 0, none⟩ = some (.slice (some ⟨b, off, none⟩) m cr) ∧ w'.cell? ⟨b, off, none⟩ = some (.int .i64 y.t) ∧ w'.cell? ⟨b, off + 1, none⟩ = some (.int .i64 y.n) ∧ w'.cell? ⟨b, off + 2, none⟩ = some (.int .i64 y.s) ∧ w'.cell? ⟨b, off + 3, none⟩ = some (.int .i64 y.u)) 9 _ (fun _ _ h => h) (fun _ => trivial) (by kernel_rfl) ?x46s (fun hHeld hClo => ?x46r)
          case x46s => exact ⟨cR, d0, d1, d2, d3⟩
          refine wpS_take (i := 1) (some 71) 40 (v := ?x47v) (fun _ => trivial) (by kernel_rfl) rfl (by kernel_rfl) (by kernel_rfl) (by kernel_rfl) (by kernel_rfl) rfl (Or.inl ⟨by rfl, ?x47y⟩) hHeld hClo ?x47r
          case x47y => (intro w hSw; (try dsimp only at hSw); go_simp; try with_reducible rfl)
          (intro hN; clear hClo; have hClo := hN; clear hN)
          try simp only [Act.put, List.setIfInBounds_toArray, List.set_cons_zero, List.set_cons_succ]
          refine wpS_take (i := 2) (some 72) 40 (v := ?x48v) (fun _ => trivial) (by kernel_rfl) rfl (by kernel_rfl) (by kernel_rfl) (by kernel_rfl) (by kernel_rfl) rfl (Or.inl ⟨by rfl, ?x48y⟩) hHeld hClo ?x48r
          case x48y => (intro w hSw; (try dsimp only at hSw); go_simp; try with_reducible rfl)
          (intro hN; clear hClo; have hClo := hN; clear hN)
          try simp only [Act.put, List.setIfInBounds_toArray, List.set_cons_zero, List.set_cons_succ]
          refine wpS_take (i := 3) (some 73) 40 (v := ?x49v) (fun _ => trivial) (by kernel_rfl) rfl (by kernel_rfl) (by kernel_rfl) (by kernel_rfl) (by kernel_rfl) rfl (Or.inl ⟨by rfl, ?x49y⟩) hHeld hClo ?x49r
          case x49y => (intro w hSw; (try dsimp only at hSw); go_simp; try with_reducible rfl)
          (intro hN; clear hClo; have hClo := hN; clear hN)
          try simp only [Act.put, List.setIfInBounds_toArray, List.set_cons_zero, List.set_cons_succ]
          refine wpS_take (i := 6) (some 76) 40 (v := ?x50v) (fun _ => trivial) (by kernel_rfl) rfl (by kernel_rfl) (by kernel_rfl) (by kernel_rfl) (by kernel_rfl) rfl (Or.inl ⟨by rfl, ?x50y⟩) hHeld hClo ?x50r
          case x50y => (intro w hSw; (try dsimp only at hSw); go_simp; try with_reducible rfl)
          (intro hN; clear hClo; have hClo := hN; clear hN)
          try simp only [Act.put, List.setIfInBounds_toArray, List.set_cons_zero, List.set_cons_succ]
          refine wpS_take (i := 7) (some 77) 40 (v := ?x51v) (fun _ => trivial) (by kernel_rfl) rfl (by kernel_rfl) (by kernel_rfl) (by kernel_rfl) (by kernel_rfl) rfl (Or.inl ⟨by rfl, ?x51y⟩) hHeld hClo ?x51r
          case x51y => (intro w hSw; (try dsimp only at hSw); go_simp; try with_reducible rfl)
          (intro hN; clear hClo; have hClo := hN; clear hN)
          try simp only [Act.put, List.setIfInBounds_toArray, List.set_cons_zero, List.set_cons_succ]
          have LA := Lib.hid (L2.out.alloc LIE.out (.cells #[.int .i64 y.t, .int .i64 y.n, .int .i64 y.s, .int .i64 y.u] 35)).drew
          clear cR
          refine wpS_two (i := 0) (j := 4) (by kernel_rfl) rfl rfl hClo (fun K hK => ?_) (fun K hK => ?_)
          · rw [if_pos (by rfl)]
            go_simp
            refine hK _ _ (fun _ => hHeld) ?_
            clear hK K
            intro hH0
            clear hH0
            (intro hN; clear hClo; have hClo := hN; clear hN)
            try simp only [Act.put, List.setIfInBounds_toArray, List.set_cons_zero, List.set_cons_succ]
            refine wpS_one (i := 4) (by kernel_rfl) rfl hClo (fun K hK => ?_)
            rw [if_pos (by rfl)]
            go_simp
            refine hK _ _ (fun _ => ?_) ?_
            · have hh := LA.out
              obtain ⟨y', b', off', hy, e', _, _, q0, q1, q2, q3⟩ := SR.out.at4 hh.bel (i := 0) (by rw [HM.out]; exact hm1)
              cases e'
              obtain rfl : y = y' := by simpa using hy
              simp only [Nat.zero_mul, Nat.add_zero] at q0 q1 q2 q3
              exact ⟨hh.orr.cell (i := 0) rfl, q0, q1, q2, q3⟩
            clear hK K hHeld d0 d1 d2 d3
            intro hH0
            have hHeld := hH0 (by kernel_rfl)
            clear hH0
            (intro hN; clear hClo; have hClo := hN; clear hN)
            try simp only [Act.put, List.setIfInBounds_toArray, List.set_cons_zero, List.set_cons_succ]
            refine wpS_one (i := 5) (by kernel_rfl) rfl hClo (fun K hK => ?_)
            rw [if_pos (by rfl)]
            refine app_in (.tmp 70) (.tmp 74) rfl (fun _ => trivial) rfl LA.out.row _ 1 y rfl (fun j u h => (cell_drew_own _ _).trans (newsT (L := dnL) _ y 35 j u h)) hob LA.out.sz ?_
            intro g cap3 w3 hown hg hat hlt3
            have LB := Lib.hid (LA.out.app LIE.out hown hg hat hlt3)
            have oo3 : Own w3 bo [vo] 22 := (hg.block bo LA.out.oo.lt (fun e => by have := LIE.out.orr; have := LIE.out.rn; have := (LA.out.row.lt bo e.symm).1; omega)).trans LA.out.oo
            have cO3 := oo3.cell (i := 0) rfl
            have fO3 := oo3.frozen
            have zO3 := oo3.lt
            have hcell : ∀ b o v, b ≠ bo → (w3.setCell ⟨bo, 0, none⟩ v).cell? ⟨b, o, none⟩ = w3.cell? ⟨b, o, none⟩ := fun b o v hb => World.cell?_setCell_far _ _ _ _ (by simp; omega)
            refine hK _ _ (fun _ => ?_) ?_
            · have hh := LB.out
              refine ⟨(hcell br 0 _ (by have := LIE.out.orr; omega)).symm.trans (hh.orr.cell (i := 0) rfl), ?_⟩
              obtain ⟨y', b', off', hy, e', _, _, q0, q1, q2, q3⟩ := SR.out.at4 hh.bel (i := 0) (by rw [HM.out]; exact hm1)
              cases e'
              obtain rfl : y = y' := by simpa using hy
              simp only [Nat.zero_mul, Nat.add_zero] at q0 q1 q2 q3
              have hbb : b ≠ bo := by have := LIE.out.e; have := LIE.out.cf; have := LIE.out.fo; omega
              exact ⟨(hcell b _ _ hbb).symm.trans q0, (hcell b _ _ hbb).symm.trans q1, (hcell b _ _ hbb).symm.trans q2, (hcell b _ _ hbb).symm.trans q3⟩
            clear hK K hcell oo3 hown hg hat hHeld
            intro hH0
            have hHeld := hH0 (by kernel_rfl)
            clear hH0
            (intro hN; clear hClo; have hClo := hN; clear hN)
            try simp only [Act.put, List.setIfInBounds_toArray, List.set_cons_zero, List.set_cons_succ]
            refine wpS_one (i := 8) (by kernel_rfl) rfl hClo (fun K hK => ?_)
            rw [if_pos (by rfl)]
            go_simp
            refine hK _ _ (fun _ => ?_) ?_
            · have hh := LB.out
              obtain ⟨y', b', off', hy, e', _, _, q0, q1, q2, q3⟩ := SR.out.at4 hh.bel (i := 0) (by rw [HM.out]; exact hm1)
              cases e'
              obtain rfl : y = y' := by simpa using hy
              simp only [Nat.zero_mul, Nat.add_zero] at q0 q1 q2 q3
              exact ⟨hh.orr.cell (i := 0) rfl, q0, q1, q2, q3⟩
            clear hK K cO3 fO3 zO3 hHeld
            intro hH0
            have hHeld := hH0 (by kernel_rfl)
            clear hH0
            (intro hN; clear hClo; have hClo := hN; clear hN)
            try simp only [Act.put, List.setIfInBounds_toArray, List.set_cons_zero, List.set_cons_succ]
            generalize w3.setCell ⟨bo, 0, none⟩ (.slice (some ⟨g, 0, none⟩) (out.length + 1) cap3) = w4 at LB hHeld ⊢
            have cR4 := LB.out.orr.cell (i := 0) rfl
            have fR4 := LB.out.orr.frozen
            have zR4 := LB.out.orr.lt
            refine wpS_one (i := 9) (by kernel_rfl) rfl hClo (fun K hK => ?_)
            rw [if_pos (by rfl)]
            go_simp
            refine hK _ _ (fun e => absurd (e.symm.trans (by kernel_rfl : _ = true)) (by decide)) ?_
            clear hK K cR4 fR4 zR4 hHeld
            intro hH0
            clear hH0
            (intro hN; clear hClo; have hClo := hN; clear hN)
            have LC := Lib.hid (LB.out.setR LIE.out (.slice (if cr = 1 then some ⟨b, off, none⟩ else some ⟨b, off + 4, none⟩) (m - 1) (cr - 1)))
            refine wpS_done (by kernel_rfl) ?_ _
            gi_wp2
            go_roundw
            case rel => exact ⟨out ++ [y], ys, _, _, m - 1, cr - 1, MG.out.skip (of_decide_eq_true hlt), by have := HM.out; simp at this; omega, by rw [List.length_append]; simp; omega, tail_sl SR.out HM.out, by omega, by omega, LC.out⟩
            case measure => rw [lenAt_own LC.out.orr, lenAt_own L1.out.orr]; omega
          · rw [if_pos (by rfl)]
            go_simp
            refine hK _ _ (fun _ => ?_) ?_
            · have hh := LA.out
              obtain ⟨y', b', off', hy, e', _, _, q0, q1, q2, q3⟩ := SR.out.at4 hh.bel (i := 0) (by rw [HM.out]; exact hm1)
              cases e'
              obtain rfl : y = y' := by simpa using hy
              simp only [Nat.zero_mul, Nat.add_zero] at q0 q1 q2 q3
              exact ⟨hh.orr.cell (i := 0) rfl, q0, q1, q2, q3⟩
            have cO5 : (w2.alloc (.cells #[.int .i64 y.t, .int .i64 y.n, .int .i64 y.s, .int .i64 y.u] 35)).cell? ⟨bo, 0, none⟩ = some vo := LA.out.oo.cell (i := 0) rfl
            clear hK K hHeld d0 d1 d2 d3
            intro hH0
            have hHeld := hH0 (by kernel_rfl)
            clear hH0
            (intro hN; clear hClo; have hClo := hN; clear hN)
            try simp only [Act.put, List.setIfInBounds_toArray, List.set_cons_zero, List.set_cons_succ]
            refine wpS_one (i := 0) (by kernel_rfl) rfl hClo (fun K hK => ?_)
            rw [if_pos (by rfl)]
            go_simp
            refine hK _ _ (fun _ => hHeld) ?_
            clear hK K hHeld cO5
            intro hH0
            have hHeld := hH0 (by kernel_rfl)
            clear hH0
            (intro hN; clear hClo; have hClo := hN; clear hN)
            try simp only [Act.put, List.setIfInBounds_toArray, List.set_cons_zero, List.set_cons_succ]
            refine wpS_one (i := 5) (by kernel_rfl) rfl hClo (fun K hK => ?_)
            rw [if_pos (by rfl)]
            refine app_in (.tmp 70) (.tmp 74) rfl (fun _ => trivial) rfl LA.out.row _ 1 y rfl (fun j u h => (cell_drew_own _ _).trans (newsT (L := dnL) _ y 35 j u h)) hob LA.out.sz ?_
            intro g cap3 w3 hown hg hat hlt3
            have LB := Lib.hid (LA.out.app LIE.out hown hg hat hlt3)
            have oo3 : Own w3 bo [vo] 22 := (hg.block bo LA.out.oo.lt (fun e => by have := LIE.out.orr; have := LIE.out.rn; have := (LA.out.row.lt bo e.symm).1; omega)).trans LA.out.oo
            have cO3 := oo3.cell (i := 0) rfl
            have fO3 := oo3.frozen
            have zO3 := oo3.lt
            have hcell : ∀ b o v, b ≠ bo → (w3.setCell ⟨bo, 0, none⟩ v).cell? ⟨b, o, none⟩ = w3.cell? ⟨b, o, none⟩ := fun b o v hb => World.cell?_setCell_far _ _ _ _ (by simp; omega)
            refine hK _ _ (fun _ => ?_) ?_
            · have hh := LB.out
              refine ⟨(hcell br 0 _ (by have := LIE.out.orr; omega)).symm.trans (hh.orr.cell (i := 0) rfl), ?_⟩
              obtain ⟨y', b', off', hy, e', _, _, q0, q1, q2, q3⟩ := SR.out.at4 hh.bel (i := 0) (by rw [HM.out]; exact hm1)
              cases e'
              obtain rfl : y = y' := by simpa using hy
              simp only [Nat.zero_mul, Nat.add_zero] at q0 q1 q2 q3
              have hbb : b ≠ bo := by have := LIE.out.e; have := LIE.out.cf; have := LIE.out.fo; omega
              exact ⟨(hcell b _ _ hbb).symm.trans q0, (hcell b _ _ hbb).symm.trans q1, (hcell b _ _ hbb).symm.trans q2, (hcell b _ _ hbb).symm.trans q3⟩
            clear hK K hcell oo3 hown hg hat hHeld
            intro hH0
            have hHeld := hH0 (by kernel_rfl)
            clear hH0
            (intro hN; clear hClo; have hClo := hN; clear hN)
            try simp only [Act.put, List.setIfInBounds_toArray, List.set_cons_zero, List.set_cons_succ]
            refine wpS_one (i := 8) (by kernel_rfl) rfl hClo (fun K hK => ?_)
            rw [if_pos (by rfl)]
            go_simp
            refine hK _ _ (fun _ => ?_) ?_
            · have hh := LB.out
              obtain ⟨y', b', off', hy, e', _, _, q0, q1, q2, q3⟩ := SR.out.at4 hh.bel (i := 0) (by rw [HM.out]; exact hm1)
              cases e'
              obtain rfl : y = y' := by simpa using hy
              simp only [Nat.zero_mul, Nat.add_zero] at q0 q1 q2 q3
              exact ⟨hh.orr.cell (i := 0) rfl, q0, q1, q2, q3⟩
            clear hK K cO3 fO3 zO3 hHeld
            intro hH0
            have hHeld := hH0 (by kernel_rfl)
            clear hH0
            (intro hN; clear hClo; have hClo := hN; clear hN)
            try simp only [Act.put, List.setIfInBounds_toArray, List.set_cons_zero, List.set_cons_succ]
            generalize w3.setCell ⟨bo, 0, none⟩ (.slice (some ⟨g, 0, none⟩) (out.length + 1) cap3) = w4 at LB hHeld ⊢
            have cR4 := LB.out.orr.cell (i := 0) rfl
            have fR4 := LB.out.orr.frozen
            have zR4 := LB.out.orr.lt
            refine wpS_one (i := 9) (by kernel_rfl) rfl hClo (fun K hK => ?_)
            rw [if_pos (by rfl)]
            go_simp
            refine hK _ _ (fun e => absurd (e.symm.trans (by kernel_rfl : _ = true)) (by decide)) ?_
            clear hK K cR4 fR4 zR4 hHeld
            intro hH0
            clear hH0
            (intro hN; clear hClo; have hClo := hN; clear hN)
            have LC := Lib.hid (LB.out.setR LIE.out (.slice (if cr = 1 then some ⟨b, off, none⟩ else some ⟨b, off + 4, none⟩) (m - 1) (cr - 1)))
            refine wpS_done (by kernel_rfl) ?_ _
            gi_wp2
            go_roundw
            case rel => exact ⟨out ++ [y], ys, _, _, m - 1, cr - 1, MG.out.skip (of_decide_eq_true hlt), by have := HM.out; simp at this; omega, by rw [List.length_append]; simp; omega, tail_sl SR.out HM.out, by omega, by omega, LC.out⟩
            case measure => rw [lenAt_own LC.out.orr, lenAt_own L1.out.orr]; omega
        | false =>
          gi_wp2
          refine region_S 12 #[false, false, false, false, false, false, false, false, false, false, false, false] (by kernel_rfl) (by kernel_rfl) (fun w' => w'.cell? ⟨br, 0, none⟩ = some (.slice (some ⟨b, off, none⟩) m cr) ∧ w'.cell? ⟨b, off, none⟩ = some (.int .i64 y.t) ∧ w'.cell? ⟨Bx, 0, none⟩ = some (.int .i64 x.t)) 12 _ (fun _ _ h => h) (fun _ => trivial) (by kernel_rfl) ?x52s (fun hHeld hClo => ?x52r)
          case x52s => exact ⟨cR, d0, cX⟩
          refine wpS_take (i := 0) (some 58) 40 (v := ?x53v) (fun _ => trivial) (by kernel_rfl) rfl (by kernel_rfl) (by kernel_rfl) (by kernel_rfl) (by kernel_rfl) rfl (Or.inl ⟨by rfl, ?x53y⟩) hHeld hClo ?x53r
          case x53y => (intro w hSw; (try dsimp only at hSw); go_simp; try with_reducible rfl)
          (intro hN; clear hClo; have hClo := hN; clear hN)
          try simp only [Act.put, List.setIfInBounds_toArray, List.set_cons_zero, List.set_cons_succ]
          refine wpS_take (i := 1) (some 59) 40 (v := ?x54v) (fun _ => trivial) (by kernel_rfl) rfl (by kernel_rfl) (by kernel_rfl) (by kernel_rfl) (by kernel_rfl) rfl (Or.inl ⟨by rfl, ?x54y⟩) hHeld hClo ?x54r
          case x54y => (intro w hSw; (try dsimp only at hSw); go_simp; try with_reducible rfl)
          (intro hN; clear hClo; have hClo := hN; clear hN)
          try simp only [Act.put, List.setIfInBounds_toArray, List.set_cons_zero, List.set_cons_succ]
          refine wpS_take (i := 2) (some 60) 40 (v := ?x55v) (fun _ => trivial) (by kernel_rfl) rfl (by kernel_rfl) (by kernel_rfl) (by kernel_rfl) (by kernel_rfl) rfl (Or.inl ⟨by rfl, ?x55y⟩) hHeld hClo ?x55r
          case x55y => (intro w hSw; (try dsimp only at hSw); go_simp; try with_reducible rfl)
          (intro hN; clear hClo; have hClo := hN; clear hN)
          try simp only [Act.put, List.setIfInBounds_toArray, List.set_cons_zero, List.set_cons_succ]
          refine wpS_take (i := 3) (some 61) 40 (v := ?x56v) (fun _ => trivial) (by kernel_rfl) rfl (by kernel_rfl) (by kernel_rfl) (by kernel_rfl) (by kernel_rfl) rfl (Or.inl ⟨by rfl, ?x56y⟩) hHeld hClo ?x56r
          case x56y => (intro w hSw; (try dsimp only at hSw); go_simp; try with_reducible rfl)
          (intro hN; clear hClo; have hClo := hN; clear hN)
          try simp only [Act.put, List.setIfInBounds_toArray, List.set_cons_zero, List.set_cons_succ]
          refine wpS_take (i := 4) (some 62) 40 (v := ?x57v) (fun _ => trivial) (by kernel_rfl) rfl (by kernel_rfl) (by kernel_rfl) (by kernel_rfl) (by kernel_rfl) rfl (Or.inl ⟨by rfl, ?x57y⟩) hHeld hClo ?x57r
          case x57y => (intro w hSw; (try dsimp only at hSw); go_simp; try with_reducible rfl)
          (intro hN; clear hClo; have hClo := hN; clear hN)
          try simp only [Act.put, List.setIfInBounds_toArray, List.set_cons_zero, List.set_cons_succ]
          refine wpS_take (i := 5) (some 63) 40 (v := ?x58v) (fun _ => trivial) (by kernel_rfl) rfl (by kernel_rfl) (by kernel_rfl) (by kernel_rfl) (by kernel_rfl) rfl (Or.inl ⟨by rfl, ?x58y⟩) hHeld hClo ?x58r
          case x58y => (intro w hSw; (try dsimp only at hSw); go_simp; try with_reducible rfl)
          (intro hN; clear hClo; have hClo := hN; clear hN)
          try simp only [Act.put, List.setIfInBounds_toArray, List.set_cons_zero, List.set_cons_succ]
          refine wpS_take (i := 6) (some 64) 40 (v := ?x59v) (fun _ => trivial) (by kernel_rfl) rfl (by kernel_rfl) (by kernel_rfl) (by kernel_rfl) (by kernel_rfl) rfl (Or.inl ⟨by rfl, ?x59y⟩) hHeld hClo ?x59r
          case x59y => (intro w hSw; (try dsimp only at hSw); go_simp; try with_reducible rfl)
          (intro hN; clear hClo; have hClo := hN; clear hN)
          try simp only [Act.put, List.setIfInBounds_toArray, List.set_cons_zero, List.set_cons_succ]
          refine wpS_take (i := 7) (some 65) 40 (v := ?x60v) (fun _ => trivial) (by kernel_rfl) rfl (by kernel_rfl) (by kernel_rfl) (by kernel_rfl) (by kernel_rfl) rfl (Or.inl ⟨by rfl, ?x60y⟩) hHeld hClo ?x60r
          case x60y => (intro w hSw; (try dsimp only at hSw); go_simp; try with_reducible rfl)
          (intro hN; clear hClo; have hClo := hN; clear hN)
          try simp only [Act.put, List.setIfInBounds_toArray, List.set_cons_zero, List.set_cons_succ]
          refine wpS_take (i := 8) (some 66) 40 (v := ?x61v) (fun _ => trivial) (by kernel_rfl) rfl (by kernel_rfl) (by kernel_rfl) (by kernel_rfl) (by kernel_rfl) rfl (Or.inl ⟨by rfl, ?x61y⟩) hHeld hClo ?x61r
          case x61y => (intro w hSw; (try dsimp only at hSw); go_simp; try with_reducible rfl)
          (intro hN; clear hClo; have hClo := hN; clear hN)
          try simp only [Act.put, List.setIfInBounds_toArray, List.set_cons_zero, List.set_cons_succ]
          refine wpS_take (i := 9) (some 67) 40 (v := ?x62v) (fun _ => trivial) (by kernel_rfl) rfl (by kernel_rfl) (by kernel_rfl) (by kernel_rfl) (by kernel_rfl) rfl (Or.inl ⟨by rfl, ?x62y⟩) hHeld hClo ?x62r
          case x62y => (intro w hSw; (try dsimp only at hSw); go_simp; try with_reducible rfl)
          (intro hN; clear hClo; have hClo := hN; clear hN)
          try simp only [Act.put, List.setIfInBounds_toArray, List.set_cons_zero, List.set_cons_succ]
          refine wpS_take (i := 10) (some 68) 40 (v := ?x63v) (fun _ => trivial) (by kernel_rfl) rfl (by kernel_rfl) (by kernel_rfl) (by kernel_rfl) (by kernel_rfl) rfl (Or.inl ⟨by rfl, ?x63y⟩) hHeld hClo ?x63r
          case x63y => (intro w hSw; (try dsimp only at hSw); go_simp; try with_reducible rfl)
          (intro hN; clear hClo; have hClo := hN; clear hN)
          try simp only [Act.put, List.setIfInBounds_toArray, List.set_cons_zero, List.set_cons_succ]
          refine wpS_take (i := 11) (some 69) 40 (v := ?x64v) (fun _ => trivial) (by kernel_rfl) rfl (by kernel_rfl) (by kernel_rfl) (by kernel_rfl) (by kernel_rfl) rfl (Or.inl ⟨by rfl, ?x64y⟩) hHeld hClo ?x64r
          case x64y => (intro w hSw; (try dsimp only at hSw); go_simp; try with_reducible rfl)
          (intro hN; clear hClo; have hClo := hN; clear hN)
          try simp only [Act.put, List.setIfInBounds_toArray, List.set_cons_zero, List.set_cons_succ]
          clear hHeld hClo
          refine wpS_done (by kernel_rfl) ?_ _
          clear d0 d1 d2 d3
          have hge := of_decide_eq_false hlt
          cases he : (y.t == x.t) with
          | false =>
            have hgt := Lib.hid (show x.t < y.t by have := beq_eq_false_iff_ne.1 he; omega)
            clear hge
            have L2 := Lib.hid L1.out.drew
            clear cR cX
            generalize wr.drew = w2 at L2 ⊢
            have cC := L2.out.oc.cell (i := 0) rfl
            have cF := L2.out.of.cell (i := 0) rfl
            obtain ⟨x0, x1, x2, x3, fX, zX⟩ := own4 L2.out.ox
            have wF : IntKind.i64.wrap (f + 3) = f + 3 := IntWalk.i64_in _ (by have := HF.out; omega)
            have hxc : Bx ≠ bc := by have := LIE.out.nB; have := LIE.out.rn; have := LIE.out.orr; have := LIE.out.fo; have := LIE.out.cf; omega
            have hxf : Bx ≠ bf := by have := LIE.out.nB; have := LIE.out.rn; have := LIE.out.orr; have := LIE.out.fo; omega
            gi_wp2
            have e1c : (w2.setCell ⟨Bx, 1, none⟩ (.int .i64 c)).cell? ⟨bc, 0, none⟩ = some (.int .i64 c) := (World.cell?_setCell_far _ _ _ _ hxc).trans cC
            have e1f : (w2.setCell ⟨Bx, 1, none⟩ (.int .i64 c)).cell? ⟨bf, 0, none⟩ = some (.int .i64 f) := (World.cell?_setCell_far _ _ _ _ hxf).trans cF
            refine region_S 7 #[false, false, false, false, false, false, false] (by kernel_rfl) (by kernel_rfl) (fun w' => w'.cell? ⟨bc, 0, none⟩ = some (.int .i64 c) ∧ w'.cell? ⟨bf, 0, none⟩ = some (.int .i64 f)) 6 _ (fun _ _ h => h) (fun _ => trivial) (by kernel_rfl) ?x66s (fun hHeld hClo => ?x66r)
            case x66s => exact ⟨cC, cF⟩
            refine wpS_take (i := 0) (some 78) 40 (v := ?x67v) (fun _ => trivial) (by kernel_rfl) rfl (by kernel_rfl) (by kernel_rfl) (by kernel_rfl) (by kernel_rfl) rfl (Or.inl ⟨by rfl, ?x67y⟩) hHeld hClo ?x67r
            case x67y => (intro w hSw; (try dsimp only at hSw); go_simp; try with_reducible rfl)
            (intro hN; clear hClo; have hClo := hN; clear hN)
            try simp only [Act.put, List.setIfInBounds_toArray, List.set_cons_zero, List.set_cons_succ]
            refine wpS_take (i := 1) (some 79) 40 (v := ?x68v) (fun _ => trivial) (by kernel_rfl) rfl (by kernel_rfl) (by kernel_rfl) (by kernel_rfl) (by kernel_rfl) rfl (Or.inl ⟨by rfl, ?x68y⟩) hHeld hClo ?x68r
            case x68y => (intro w hSw; (try dsimp only at hSw); go_simp; try with_reducible rfl)
            (intro hN; clear hClo; have hClo := hN; clear hN)
            try simp only [Act.put, List.setIfInBounds_toArray, List.set_cons_zero, List.set_cons_succ]
            refine wpS_take (i := 2) (some 80) 40 (v := ?x69v) (fun _ => trivial) (by kernel_rfl) rfl (by kernel_rfl) (by kernel_rfl) (by kernel_rfl) (by kernel_rfl) rfl (Or.inl ⟨by rfl, ?x69y⟩) hHeld hClo ?x69r
            case x69y => (intro w hSw; (try dsimp only at hSw); go_simp; try with_reducible rfl)
            (intro hN; clear hClo; have hClo := hN; clear hN)
            try simp only [Act.put, List.setIfInBounds_toArray, List.set_cons_zero, List.set_cons_succ]
            refine wpS_take (i := 3) (some 81) 40 (v := ?x70v) (fun _ => trivial) (by kernel_rfl) rfl (by kernel_rfl) (by kernel_rfl) (by kernel_rfl) (by kernel_rfl) rfl (Or.inl ⟨by rfl, ?x70y⟩) hHeld hClo ?x70r
            case x70y => (intro w hSw; (try dsimp only at hSw); go_simp; try with_reducible rfl)
            (intro hN; clear hClo; have hClo := hN; clear hN)
            try simp only [Act.put, List.setIfInBounds_toArray, List.set_cons_zero, List.set_cons_succ]
            refine wpS_one (i := 4) (by kernel_rfl) rfl hClo (fun K hK => ?_)
            rw [if_pos (by rfl)]
            go_simp
            refine hK _ _ (fun _ => ⟨(cell_drew_own _ _).trans e1c, (cell_drew_own _ _).trans e1f⟩) ?_
            clear hK K hHeld
            intro hH0
            have hHeld := hH0 (by kernel_rfl)
            clear hH0
            (intro hN; clear hClo; have hClo := hN; clear hN)
            try simp only [Act.put, List.setIfInBounds_toArray, List.set_cons_zero, List.set_cons_succ]
            refine wpS_take (i := 5) (some 82) 40 (v := ?x65v) (fun _ => trivial) (by kernel_rfl) rfl (by kernel_rfl) (by kernel_rfl) (by kernel_rfl) (by kernel_rfl) rfl (Or.inl ⟨by rfl, ?x65y⟩) hHeld hClo ?x65r
            case x65y => (intro w hSw; (try dsimp only at hSw); go_simp; try with_reducible rfl)
            (intro hN; clear hClo; have hClo := hN; clear hN)
            try simp only [Act.put, List.setIfInBounds_toArray, List.set_cons_zero, List.set_cons_succ]
            refine wpS_one (i := 6) (by kernel_rfl) rfl hClo (fun K hK => ?_)
            rw [if_pos (by rfl)]
            go_simp
            refine hK _ _ (fun e => absurd (e.symm.trans (by kernel_rfl : _ = true)) (by decide)) ?_
            clear hK K hHeld hClo
            intro hH0 hClo
            clear hH0 hClo
            have L3 := Lib.hid (L2.out.setX LIE.out (n' := c) (u' := f + 3) (.inl rfl)).drew
            clear e1c e1f cC cF x0 x1 x2 x3 fX zX
            refine wpS_done (by kernel_rfl) ?_ _
            generalize ((w2.setCell ⟨Bx, 1, none⟩ (.int .i64 c)).setCell ⟨Bx, 3, none⟩ (.int .i64 (f + 3))).drew = w3 at L3 ⊢
            have cR := L3.out.orr.cell (i := 0) rfl
            have cX := L3.out.ox.cell (i := 0) rfl
            obtain ⟨y', b', off', hy, e', _, _, d0, d1, d2, d3⟩ := SR.out.at4 L3.out.bel (i := 0) (by rw [HM.out]; exact hm1)
            cases e'
            obtain rfl : y = y' := by simpa using hy
            simp only [Nat.zero_mul, Nat.add_zero] at d0 d1 d2 d3
            clear hy
            gi_wp2
            refine region_S 12 #[false, false, false, false, false, false, false, false, false, false, false, false] (by kernel_rfl) (by kernel_rfl) (fun w' => w'.cell? ⟨br, 0, none⟩ = some (.slice (some ⟨b, off, none⟩) m cr) ∧ w'.cell? ⟨b, off, none⟩ = some (.int .i64 y.t) ∧ w'.cell? ⟨Bx, 0, none⟩ = some (.int .i64 x.t)) 12 _ (fun _ _ h => h) (fun _ => trivial) (by kernel_rfl) ?x71s (fun hHeld hClo => ?x71r)
            case x71s => exact ⟨cR, d0, cX⟩
            refine wpS_take (i := 0) (some 83) 40 (v := ?x72v) (fun _ => trivial) (by kernel_rfl) rfl (by kernel_rfl) (by kernel_rfl) (by kernel_rfl) (by kernel_rfl) rfl (Or.inl ⟨by rfl, ?x72y⟩) hHeld hClo ?x72r
            case x72y => (intro w hSw; (try dsimp only at hSw); go_simp; try with_reducible rfl)
            (intro hN; clear hClo; have hClo := hN; clear hN)
            try simp only [Act.put, List.setIfInBounds_toArray, List.set_cons_zero, List.set_cons_succ]
            refine wpS_take (i := 1) (some 84) 40 (v := ?x73v) (fun _ => trivial) (by kernel_rfl) rfl (by kernel_rfl) (by kernel_rfl) (by kernel_rfl) (by kernel_rfl) rfl (Or.inl ⟨by rfl, ?x73y⟩) hHeld hClo ?x73r
            case x73y => (intro w hSw; (try dsimp only at hSw); go_simp; try with_reducible rfl)
            (intro hN; clear hClo; have hClo := hN; clear hN)
            try simp only [Act.put, List.setIfInBounds_toArray, List.set_cons_zero, List.set_cons_succ]
            refine wpS_take (i := 2) (some 85) 40 (v := ?x74v) (fun _ => trivial) (by kernel_rfl) rfl (by kernel_rfl) (by kernel_rfl) (by kernel_rfl) (by kernel_rfl) rfl (Or.inl ⟨by rfl, ?x74y⟩) hHeld hClo ?x74r
            case x74y => (intro w hSw; (try dsimp only at hSw); go_simp; try with_reducible rfl)
            (intro hN; clear hClo; have hClo := hN; clear hN)
            try simp only [Act.put, List.setIfInBounds_toArray, List.set_cons_zero, List.set_cons_succ]
            refine wpS_take (i := 3) (some 86) 40 (v := ?x75v) (fun _ => trivial) (by kernel_rfl) rfl (by kernel_rfl) (by kernel_rfl) (by kernel_rfl) (by kernel_rfl) rfl (Or.inl ⟨by rfl, ?x75y⟩) hHeld hClo ?x75r
            case x75y => (intro w hSw; (try dsimp only at hSw); go_simp; try with_reducible rfl)
            (intro hN; clear hClo; have hClo := hN; clear hN)
            try simp only [Act.put, List.setIfInBounds_toArray, List.set_cons_zero, List.set_cons_succ]
            refine wpS_take (i := 4) (some 87) 40 (v := ?x76v) (fun _ => trivial) (by kernel_rfl) rfl (by kernel_rfl) (by kernel_rfl) (by kernel_rfl) (by kernel_rfl) rfl (Or.inl ⟨by rfl, ?x76y⟩) hHeld hClo ?x76r
            case x76y => (intro w hSw; (try dsimp only at hSw); go_simp; try with_reducible rfl)
            (intro hN; clear hClo; have hClo := hN; clear hN)
            try simp only [Act.put, List.setIfInBounds_toArray, List.set_cons_zero, List.set_cons_succ]
            refine wpS_take (i := 5) (some 88) 40 (v := ?x77v) (fun _ => trivial) (by kernel_rfl) rfl (by kernel_rfl) (by kernel_rfl) (by kernel_rfl) (by kernel_rfl) rfl (Or.inl ⟨by rfl, ?x77y⟩) hHeld hClo ?x77r
            case x77y => (intro w hSw; (try dsimp only at hSw); go_simp; try with_reducible rfl)
            (intro hN; clear hClo; have hClo := hN; clear hN)
            try simp only [Act.put, List.setIfInBounds_toArray, List.set_cons_zero, List.set_cons_succ]
            refine wpS_take (i := 6) (some 89) 40 (v := ?x78v) (fun _ => trivial) (by kernel_rfl) rfl (by kernel_rfl) (by kernel_rfl) (by kernel_rfl) (by kernel_rfl) rfl (Or.inl ⟨by rfl, ?x78y⟩) hHeld hClo ?x78r
            case x78y => (intro w hSw; (try dsimp only at hSw); go_simp; try with_reducible rfl)
            (intro hN; clear hClo; have hClo := hN; clear hN)
            try simp only [Act.put, List.setIfInBounds_toArray, List.set_cons_zero, List.set_cons_succ]
            refine wpS_take (i := 7) (some 90) 40 (v := ?x79v) (fun _ => trivial) (by kernel_rfl) rfl (by kernel_rfl) (by kernel_rfl) (by kernel_rfl) (by kernel_rfl) rfl (Or.inl ⟨by rfl, ?x79y⟩) hHeld hClo ?x79r
            case x79y => (intro w hSw; (try dsimp only at hSw); go_simp; try with_reducible rfl)
            (intro hN; clear hClo; have hClo := hN; clear hN)
            try simp only [Act.put, List.setIfInBounds_toArray, List.set_cons_zero, List.set_cons_succ]
            refine wpS_take (i := 8) (some 91) 40 (v := ?x80v) (fun _ => trivial) (by kernel_rfl) rfl (by kernel_rfl) (by kernel_rfl) (by kernel_rfl) (by kernel_rfl) rfl (Or.inl ⟨by rfl, ?x80y⟩) hHeld hClo ?x80r
            case x80y => (intro w hSw; (try dsimp only at hSw); go_simp; try with_reducible rfl)
            (intro hN; clear hClo; have hClo := hN; clear hN)
            try simp only [Act.put, List.setIfInBounds_toArray, List.set_cons_zero, List.set_cons_succ]
            refine wpS_take (i := 9) (some 92) 40 (v := ?x81v) (fun _ => trivial) (by kernel_rfl) rfl (by kernel_rfl) (by kernel_rfl) (by kernel_rfl) (by kernel_rfl) rfl (Or.inl ⟨by rfl, ?x81y⟩) hHeld hClo ?x81r
            case x81y => (intro w hSw; (try dsimp only at hSw); go_simp; try with_reducible rfl)
            (intro hN; clear hClo; have hClo := hN; clear hN)
            try simp only [Act.put, List.setIfInBounds_toArray, List.set_cons_zero, List.set_cons_succ]
            refine wpS_take (i := 10) (some 93) 40 (v := ?x82v) (fun _ => trivial) (by kernel_rfl) rfl (by kernel_rfl) (by kernel_rfl) (by kernel_rfl) (by kernel_rfl) rfl (Or.inl ⟨by rfl, ?x82y⟩) hHeld hClo ?x82r
            case x82y => (intro w hSw; (try dsimp only at hSw); go_simp; try with_reducible rfl)
            (intro hN; clear hClo; have hClo := hN; clear hN)
            try simp only [Act.put, List.setIfInBounds_toArray, List.set_cons_zero, List.set_cons_succ]
            refine wpS_take (i := 11) (some 94) 40 (v := ?x83v) (fun _ => trivial) (by kernel_rfl) rfl (by kernel_rfl) (by kernel_rfl) (by kernel_rfl) (by kernel_rfl) rfl (Or.inl ⟨by rfl, ?x83y⟩) hHeld hClo ?x83r
            case x83y => (intro w hSw; (try dsimp only at hSw); go_simp; try with_reducible rfl)
            (intro hN; clear hClo; have hClo := hN; clear hN)
            try simp only [Act.put, List.setIfInBounds_toArray, List.set_cons_zero, List.set_cons_succ]
            clear hHeld hClo
            refine wpS_done (by kernel_rfl) ?_ _
            have L4 := Lib.hid L3.out.drew
            clear cR cX d0 d1 d2 d3
            generalize w3.drew = w4 at L4 ⊢
            have cR := L4.out.orr.cell (i := 0) rfl
            have fR := L4.out.orr.frozen
            have zR := L4.out.orr.lt
            have cO := L4.out.oo.cell (i := 0) rfl
            have cC := L4.out.oc.cell (i := 0) rfl
            have zC := L4.out.oc.lt
            have zO := L4.out.oo.lt
            obtain ⟨x0, x1, x2, x3, fX, zX⟩ := own4 L4.out.ox
            obtain ⟨y', b', off', hy, e', _, _, d0, d1, d2, d3⟩ := SR.out.at4 L4.out.bel (i := 0) (by rw [HM.out]; exact hm1)
            cases e'
            obtain rfl : y = y' := by simpa using hy
            simp only [Nat.zero_mul, Nat.add_zero] at d0 d1 d2 d3
            clear hy
            gi_wp2_with (first | (gi_at_builtin; refine app_list rfl (.tmp 115) (.tmp 117) rfl (fun _ => trivial) rfl (L4.out.alloc LIE.out (.cells #[.int .i64 x.t, .int .i64 c, .int .i64 x.s, .int .i64 (f + 3)] 35)).row _ 1 (nwD c f x) rfl (fun j u h => newsT (L := dnL) _ (nwD c f x) 35 j u h) hob (L4.out.alloc LIE.out (.cells #[.int .i64 x.t, .int .i64 c, .int .i64 x.s, .int .i64 (f + 3)] 35)).sz ?_; intro g cap3 w5 hown hg hat hlt3; have LZ := Lib.hid ((L4.out.alloc LIE.out (.cells #[.int .i64 x.t, .int .i64 c, .int .i64 x.s, .int .i64 (f + 3)] 35)).app LIE.out hown hg hat hlt3); have oo5 : Own w5 bo [vo] 22 := (hg.block bo (L4.out.alloc LIE.out (.cells #[.int .i64 x.t, .int .i64 c, .int .i64 x.s, .int .i64 (f + 3)] 35)).oo.lt (fun e => by have := LIE.out.orr; have := LIE.out.rn; have := ((L4.out.alloc LIE.out (.cells #[.int .i64 x.t, .int .i64 c, .int .i64 x.s, .int .i64 (f + 3)] 35)).row.lt bo e.symm).1; omega)).trans (L4.out.alloc LIE.out (.cells #[.int .i64 x.t, .int .i64 c, .int .i64 x.s, .int .i64 (f + 3)] 35)).oo; have cO5 := oo5.cell (i := 0) rfl; have fO5 := oo5.frozen; have zO5 := oo5.lt; clear hown hg hat hlt3 oo5) | fail)
            exact ⟨by first | exact LZ.out.kb.kf | (rw [HN0.out]; exact LZ.out.kb.kf), LZ.out.kb.kp, LZ.out.inv (MG.out.lt hgt.out) HM.out (by rw [List.length_append, List.length_append]; simp; omega) SR.out hmc hcr⟩
          | true =>
            have HEQ := Lib.hid (eq_of_beq he)
            clear hge
            cases hk1 : (y.n == c) with
            | true =>
              have HK := Lib.hid (show lrKeep y c (nwD c f x) = false by rw [lrKeep, bne, hk1]; rfl)
              have L2 := Lib.hid L1.out.drew
              clear cR cX
              generalize wr.drew = w2 at L2 ⊢
              have cC := L2.out.oc.cell (i := 0) rfl
              have cF := L2.out.of.cell (i := 0) rfl
              obtain ⟨x0, x1, x2, x3, fX, zX⟩ := own4 L2.out.ox
              have wF : IntKind.i64.wrap (f + 3) = f + 3 := IntWalk.i64_in _ (by have := HF.out; omega)
              have hxc : Bx ≠ bc := by have := LIE.out.nB; have := LIE.out.rn; have := LIE.out.orr; have := LIE.out.fo; have := LIE.out.cf; omega
              have hxf : Bx ≠ bf := by have := LIE.out.nB; have := LIE.out.rn; have := LIE.out.orr; have := LIE.out.fo; omega
              gi_wp2
              have e1c : (w2.setCell ⟨Bx, 1, none⟩ (.int .i64 c)).cell? ⟨bc, 0, none⟩ = some (.int .i64 c) := (World.cell?_setCell_far _ _ _ _ hxc).trans cC
              have e1f : (w2.setCell ⟨Bx, 1, none⟩ (.int .i64 c)).cell? ⟨bf, 0, none⟩ = some (.int .i64 f) := (World.cell?_setCell_far _ _ _ _ hxf).trans cF
              refine region_S 7 #[false, false, false, false, false, false, false] (by kernel_rfl) (by kernel_rfl) (fun w' => w'.cell? ⟨bc, 0, none⟩ = some (.int .i64 c) ∧ w'.cell? ⟨bf, 0, none⟩ = some (.int .i64 f)) 6 _ (fun _ _ h => h) (fun _ => trivial) (by kernel_rfl) ?x85s (fun hHeld hClo => ?x85r)
              case x85s => exact ⟨cC, cF⟩
              refine wpS_take (i := 0) (some 78) 40 (v := ?x86v) (fun _ => trivial) (by kernel_rfl) rfl (by kernel_rfl) (by kernel_rfl) (by kernel_rfl) (by kernel_rfl) rfl (Or.inl ⟨by rfl, ?x86y⟩) hHeld hClo ?x86r
              case x86y => (intro w hSw; (try dsimp only at hSw); go_simp; try with_reducible rfl)
              (intro hN; clear hClo; have hClo := hN; clear hN)
              try simp only [Act.put, List.setIfInBounds_toArray, List.set_cons_zero, List.set_cons_succ]
              refine wpS_take (i := 1) (some 79) 40 (v := ?x87v) (fun _ => trivial) (by kernel_rfl) rfl (by kernel_rfl) (by kernel_rfl) (by kernel_rfl) (by kernel_rfl) rfl (Or.inl ⟨by rfl, ?x87y⟩) hHeld hClo ?x87r
              case x87y => (intro w hSw; (try dsimp only at hSw); go_simp; try with_reducible rfl)
              (intro hN; clear hClo; have hClo := hN; clear hN)
              try simp only [Act.put, List.setIfInBounds_toArray, List.set_cons_zero, List.set_cons_succ]
              refine wpS_take (i := 2) (some 80) 40 (v := ?x88v) (fun _ => trivial) (by kernel_rfl) rfl (by kernel_rfl) (by kernel_rfl) (by kernel_rfl) (by kernel_rfl) rfl (Or.inl ⟨by rfl, ?x88y⟩) hHeld hClo ?x88r
              case x88y => (intro w hSw; (try dsimp only at hSw); go_simp; try with_reducible rfl)
              (intro hN; clear hClo; have hClo := hN; clear hN)
              try simp only [Act.put, List.setIfInBounds_toArray, List.set_cons_zero, List.set_cons_succ]
              refine wpS_take (i := 3) (some 81) 40 (v := ?x89v) (fun _ => trivial) (by kernel_rfl) rfl (by kernel_rfl) (by kernel_rfl) (by kernel_rfl) (by kernel_rfl) rfl (Or.inl ⟨by rfl, ?x89y⟩) hHeld hClo ?x89r
              case x89y => (intro w hSw; (try dsimp only at hSw); go_simp; try with_reducible rfl)
              (intro hN; clear hClo; have hClo := hN; clear hN)
              try simp only [Act.put, List.setIfInBounds_toArray, List.set_cons_zero, List.set_cons_succ]
              refine wpS_one (i := 4) (by kernel_rfl) rfl hClo (fun K hK => ?_)
              rw [if_pos (by rfl)]
              go_simp
              refine hK _ _ (fun _ => ⟨(cell_drew_own _ _).trans e1c, (cell_drew_own _ _).trans e1f⟩) ?_
              clear hK K hHeld
              intro hH0
              have hHeld := hH0 (by kernel_rfl)
              clear hH0
              (intro hN; clear hClo; have hClo := hN; clear hN)
              try simp only [Act.put, List.setIfInBounds_toArray, List.set_cons_zero, List.set_cons_succ]
              refine wpS_take (i := 5) (some 82) 40 (v := ?x84v) (fun _ => trivial) (by kernel_rfl) rfl (by kernel_rfl) (by kernel_rfl) (by kernel_rfl) (by kernel_rfl) rfl (Or.inl ⟨by rfl, ?x84y⟩) hHeld hClo ?x84r
              case x84y => (intro w hSw; (try dsimp only at hSw); go_simp; try with_reducible rfl)
              (intro hN; clear hClo; have hClo := hN; clear hN)
              try simp only [Act.put, List.setIfInBounds_toArray, List.set_cons_zero, List.set_cons_succ]
              refine wpS_one (i := 6) (by kernel_rfl) rfl hClo (fun K hK => ?_)
              rw [if_pos (by rfl)]
              go_simp
              refine hK _ _ (fun e => absurd (e.symm.trans (by kernel_rfl : _ = true)) (by decide)) ?_
              clear hK K hHeld hClo
              intro hH0 hClo
              clear hH0 hClo
              have L3 := Lib.hid (L2.out.setX LIE.out (n' := c) (u' := f + 3) (.inl rfl)).drew
              clear e1c e1f cC cF x0 x1 x2 x3 fX zX
              refine wpS_done (by kernel_rfl) ?_ _
              generalize ((w2.setCell ⟨Bx, 1, none⟩ (.int .i64 c)).setCell ⟨Bx, 3, none⟩ (.int .i64 (f + 3))).drew = w3 at L3 ⊢
              have cR := L3.out.orr.cell (i := 0) rfl
              have cX := L3.out.ox.cell (i := 0) rfl
              obtain ⟨y', b', off', hy, e', _, _, d0, d1, d2, d3⟩ := SR.out.at4 L3.out.bel (i := 0) (by rw [HM.out]; exact hm1)
              cases e'
              obtain rfl : y = y' := by simpa using hy
              simp only [Nat.zero_mul, Nat.add_zero] at d0 d1 d2 d3
              clear hy
              gi_wp2
              refine region_S 12 #[false, false, false, false, false, false, false, false, false, false, false, false] (by kernel_rfl) (by kernel_rfl) (fun w' => w'.cell? ⟨br, 0, none⟩ = some (.slice (some ⟨b, off, none⟩) m cr) ∧ w'.cell? ⟨b, off, none⟩ = some (.int .i64 y.t) ∧ w'.cell? ⟨Bx, 0, none⟩ = some (.int .i64 x.t)) 12 _ (fun _ _ h => h) (fun _ => trivial) (by kernel_rfl) ?x90s (fun hHeld hClo => ?x90r)
              case x90s => exact ⟨cR, d0, cX⟩
              refine wpS_take (i := 0) (some 83) 40 (v := ?x91v) (fun _ => trivial) (by kernel_rfl) rfl (by kernel_rfl) (by kernel_rfl) (by kernel_rfl) (by kernel_rfl) rfl (Or.inl ⟨by rfl, ?x91y⟩) hHeld hClo ?x91r
              case x91y => (intro w hSw; (try dsimp only at hSw); go_simp; try with_reducible rfl)
              (intro hN; clear hClo; have hClo := hN; clear hN)
              try simp only [Act.put, List.setIfInBounds_toArray, List.set_cons_zero, List.set_cons_succ]
              refine wpS_take (i := 1) (some 84) 40 (v := ?x92v) (fun _ => trivial) (by kernel_rfl) rfl (by kernel_rfl) (by kernel_rfl) (by kernel_rfl) (by kernel_rfl) rfl (Or.inl ⟨by rfl, ?x92y⟩) hHeld hClo ?x92r
              case x92y => (intro w hSw; (try dsimp only at hSw); go_simp; try with_reducible rfl)
              (intro hN; clear hClo; have hClo := hN; clear hN)
              try simp only [Act.put, List.setIfInBounds_toArray, List.set_cons_zero, List.set_cons_succ]
              refine wpS_take (i := 2) (some 85) 40 (v := ?x93v) (fun _ => trivial) (by kernel_rfl) rfl (by kernel_rfl) (by kernel_rfl) (by kernel_rfl) (by kernel_rfl) rfl (Or.inl ⟨by rfl, ?x93y⟩) hHeld hClo ?x93r
              case x93y => (intro w hSw; (try dsimp only at hSw); go_simp; try with_reducible rfl)
              (intro hN; clear hClo; have hClo := hN; clear hN)
              try simp only [Act.put, List.setIfInBounds_toArray, List.set_cons_zero, List.set_cons_succ]
              refine wpS_take (i := 3) (some 86) 40 (v := ?x94v) (fun _ => trivial) (by kernel_rfl) rfl (by kernel_rfl) (by kernel_rfl) (by kernel_rfl) (by kernel_rfl) rfl (Or.inl ⟨by rfl, ?x94y⟩) hHeld hClo ?x94r
              case x94y => (intro w hSw; (try dsimp only at hSw); go_simp; try with_reducible rfl)
              (intro hN; clear hClo; have hClo := hN; clear hN)
              try simp only [Act.put, List.setIfInBounds_toArray, List.set_cons_zero, List.set_cons_succ]
              refine wpS_take (i := 4) (some 87) 40 (v := ?x95v) (fun _ => trivial) (by kernel_rfl) rfl (by kernel_rfl) (by kernel_rfl) (by kernel_rfl) (by kernel_rfl) rfl (Or.inl ⟨by rfl, ?x95y⟩) hHeld hClo ?x95r
              case x95y => (intro w hSw; (try dsimp only at hSw); go_simp; try with_reducible rfl)
              (intro hN; clear hClo; have hClo := hN; clear hN)
              try simp only [Act.put, List.setIfInBounds_toArray, List.set_cons_zero, List.set_cons_succ]
              refine wpS_take (i := 5) (some 88) 40 (v := ?x96v) (fun _ => trivial) (by kernel_rfl) rfl (by kernel_rfl) (by kernel_rfl) (by kernel_rfl) (by kernel_rfl) rfl (Or.inl ⟨by rfl, ?x96y⟩) hHeld hClo ?x96r
              case x96y => (intro w hSw; (try dsimp only at hSw); go_simp; try with_reducible rfl)
              (intro hN; clear hClo; have hClo := hN; clear hN)
              try simp only [Act.put, List.setIfInBounds_toArray, List.set_cons_zero, List.set_cons_succ]
              refine wpS_take (i := 6) (some 89) 40 (v := ?x97v) (fun _ => trivial) (by kernel_rfl) rfl (by kernel_rfl) (by kernel_rfl) (by kernel_rfl) (by kernel_rfl) rfl (Or.inl ⟨by rfl, ?x97y⟩) hHeld hClo ?x97r
              case x97y => (intro w hSw; (try dsimp only at hSw); go_simp; try with_reducible rfl)
              (intro hN; clear hClo; have hClo := hN; clear hN)
              try simp only [Act.put, List.setIfInBounds_toArray, List.set_cons_zero, List.set_cons_succ]
              refine wpS_take (i := 7) (some 90) 40 (v := ?x98v) (fun _ => trivial) (by kernel_rfl) rfl (by kernel_rfl) (by kernel_rfl) (by kernel_rfl) (by kernel_rfl) rfl (Or.inl ⟨by rfl, ?x98y⟩) hHeld hClo ?x98r
              case x98y => (intro w hSw; (try dsimp only at hSw); go_simp; try with_reducible rfl)
              (intro hN; clear hClo; have hClo := hN; clear hN)
              try simp only [Act.put, List.setIfInBounds_toArray, List.set_cons_zero, List.set_cons_succ]
              refine wpS_take (i := 8) (some 91) 40 (v := ?x99v) (fun _ => trivial) (by kernel_rfl) rfl (by kernel_rfl) (by kernel_rfl) (by kernel_rfl) (by kernel_rfl) rfl (Or.inl ⟨by rfl, ?x99y⟩) hHeld hClo ?x99r
              case x99y => (intro w hSw; (try dsimp only at hSw); go_simp; try with_reducible rfl)
              (intro hN; clear hClo; have hClo := hN; clear hN)
              try simp only [Act.put, List.setIfInBounds_toArray, List.set_cons_zero, List.set_cons_succ]
              refine wpS_take (i := 9) (some 92) 40 (v := ?x100v) (fun _ => trivial) (by kernel_rfl) rfl (by kernel_rfl) (by kernel_rfl) (by kernel_rfl) (by kernel_rfl) rfl (Or.inl ⟨by rfl, ?x100y⟩) hHeld hClo ?x100r
              case x100y => (intro w hSw; (try dsimp only at hSw); go_simp; try with_reducible rfl)
              (intro hN; clear hClo; have hClo := hN; clear hN)
              try simp only [Act.put, List.setIfInBounds_toArray, List.set_cons_zero, List.set_cons_succ]
              refine wpS_take (i := 10) (some 93) 40 (v := ?x101v) (fun _ => trivial) (by kernel_rfl) rfl (by kernel_rfl) (by kernel_rfl) (by kernel_rfl) (by kernel_rfl) rfl (Or.inl ⟨by rfl, ?x101y⟩) hHeld hClo ?x101r
              case x101y => (intro w hSw; (try dsimp only at hSw); go_simp; try with_reducible rfl)
              (intro hN; clear hClo; have hClo := hN; clear hN)
              try simp only [Act.put, List.setIfInBounds_toArray, List.set_cons_zero, List.set_cons_succ]
              refine wpS_take (i := 11) (some 94) 40 (v := ?x102v) (fun _ => trivial) (by kernel_rfl) rfl (by kernel_rfl) (by kernel_rfl) (by kernel_rfl) (by kernel_rfl) rfl (Or.inl ⟨by rfl, ?x102y⟩) hHeld hClo ?x102r
              case x102y => (intro w hSw; (try dsimp only at hSw); go_simp; try with_reducible rfl)
              (intro hN; clear hClo; have hClo := hN; clear hN)
              try simp only [Act.put, List.setIfInBounds_toArray, List.set_cons_zero, List.set_cons_succ]
              clear hHeld hClo
              refine wpS_done (by kernel_rfl) ?_ _
              have L4 := Lib.hid L3.out.drew
              clear cR cX d0 d1 d2 d3
              generalize w3.drew = w4 at L4 ⊢
              have cR := L4.out.orr.cell (i := 0) rfl
              have fR := L4.out.orr.frozen
              have zR := L4.out.orr.lt
              have cO := L4.out.oo.cell (i := 0) rfl
              have cC := L4.out.oc.cell (i := 0) rfl
              have zC := L4.out.oc.lt
              have zO := L4.out.oo.lt
              obtain ⟨x0, x1, x2, x3, fX, zX⟩ := own4 L4.out.ox
              obtain ⟨y', b', off', hy, e', _, _, d0, d1, d2, d3⟩ := SR.out.at4 L4.out.bel (i := 0) (by rw [HM.out]; exact hm1)
              cases e'
              obtain rfl : y = y' := by simpa using hy
              simp only [Nat.zero_mul, Nat.add_zero] at d0 d1 d2 d3
              clear hy
              clear he
              have hkp : y.n = c := eq_of_beq hk1
              have hxr : ¬ Bx = br := by have := LIE.out.nB; have := LIE.out.rn; omega
              have hrx : ¬ br = Bx := fun e => hxr e.symm
              have hcr2 : ¬ bc = br := by have := LIE.out.cf; have := LIE.out.fo; have := LIE.out.orr; omega
              have hrc : ¬ br = bc := fun e => hcr2 e.symm
              have hor : ¬ bo = br := by have := LIE.out.orr; omega
              have hro : ¬ br = bo := fun e => hor e.symm
              rcases Nat.decEq cr 1 with hc1 | hc1
              · gi_wp2_with (first | (gi_at_builtin; refine app_list rfl (.tmp 115) (.tmp 117) rfl (fun _ => trivial) rfl (((L4.out.setR LIE.out (.slice (some ⟨b, off + 4, none⟩) (m - 1) (cr - 1))).alloc LIE.out (.cells #[.int .i64 y.t, .int .i64 c, .int .i64 y.s, .int .i64 y.u] 35)).alloc LIE.out (.cells #[.int .i64 x.t, .int .i64 c, .int .i64 x.s, .int .i64 (f + 3)] 35)).row _ 1 (nwD c f x) rfl (fun j u h => newsTn (L := dnL) (by simp [heap_set_size]) (nwD c f x) 35 j u h) hob (((L4.out.setR LIE.out (.slice (some ⟨b, off + 4, none⟩) (m - 1) (cr - 1))).alloc LIE.out (.cells #[.int .i64 y.t, .int .i64 c, .int .i64 y.s, .int .i64 y.u] 35)).alloc LIE.out (.cells #[.int .i64 x.t, .int .i64 c, .int .i64 x.s, .int .i64 (f + 3)] 35)).sz ?_; intro g cap3 w5 hown hg hat hlt3; have LZ := Lib.hid ((((L4.out.setR LIE.out (.slice (some ⟨b, off + 4, none⟩) (m - 1) (cr - 1))).alloc LIE.out (.cells #[.int .i64 y.t, .int .i64 c, .int .i64 y.s, .int .i64 y.u] 35)).alloc LIE.out (.cells #[.int .i64 x.t, .int .i64 c, .int .i64 x.s, .int .i64 (f + 3)] 35)).app LIE.out hown hg hat hlt3); have oo5 : Own w5 bo [vo] 22 := (hg.block bo (((L4.out.setR LIE.out (.slice (some ⟨b, off + 4, none⟩) (m - 1) (cr - 1))).alloc LIE.out (.cells #[.int .i64 y.t, .int .i64 c, .int .i64 y.s, .int .i64 y.u] 35)).alloc LIE.out (.cells #[.int .i64 x.t, .int .i64 c, .int .i64 x.s, .int .i64 (f + 3)] 35)).oo.lt (fun e => by have := LIE.out.orr; have := LIE.out.rn; have := ((((L4.out.setR LIE.out (.slice (some ⟨b, off + 4, none⟩) (m - 1) (cr - 1))).alloc LIE.out (.cells #[.int .i64 y.t, .int .i64 c, .int .i64 y.s, .int .i64 y.u] 35)).alloc LIE.out (.cells #[.int .i64 x.t, .int .i64 c, .int .i64 x.s, .int .i64 (f + 3)] 35)).row.lt bo e.symm).1; omega)).trans (((L4.out.setR LIE.out (.slice (some ⟨b, off + 4, none⟩) (m - 1) (cr - 1))).alloc LIE.out (.cells #[.int .i64 y.t, .int .i64 c, .int .i64 y.s, .int .i64 y.u] 35)).alloc LIE.out (.cells #[.int .i64 x.t, .int .i64 c, .int .i64 x.s, .int .i64 (f + 3)] 35)).oo; have cO5 := oo5.cell (i := 0) rfl; have fO5 := oo5.frozen; have zO5 := oo5.lt; clear hown hg hat hlt3 oo5) | fail)
                exact ⟨by first | exact LZ.out.kb.kf | (rw [HN0.out]; exact LZ.out.kb.kf), LZ.out.kb.kp, LZ.out.inv (MG.out.new HEQ.out HK.out) (by have := HM.out; simp at this; omega) (by rw [List.length_append, List.length_append]; simp; omega) (by have := tail_sl SR.out HM.out; rwa [if_neg hc1] at this) (by omega) (by omega)⟩
              · subst hc1
                gi_wp2_with (first | (gi_at_builtin; refine app_list rfl (.tmp 115) (.tmp 117) rfl (fun _ => trivial) rfl (((L4.out.setR LIE.out (.slice (some ⟨b, off, none⟩) 0 0)).alloc LIE.out (.cells #[.int .i64 y.t, .int .i64 c, .int .i64 y.s, .int .i64 y.u] 35)).alloc LIE.out (.cells #[.int .i64 x.t, .int .i64 c, .int .i64 x.s, .int .i64 (f + 3)] 35)).row _ 1 (nwD c f x) rfl (fun j u h => newsTn (L := dnL) (by simp [heap_set_size]) (nwD c f x) 35 j u h) hob (((L4.out.setR LIE.out (.slice (some ⟨b, off, none⟩) 0 0)).alloc LIE.out (.cells #[.int .i64 y.t, .int .i64 c, .int .i64 y.s, .int .i64 y.u] 35)).alloc LIE.out (.cells #[.int .i64 x.t, .int .i64 c, .int .i64 x.s, .int .i64 (f + 3)] 35)).sz ?_; intro g cap3 w5 hown hg hat hlt3; have LZ := Lib.hid ((((L4.out.setR LIE.out (.slice (some ⟨b, off, none⟩) 0 0)).alloc LIE.out (.cells #[.int .i64 y.t, .int .i64 c, .int .i64 y.s, .int .i64 y.u] 35)).alloc LIE.out (.cells #[.int .i64 x.t, .int .i64 c, .int .i64 x.s, .int .i64 (f + 3)] 35)).app LIE.out hown hg hat hlt3); have oo5 : Own w5 bo [vo] 22 := (hg.block bo (((L4.out.setR LIE.out (.slice (some ⟨b, off, none⟩) 0 0)).alloc LIE.out (.cells #[.int .i64 y.t, .int .i64 c, .int .i64 y.s, .int .i64 y.u] 35)).alloc LIE.out (.cells #[.int .i64 x.t, .int .i64 c, .int .i64 x.s, .int .i64 (f + 3)] 35)).oo.lt (fun e => by have := LIE.out.orr; have := LIE.out.rn; have := ((((L4.out.setR LIE.out (.slice (some ⟨b, off, none⟩) 0 0)).alloc LIE.out (.cells #[.int .i64 y.t, .int .i64 c, .int .i64 y.s, .int .i64 y.u] 35)).alloc LIE.out (.cells #[.int .i64 x.t, .int .i64 c, .int .i64 x.s, .int .i64 (f + 3)] 35)).row.lt bo e.symm).1; omega)).trans (((L4.out.setR LIE.out (.slice (some ⟨b, off, none⟩) 0 0)).alloc LIE.out (.cells #[.int .i64 y.t, .int .i64 c, .int .i64 y.s, .int .i64 y.u] 35)).alloc LIE.out (.cells #[.int .i64 x.t, .int .i64 c, .int .i64 x.s, .int .i64 (f + 3)] 35)).oo; have cO5 := oo5.cell (i := 0) rfl; have fO5 := oo5.frozen; have zO5 := oo5.lt; clear hown hg hat hlt3 oo5) | fail)
                exact ⟨by first | exact LZ.out.kb.kf | (rw [HN0.out]; exact LZ.out.kb.kf), LZ.out.kb.kp, LZ.out.inv (MG.out.new HEQ.out HK.out) (by have := HM.out; simp at this; omega) (by rw [List.length_append, List.length_append]; simp; omega) (by have := tail_sl SR.out HM.out; rw [show m - 1 = 0 by omega] at this; simpa using this) (by omega) (by omega)⟩
            | false =>
              cases hk2 : decide (x.s ≤ y.s) with
              | true =>
                have HK := Lib.hid (show lrKeep y c (nwD c f x) = true by rw [lrKeep, bne, hk1]; exact hk2)
                have L2 := Lib.hid L1.out.drew
                clear cR cX
                generalize wr.drew = w2 at L2 ⊢
                have cC := L2.out.oc.cell (i := 0) rfl
                have cF := L2.out.of.cell (i := 0) rfl
                obtain ⟨x0, x1, x2, x3, fX, zX⟩ := own4 L2.out.ox
                have wF : IntKind.i64.wrap (f + 3) = f + 3 := IntWalk.i64_in _ (by have := HF.out; omega)
                have hxc : Bx ≠ bc := by have := LIE.out.nB; have := LIE.out.rn; have := LIE.out.orr; have := LIE.out.fo; have := LIE.out.cf; omega
                have hxf : Bx ≠ bf := by have := LIE.out.nB; have := LIE.out.rn; have := LIE.out.orr; have := LIE.out.fo; omega
                gi_wp2
                have e1c : (w2.setCell ⟨Bx, 1, none⟩ (.int .i64 c)).cell? ⟨bc, 0, none⟩ = some (.int .i64 c) := (World.cell?_setCell_far _ _ _ _ hxc).trans cC
                have e1f : (w2.setCell ⟨Bx, 1, none⟩ (.int .i64 c)).cell? ⟨bf, 0, none⟩ = some (.int .i64 f) := (World.cell?_setCell_far _ _ _ _ hxf).trans cF
                refine region_S 7 #[false, false, false, false, false, false, false] (by kernel_rfl) (by kernel_rfl) (fun w' => w'.cell? ⟨bc, 0, none⟩ = some (.int .i64 c) ∧ w'.cell? ⟨bf, 0, none⟩ = some (.int .i64 f)) 6 _ (fun _ _ h => h) (fun _ => trivial) (by kernel_rfl) ?x104s (fun hHeld hClo => ?x104r)
                case x104s => exact ⟨cC, cF⟩
                refine wpS_take (i := 0) (some 78) 40 (v := ?x105v) (fun _ => trivial) (by kernel_rfl) rfl (by kernel_rfl) (by kernel_rfl) (by kernel_rfl) (by kernel_rfl) rfl (Or.inl ⟨by rfl, ?x105y⟩) hHeld hClo ?x105r
                case x105y => (intro w hSw; (try dsimp only at hSw); go_simp; try with_reducible rfl)
                (intro hN; clear hClo; have hClo := hN; clear hN)
                try simp only [Act.put, List.setIfInBounds_toArray, List.set_cons_zero, List.set_cons_succ]
                refine wpS_take (i := 1) (some 79) 40 (v := ?x106v) (fun _ => trivial) (by kernel_rfl) rfl (by kernel_rfl) (by kernel_rfl) (by kernel_rfl) (by kernel_rfl) rfl (Or.inl ⟨by rfl, ?x106y⟩) hHeld hClo ?x106r
                case x106y => (intro w hSw; (try dsimp only at hSw); go_simp; try with_reducible rfl)
                (intro hN; clear hClo; have hClo := hN; clear hN)
                try simp only [Act.put, List.setIfInBounds_toArray, List.set_cons_zero, List.set_cons_succ]
                refine wpS_take (i := 2) (some 80) 40 (v := ?x107v) (fun _ => trivial) (by kernel_rfl) rfl (by kernel_rfl) (by kernel_rfl) (by kernel_rfl) (by kernel_rfl) rfl (Or.inl ⟨by rfl, ?x107y⟩) hHeld hClo ?x107r
                case x107y => (intro w hSw; (try dsimp only at hSw); go_simp; try with_reducible rfl)
                (intro hN; clear hClo; have hClo := hN; clear hN)
                try simp only [Act.put, List.setIfInBounds_toArray, List.set_cons_zero, List.set_cons_succ]
                refine wpS_take (i := 3) (some 81) 40 (v := ?x108v) (fun _ => trivial) (by kernel_rfl) rfl (by kernel_rfl) (by kernel_rfl) (by kernel_rfl) (by kernel_rfl) rfl (Or.inl ⟨by rfl, ?x108y⟩) hHeld hClo ?x108r
                case x108y => (intro w hSw; (try dsimp only at hSw); go_simp; try with_reducible rfl)
                (intro hN; clear hClo; have hClo := hN; clear hN)
                try simp only [Act.put, List.setIfInBounds_toArray, List.set_cons_zero, List.set_cons_succ]
                refine wpS_one (i := 4) (by kernel_rfl) rfl hClo (fun K hK => ?_)
                rw [if_pos (by rfl)]
                go_simp
                refine hK _ _ (fun _ => ⟨(cell_drew_own _ _).trans e1c, (cell_drew_own _ _).trans e1f⟩) ?_
                clear hK K hHeld
                intro hH0
                have hHeld := hH0 (by kernel_rfl)
                clear hH0
                (intro hN; clear hClo; have hClo := hN; clear hN)
                try simp only [Act.put, List.setIfInBounds_toArray, List.set_cons_zero, List.set_cons_succ]
                refine wpS_take (i := 5) (some 82) 40 (v := ?x103v) (fun _ => trivial) (by kernel_rfl) rfl (by kernel_rfl) (by kernel_rfl) (by kernel_rfl) (by kernel_rfl) rfl (Or.inl ⟨by rfl, ?x103y⟩) hHeld hClo ?x103r
                case x103y => (intro w hSw; (try dsimp only at hSw); go_simp; try with_reducible rfl)
                (intro hN; clear hClo; have hClo := hN; clear hN)
                try simp only [Act.put, List.setIfInBounds_toArray, List.set_cons_zero, List.set_cons_succ]
                refine wpS_one (i := 6) (by kernel_rfl) rfl hClo (fun K hK => ?_)
                rw [if_pos (by rfl)]
                go_simp
                refine hK _ _ (fun e => absurd (e.symm.trans (by kernel_rfl : _ = true)) (by decide)) ?_
                clear hK K hHeld hClo
                intro hH0 hClo
                clear hH0 hClo
                have L3 := Lib.hid (L2.out.setX LIE.out (n' := c) (u' := f + 3) (.inl rfl)).drew
                clear e1c e1f cC cF x0 x1 x2 x3 fX zX
                refine wpS_done (by kernel_rfl) ?_ _
                generalize ((w2.setCell ⟨Bx, 1, none⟩ (.int .i64 c)).setCell ⟨Bx, 3, none⟩ (.int .i64 (f + 3))).drew = w3 at L3 ⊢
                have cR := L3.out.orr.cell (i := 0) rfl
                have cX := L3.out.ox.cell (i := 0) rfl
                obtain ⟨y', b', off', hy, e', _, _, d0, d1, d2, d3⟩ := SR.out.at4 L3.out.bel (i := 0) (by rw [HM.out]; exact hm1)
                cases e'
                obtain rfl : y = y' := by simpa using hy
                simp only [Nat.zero_mul, Nat.add_zero] at d0 d1 d2 d3
                clear hy
                gi_wp2
                refine region_S 12 #[false, false, false, false, false, false, false, false, false, false, false, false] (by kernel_rfl) (by kernel_rfl) (fun w' => w'.cell? ⟨br, 0, none⟩ = some (.slice (some ⟨b, off, none⟩) m cr) ∧ w'.cell? ⟨b, off, none⟩ = some (.int .i64 y.t) ∧ w'.cell? ⟨Bx, 0, none⟩ = some (.int .i64 x.t)) 12 _ (fun _ _ h => h) (fun _ => trivial) (by kernel_rfl) ?x109s (fun hHeld hClo => ?x109r)
                case x109s => exact ⟨cR, d0, cX⟩
                refine wpS_take (i := 0) (some 83) 40 (v := ?x110v) (fun _ => trivial) (by kernel_rfl) rfl (by kernel_rfl) (by kernel_rfl) (by kernel_rfl) (by kernel_rfl) rfl (Or.inl ⟨by rfl, ?x110y⟩) hHeld hClo ?x110r
                case x110y => (intro w hSw; (try dsimp only at hSw); go_simp; try with_reducible rfl)
                (intro hN; clear hClo; have hClo := hN; clear hN)
                try simp only [Act.put, List.setIfInBounds_toArray, List.set_cons_zero, List.set_cons_succ]
                refine wpS_take (i := 1) (some 84) 40 (v := ?x111v) (fun _ => trivial) (by kernel_rfl) rfl (by kernel_rfl) (by kernel_rfl) (by kernel_rfl) (by kernel_rfl) rfl (Or.inl ⟨by rfl, ?x111y⟩) hHeld hClo ?x111r
                case x111y => (intro w hSw; (try dsimp only at hSw); go_simp; try with_reducible rfl)
                (intro hN; clear hClo; have hClo := hN; clear hN)
                try simp only [Act.put, List.setIfInBounds_toArray, List.set_cons_zero, List.set_cons_succ]
                refine wpS_take (i := 2) (some 85) 40 (v := ?x112v) (fun _ => trivial) (by kernel_rfl) rfl (by kernel_rfl) (by kernel_rfl) (by kernel_rfl) (by kernel_rfl) rfl (Or.inl ⟨by rfl, ?x112y⟩) hHeld hClo ?x112r
                case x112y => (intro w hSw; (try dsimp only at hSw); go_simp; try with_reducible rfl)
                (intro hN; clear hClo; have hClo := hN; clear hN)
                try simp only [Act.put, List.setIfInBounds_toArray, List.set_cons_zero, List.set_cons_succ]
                refine wpS_take (i := 3) (some 86) 40 (v := ?x113v) (fun _ => trivial) (by kernel_rfl) rfl (by kernel_rfl) (by kernel_rfl) (by kernel_rfl) (by kernel_rfl) rfl (Or.inl ⟨by rfl, ?x113y⟩) hHeld hClo ?x113r
                case x113y => (intro w hSw; (try dsimp only at hSw); go_simp; try with_reducible rfl)
                (intro hN; clear hClo; have hClo := hN; clear hN)
                try simp only [Act.put, List.setIfInBounds_toArray, List.set_cons_zero, List.set_cons_succ]
                refine wpS_take (i := 4) (some 87) 40 (v := ?x114v) (fun _ => trivial) (by kernel_rfl) rfl (by kernel_rfl) (by kernel_rfl) (by kernel_rfl) (by kernel_rfl) rfl (Or.inl ⟨by rfl, ?x114y⟩) hHeld hClo ?x114r
                case x114y => (intro w hSw; (try dsimp only at hSw); go_simp; try with_reducible rfl)
                (intro hN; clear hClo; have hClo := hN; clear hN)
                try simp only [Act.put, List.setIfInBounds_toArray, List.set_cons_zero, List.set_cons_succ]
                refine wpS_take (i := 5) (some 88) 40 (v := ?x115v) (fun _ => trivial) (by kernel_rfl) rfl (by kernel_rfl) (by kernel_rfl) (by kernel_rfl) (by kernel_rfl) rfl (Or.inl ⟨by rfl, ?x115y⟩) hHeld hClo ?x115r
                case x115y => (intro w hSw; (try dsimp only at hSw); go_simp; try with_reducible rfl)
                (intro hN; clear hClo; have hClo := hN; clear hN)
                try simp only [Act.put, List.setIfInBounds_toArray, List.set_cons_zero, List.set_cons_succ]
                refine wpS_take (i := 6) (some 89) 40 (v := ?x116v) (fun _ => trivial) (by kernel_rfl) rfl (by kernel_rfl) (by kernel_rfl) (by kernel_rfl) (by kernel_rfl) rfl (Or.inl ⟨by rfl, ?x116y⟩) hHeld hClo ?x116r
                case x116y => (intro w hSw; (try dsimp only at hSw); go_simp; try with_reducible rfl)
                (intro hN; clear hClo; have hClo := hN; clear hN)
                try simp only [Act.put, List.setIfInBounds_toArray, List.set_cons_zero, List.set_cons_succ]
                refine wpS_take (i := 7) (some 90) 40 (v := ?x117v) (fun _ => trivial) (by kernel_rfl) rfl (by kernel_rfl) (by kernel_rfl) (by kernel_rfl) (by kernel_rfl) rfl (Or.inl ⟨by rfl, ?x117y⟩) hHeld hClo ?x117r
                case x117y => (intro w hSw; (try dsimp only at hSw); go_simp; try with_reducible rfl)
                (intro hN; clear hClo; have hClo := hN; clear hN)
                try simp only [Act.put, List.setIfInBounds_toArray, List.set_cons_zero, List.set_cons_succ]
                refine wpS_take (i := 8) (some 91) 40 (v := ?x118v) (fun _ => trivial) (by kernel_rfl) rfl (by kernel_rfl) (by kernel_rfl) (by kernel_rfl) (by kernel_rfl) rfl (Or.inl ⟨by rfl, ?x118y⟩) hHeld hClo ?x118r
                case x118y => (intro w hSw; (try dsimp only at hSw); go_simp; try with_reducible rfl)
                (intro hN; clear hClo; have hClo := hN; clear hN)
                try simp only [Act.put, List.setIfInBounds_toArray, List.set_cons_zero, List.set_cons_succ]
                refine wpS_take (i := 9) (some 92) 40 (v := ?x119v) (fun _ => trivial) (by kernel_rfl) rfl (by kernel_rfl) (by kernel_rfl) (by kernel_rfl) (by kernel_rfl) rfl (Or.inl ⟨by rfl, ?x119y⟩) hHeld hClo ?x119r
                case x119y => (intro w hSw; (try dsimp only at hSw); go_simp; try with_reducible rfl)
                (intro hN; clear hClo; have hClo := hN; clear hN)
                try simp only [Act.put, List.setIfInBounds_toArray, List.set_cons_zero, List.set_cons_succ]
                refine wpS_take (i := 10) (some 93) 40 (v := ?x120v) (fun _ => trivial) (by kernel_rfl) rfl (by kernel_rfl) (by kernel_rfl) (by kernel_rfl) (by kernel_rfl) rfl (Or.inl ⟨by rfl, ?x120y⟩) hHeld hClo ?x120r
                case x120y => (intro w hSw; (try dsimp only at hSw); go_simp; try with_reducible rfl)
                (intro hN; clear hClo; have hClo := hN; clear hN)
                try simp only [Act.put, List.setIfInBounds_toArray, List.set_cons_zero, List.set_cons_succ]
                refine wpS_take (i := 11) (some 94) 40 (v := ?x121v) (fun _ => trivial) (by kernel_rfl) rfl (by kernel_rfl) (by kernel_rfl) (by kernel_rfl) (by kernel_rfl) rfl (Or.inl ⟨by rfl, ?x121y⟩) hHeld hClo ?x121r
                case x121y => (intro w hSw; (try dsimp only at hSw); go_simp; try with_reducible rfl)
                (intro hN; clear hClo; have hClo := hN; clear hN)
                try simp only [Act.put, List.setIfInBounds_toArray, List.set_cons_zero, List.set_cons_succ]
                clear hHeld hClo
                refine wpS_done (by kernel_rfl) ?_ _
                have L4 := Lib.hid L3.out.drew
                clear cR cX d0 d1 d2 d3
                generalize w3.drew = w4 at L4 ⊢
                have cR := L4.out.orr.cell (i := 0) rfl
                have fR := L4.out.orr.frozen
                have zR := L4.out.orr.lt
                have cO := L4.out.oo.cell (i := 0) rfl
                have cC := L4.out.oc.cell (i := 0) rfl
                have zC := L4.out.oc.lt
                have zO := L4.out.oo.lt
                obtain ⟨x0, x1, x2, x3, fX, zX⟩ := own4 L4.out.ox
                obtain ⟨y', b', off', hy, e', _, _, d0, d1, d2, d3⟩ := SR.out.at4 L4.out.bel (i := 0) (by rw [HM.out]; exact hm1)
                cases e'
                obtain rfl : y = y' := by simpa using hy
                simp only [Nat.zero_mul, Nat.add_zero] at d0 d1 d2 d3
                clear hy
                clear he
                have hkp : ¬ y.n = c := beq_eq_false_iff_ne.1 hk1
                have hkq : x.s ≤ y.s := of_decide_eq_true hk2
                have hxr : ¬ Bx = br := by have := LIE.out.nB; have := LIE.out.rn; omega
                have hrx : ¬ br = Bx := fun e => hxr e.symm
                have hcr2 : ¬ bc = br := by have := LIE.out.cf; have := LIE.out.fo; have := LIE.out.orr; omega
                have hrc : ¬ br = bc := fun e => hcr2 e.symm
                have hor : ¬ bo = br := by have := LIE.out.orr; omega
                have hro : ¬ br = bo := fun e => hor e.symm
                rcases Nat.decEq cr 1 with hc1 | hc1
                · gi_wp2_with (first | (gi_at_builtin; refine app_list rfl (.tmp 111) (.tmp 113) rfl (fun _ => trivial) rfl (((L4.out.setR LIE.out (.slice (some ⟨b, off + 4, none⟩) (m - 1) (cr - 1))).alloc LIE.out (.cells #[.int .i64 y.t, .int .i64 y.n, .int .i64 y.s, .int .i64 y.u] 35)).alloc LIE.out (.cells #[.int .i64 y.t, .int .i64 y.n, .int .i64 y.s, .int .i64 y.u] 35)).row _ 1 y rfl (fun j u h => newsTn (L := dnL) (by simp [heap_set_size]) y 35 j u h) hob (((L4.out.setR LIE.out (.slice (some ⟨b, off + 4, none⟩) (m - 1) (cr - 1))).alloc LIE.out (.cells #[.int .i64 y.t, .int .i64 y.n, .int .i64 y.s, .int .i64 y.u] 35)).alloc LIE.out (.cells #[.int .i64 y.t, .int .i64 y.n, .int .i64 y.s, .int .i64 y.u] 35)).sz ?_; intro g cap3 w5 hown hg hat hlt3; have LZ := Lib.hid ((((L4.out.setR LIE.out (.slice (some ⟨b, off + 4, none⟩) (m - 1) (cr - 1))).alloc LIE.out (.cells #[.int .i64 y.t, .int .i64 y.n, .int .i64 y.s, .int .i64 y.u] 35)).alloc LIE.out (.cells #[.int .i64 y.t, .int .i64 y.n, .int .i64 y.s, .int .i64 y.u] 35)).app LIE.out hown hg hat hlt3); have oo5 : Own w5 bo [vo] 22 := (hg.block bo (((L4.out.setR LIE.out (.slice (some ⟨b, off + 4, none⟩) (m - 1) (cr - 1))).alloc LIE.out (.cells #[.int .i64 y.t, .int .i64 y.n, .int .i64 y.s, .int .i64 y.u] 35)).alloc LIE.out (.cells #[.int .i64 y.t, .int .i64 y.n, .int .i64 y.s, .int .i64 y.u] 35)).oo.lt (fun e => by have := LIE.out.orr; have := LIE.out.rn; have := ((((L4.out.setR LIE.out (.slice (some ⟨b, off + 4, none⟩) (m - 1) (cr - 1))).alloc LIE.out (.cells #[.int .i64 y.t, .int .i64 y.n, .int .i64 y.s, .int .i64 y.u] 35)).alloc LIE.out (.cells #[.int .i64 y.t, .int .i64 y.n, .int .i64 y.s, .int .i64 y.u] 35)).row.lt bo e.symm).1; omega)).trans (((L4.out.setR LIE.out (.slice (some ⟨b, off + 4, none⟩) (m - 1) (cr - 1))).alloc LIE.out (.cells #[.int .i64 y.t, .int .i64 y.n, .int .i64 y.s, .int .i64 y.u] 35)).alloc LIE.out (.cells #[.int .i64 y.t, .int .i64 y.n, .int .i64 y.s, .int .i64 y.u] 35)).oo; have cO5 := oo5.cell (i := 0) rfl; have fO5 := oo5.frozen; have zO5 := oo5.lt; clear hown hg hat hlt3 oo5) | fail)
                  exact ⟨by first | exact LZ.out.kb.kf | (rw [HN0.out]; exact LZ.out.kb.kf), LZ.out.kb.kp, LZ.out.inv (MG.out.keep HEQ.out HK.out) (by have := HM.out; simp at this; omega) (by rw [List.length_append, List.length_append]; simp; omega) (by have := tail_sl SR.out HM.out; rwa [if_neg hc1] at this) (by omega) (by omega)⟩
                · subst hc1
                  gi_wp2_with (first | (gi_at_builtin; refine app_list rfl (.tmp 111) (.tmp 113) rfl (fun _ => trivial) rfl (((L4.out.setR LIE.out (.slice (some ⟨b, off, none⟩) 0 0)).alloc LIE.out (.cells #[.int .i64 y.t, .int .i64 y.n, .int .i64 y.s, .int .i64 y.u] 35)).alloc LIE.out (.cells #[.int .i64 y.t, .int .i64 y.n, .int .i64 y.s, .int .i64 y.u] 35)).row _ 1 y rfl (fun j u h => newsTn (L := dnL) (by simp [heap_set_size]) y 35 j u h) hob (((L4.out.setR LIE.out (.slice (some ⟨b, off, none⟩) 0 0)).alloc LIE.out (.cells #[.int .i64 y.t, .int .i64 y.n, .int .i64 y.s, .int .i64 y.u] 35)).alloc LIE.out (.cells #[.int .i64 y.t, .int .i64 y.n, .int .i64 y.s, .int .i64 y.u] 35)).sz ?_; intro g cap3 w5 hown hg hat hlt3; have LZ := Lib.hid ((((L4.out.setR LIE.out (.slice (some ⟨b, off, none⟩) 0 0)).alloc LIE.out (.cells #[.int .i64 y.t, .int .i64 y.n, .int .i64 y.s, .int .i64 y.u] 35)).alloc LIE.out (.cells #[.int .i64 y.t, .int .i64 y.n, .int .i64 y.s, .int .i64 y.u] 35)).app LIE.out hown hg hat hlt3); have oo5 : Own w5 bo [vo] 22 := (hg.block bo (((L4.out.setR LIE.out (.slice (some ⟨b, off, none⟩) 0 0)).alloc LIE.out (.cells #[.int .i64 y.t, .int .i64 y.n, .int .i64 y.s, .int .i64 y.u] 35)).alloc LIE.out (.cells #[.int .i64 y.t, .int .i64 y.n, .int .i64 y.s, .int .i64 y.u] 35)).oo.lt (fun e => by have := LIE.out.orr; have := LIE.out.rn; have := ((((L4.out.setR LIE.out (.slice (some ⟨b, off, none⟩) 0 0)).alloc LIE.out (.cells #[.int .i64 y.t, .int .i64 y.n, .int .i64 y.s, .int .i64 y.u] 35)).alloc LIE.out (.cells #[.int .i64 y.t, .int .i64 y.n, .int .i64 y.s, .int .i64 y.u] 35)).row.lt bo e.symm).1; omega)).trans (((L4.out.setR LIE.out (.slice (some ⟨b, off, none⟩) 0 0)).alloc LIE.out (.cells #[.int .i64 y.t, .int .i64 y.n, .int .i64 y.s, .int .i64 y.u] 35)).alloc LIE.out (.cells #[.int .i64 y.t, .int .i64 y.n, .int .i64 y.s, .int .i64 y.u] 35)).oo; have cO5 := oo5.cell (i := 0) rfl; have fO5 := oo5.frozen; have zO5 := oo5.lt; clear hown hg hat hlt3 oo5) | fail)
                  exact ⟨by first | exact LZ.out.kb.kf | (rw [HN0.out]; exact LZ.out.kb.kf), LZ.out.kb.kp, LZ.out.inv (MG.out.keep HEQ.out HK.out) (by have := HM.out; simp at this; omega) (by rw [List.length_append, List.length_append]; simp; omega) (by have := tail_sl SR.out HM.out; rw [show m - 1 = 0 by omega] at this; simpa using this) (by omega) (by omega)⟩
              | false =>
                have HK := Lib.hid (show lrKeep y c (nwD c f x) = false by rw [lrKeep, bne, hk1]; exact hk2)
                have L2 := Lib.hid L1.out.drew
                clear cR cX
                generalize wr.drew = w2 at L2 ⊢
                have cC := L2.out.oc.cell (i := 0) rfl
                have cF := L2.out.of.cell (i := 0) rfl
                obtain ⟨x0, x1, x2, x3, fX, zX⟩ := own4 L2.out.ox
                have wF : IntKind.i64.wrap (f + 3) = f + 3 := IntWalk.i64_in _ (by have := HF.out; omega)
                have hxc : Bx ≠ bc := by have := LIE.out.nB; have := LIE.out.rn; have := LIE.out.orr; have := LIE.out.fo; have := LIE.out.cf; omega
                have hxf : Bx ≠ bf := by have := LIE.out.nB; have := LIE.out.rn; have := LIE.out.orr; have := LIE.out.fo; omega
                gi_wp2
                have e1c : (w2.setCell ⟨Bx, 1, none⟩ (.int .i64 c)).cell? ⟨bc, 0, none⟩ = some (.int .i64 c) := (World.cell?_setCell_far _ _ _ _ hxc).trans cC
                have e1f : (w2.setCell ⟨Bx, 1, none⟩ (.int .i64 c)).cell? ⟨bf, 0, none⟩ = some (.int .i64 f) := (World.cell?_setCell_far _ _ _ _ hxf).trans cF
                refine region_S 7 #[false, false, false, false, false, false, false] (by kernel_rfl) (by kernel_rfl) (fun w' => w'.cell? ⟨bc, 0, none⟩ = some (.int .i64 c) ∧ w'.cell? ⟨bf, 0, none⟩ = some (.int .i64 f)) 6 _ (fun _ _ h => h) (fun _ => trivial) (by kernel_rfl) ?x123s (fun hHeld hClo => ?x123r)
                case x123s => exact ⟨cC, cF⟩
                refine wpS_take (i := 0) (some 78) 40 (v := ?x124v) (fun _ => trivial) (by kernel_rfl) rfl (by kernel_rfl) (by kernel_rfl) (by kernel_rfl) (by kernel_rfl) rfl (Or.inl ⟨by rfl, ?x124y⟩) hHeld hClo ?x124r
                case x124y => (intro w hSw; (try dsimp only at hSw); go_simp; try with_reducible rfl)
                (intro hN; clear hClo; have hClo := hN; clear hN)
                try simp only [Act.put, List.setIfInBounds_toArray, List.set_cons_zero, List.set_cons_succ]
                refine wpS_take (i := 1) (some 79) 40 (v := ?x125v) (fun _ => trivial) (by kernel_rfl) rfl (by kernel_rfl) (by kernel_rfl) (by kernel_rfl) (by kernel_rfl) rfl (Or.inl ⟨by rfl, ?x125y⟩) hHeld hClo ?x125r
                case x125y => (intro w hSw; (try dsimp only at hSw); go_simp; try with_reducible rfl)
                (intro hN; clear hClo; have hClo := hN; clear hN)
                try simp only [Act.put, List.setIfInBounds_toArray, List.set_cons_zero, List.set_cons_succ]
                refine wpS_take (i := 2) (some 80) 40 (v := ?x126v) (fun _ => trivial) (by kernel_rfl) rfl (by kernel_rfl) (by kernel_rfl) (by kernel_rfl) (by kernel_rfl) rfl (Or.inl ⟨by rfl, ?x126y⟩) hHeld hClo ?x126r
                case x126y => (intro w hSw; (try dsimp only at hSw); go_simp; try with_reducible rfl)
                (intro hN; clear hClo; have hClo := hN; clear hN)
                try simp only [Act.put, List.setIfInBounds_toArray, List.set_cons_zero, List.set_cons_succ]
                refine wpS_take (i := 3) (some 81) 40 (v := ?x127v) (fun _ => trivial) (by kernel_rfl) rfl (by kernel_rfl) (by kernel_rfl) (by kernel_rfl) (by kernel_rfl) rfl (Or.inl ⟨by rfl, ?x127y⟩) hHeld hClo ?x127r
                case x127y => (intro w hSw; (try dsimp only at hSw); go_simp; try with_reducible rfl)
                (intro hN; clear hClo; have hClo := hN; clear hN)
                try simp only [Act.put, List.setIfInBounds_toArray, List.set_cons_zero, List.set_cons_succ]
                refine wpS_one (i := 4) (by kernel_rfl) rfl hClo (fun K hK => ?_)
                rw [if_pos (by rfl)]
                go_simp
                refine hK _ _ (fun _ => ⟨(cell_drew_own _ _).trans e1c, (cell_drew_own _ _).trans e1f⟩) ?_
                clear hK K hHeld
                intro hH0
                have hHeld := hH0 (by kernel_rfl)
                clear hH0
                (intro hN; clear hClo; have hClo := hN; clear hN)
                try simp only [Act.put, List.setIfInBounds_toArray, List.set_cons_zero, List.set_cons_succ]
                refine wpS_take (i := 5) (some 82) 40 (v := ?x122v) (fun _ => trivial) (by kernel_rfl) rfl (by kernel_rfl) (by kernel_rfl) (by kernel_rfl) (by kernel_rfl) rfl (Or.inl ⟨by rfl, ?x122y⟩) hHeld hClo ?x122r
                case x122y => (intro w hSw; (try dsimp only at hSw); go_simp; try with_reducible rfl)
                (intro hN; clear hClo; have hClo := hN; clear hN)
                try simp only [Act.put, List.setIfInBounds_toArray, List.set_cons_zero, List.set_cons_succ]
                refine wpS_one (i := 6) (by kernel_rfl) rfl hClo (fun K hK => ?_)
                rw [if_pos (by rfl)]
                go_simp
                refine hK _ _ (fun e => absurd (e.symm.trans (by kernel_rfl : _ = true)) (by decide)) ?_
                clear hK K hHeld hClo
                intro hH0 hClo
                clear hH0 hClo
                have L3 := Lib.hid (L2.out.setX LIE.out (n' := c) (u' := f + 3) (.inl rfl)).drew
                clear e1c e1f cC cF x0 x1 x2 x3 fX zX
                refine wpS_done (by kernel_rfl) ?_ _
                generalize ((w2.setCell ⟨Bx, 1, none⟩ (.int .i64 c)).setCell ⟨Bx, 3, none⟩ (.int .i64 (f + 3))).drew = w3 at L3 ⊢
                have cR := L3.out.orr.cell (i := 0) rfl
                have cX := L3.out.ox.cell (i := 0) rfl
                obtain ⟨y', b', off', hy, e', _, _, d0, d1, d2, d3⟩ := SR.out.at4 L3.out.bel (i := 0) (by rw [HM.out]; exact hm1)
                cases e'
                obtain rfl : y = y' := by simpa using hy
                simp only [Nat.zero_mul, Nat.add_zero] at d0 d1 d2 d3
                clear hy
                gi_wp2
                refine region_S 12 #[false, false, false, false, false, false, false, false, false, false, false, false] (by kernel_rfl) (by kernel_rfl) (fun w' => w'.cell? ⟨br, 0, none⟩ = some (.slice (some ⟨b, off, none⟩) m cr) ∧ w'.cell? ⟨b, off, none⟩ = some (.int .i64 y.t) ∧ w'.cell? ⟨Bx, 0, none⟩ = some (.int .i64 x.t)) 12 _ (fun _ _ h => h) (fun _ => trivial) (by kernel_rfl) ?x128s (fun hHeld hClo => ?x128r)
                case x128s => exact ⟨cR, d0, cX⟩
                refine wpS_take (i := 0) (some 83) 40 (v := ?x129v) (fun _ => trivial) (by kernel_rfl) rfl (by kernel_rfl) (by kernel_rfl) (by kernel_rfl) (by kernel_rfl) rfl (Or.inl ⟨by rfl, ?x129y⟩) hHeld hClo ?x129r
                case x129y => (intro w hSw; (try dsimp only at hSw); go_simp; try with_reducible rfl)
                (intro hN; clear hClo; have hClo := hN; clear hN)
                try simp only [Act.put, List.setIfInBounds_toArray, List.set_cons_zero, List.set_cons_succ]
                refine wpS_take (i := 1) (some 84) 40 (v := ?x130v) (fun _ => trivial) (by kernel_rfl) rfl (by kernel_rfl) (by kernel_rfl) (by kernel_rfl) (by kernel_rfl) rfl (Or.inl ⟨by rfl, ?x130y⟩) hHeld hClo ?x130r
                case x130y => (intro w hSw; (try dsimp only at hSw); go_simp; try with_reducible rfl)
                (intro hN; clear hClo; have hClo := hN; clear hN)
                try simp only [Act.put, List.setIfInBounds_toArray, List.set_cons_zero, List.set_cons_succ]
                refine wpS_take (i := 2) (some 85) 40 (v := ?x131v) (fun _ => trivial) (by kernel_rfl) rfl (by kernel_rfl) (by kernel_rfl) (by kernel_rfl) (by kernel_rfl) rfl (Or.inl ⟨by rfl, ?x131y⟩) hHeld hClo ?x131r
                case x131y => (intro w hSw; (try dsimp only at hSw); go_simp; try with_reducible rfl)
                (intro hN; clear hClo; have hClo := hN; clear hN)
                try simp only [Act.put, List.setIfInBounds_toArray, List.set_cons_zero, List.set_cons_succ]
                refine wpS_take (i := 3) (some 86) 40 (v := ?x132v) (fun _ => trivial) (by kernel_rfl) rfl (by kernel_rfl) (by kernel_rfl) (by kernel_rfl) (by kernel_rfl) rfl (Or.inl ⟨by rfl, ?x132y⟩) hHeld hClo ?x132r
                case x132y => (intro w hSw; (try dsimp only at hSw); go_simp; try with_reducible rfl)
                (intro hN; clear hClo; have hClo := hN; clear hN)
                try simp only [Act.put, List.setIfInBounds_toArray, List.set_cons_zero, List.set_cons_succ]
                refine wpS_take (i := 4) (some 87) 40 (v := ?x133v) (fun _ => trivial) (by kernel_rfl) rfl (by kernel_rfl) (by kernel_rfl) (by kernel_rfl) (by kernel_rfl) rfl (Or.inl ⟨by rfl, ?x133y⟩) hHeld hClo ?x133r
                case x133y => (intro w hSw; (try dsimp only at hSw); go_simp; try with_reducible rfl)
                (intro hN; clear hClo; have hClo := hN; clear hN)
                try simp only [Act.put, List.setIfInBounds_toArray, List.set_cons_zero, List.set_cons_succ]
                refine wpS_take (i := 5) (some 88) 40 (v := ?x134v) (fun _ => trivial) (by kernel_rfl) rfl (by kernel_rfl) (by kernel_rfl) (by kernel_rfl) (by kernel_rfl) rfl (Or.inl ⟨by rfl, ?x134y⟩) hHeld hClo ?x134r
                case x134y => (intro w hSw; (try dsimp only at hSw); go_simp; try with_reducible rfl)
                (intro hN; clear hClo; have hClo := hN; clear hN)
                try simp only [Act.put, List.setIfInBounds_toArray, List.set_cons_zero, List.set_cons_succ]
                refine wpS_take (i := 6) (some 89) 40 (v := ?x135v) (fun _ => trivial) (by kernel_rfl) rfl (by kernel_rfl) (by kernel_rfl) (by kernel_rfl) (by kernel_rfl) rfl (Or.inl ⟨by rfl, ?x135y⟩) hHeld hClo ?x135r
                case x135y => (intro w hSw; (try dsimp only at hSw); go_simp; try with_reducible rfl)
                (intro hN; clear hClo; have hClo := hN; clear hN)
                try simp only [Act.put, List.setIfInBounds_toArray, List.set_cons_zero, List.set_cons_succ]
                refine wpS_take (i := 7) (some 90) 40 (v := ?x136v) (fun _ => trivial) (by kernel_rfl) rfl (by kernel_rfl) (by kernel_rfl) (by kernel_rfl) (by kernel_rfl) rfl (Or.inl ⟨by rfl, ?x136y⟩) hHeld hClo ?x136r
                case x136y => (intro w hSw; (try dsimp only at hSw); go_simp; try with_reducible rfl)
                (intro hN; clear hClo; have hClo := hN; clear hN)
                try simp only [Act.put, List.setIfInBounds_toArray, List.set_cons_zero, List.set_cons_succ]
                refine wpS_take (i := 8) (some 91) 40 (v := ?x137v) (fun _ => trivial) (by kernel_rfl) rfl (by kernel_rfl) (by kernel_rfl) (by kernel_rfl) (by kernel_rfl) rfl (Or.inl ⟨by rfl, ?x137y⟩) hHeld hClo ?x137r
                case x137y => (intro w hSw; (try dsimp only at hSw); go_simp; try with_reducible rfl)
                (intro hN; clear hClo; have hClo := hN; clear hN)
                try simp only [Act.put, List.setIfInBounds_toArray, List.set_cons_zero, List.set_cons_succ]
                refine wpS_take (i := 9) (some 92) 40 (v := ?x138v) (fun _ => trivial) (by kernel_rfl) rfl (by kernel_rfl) (by kernel_rfl) (by kernel_rfl) (by kernel_rfl) rfl (Or.inl ⟨by rfl, ?x138y⟩) hHeld hClo ?x138r
                case x138y => (intro w hSw; (try dsimp only at hSw); go_simp; try with_reducible rfl)
                (intro hN; clear hClo; have hClo := hN; clear hN)
                try simp only [Act.put, List.setIfInBounds_toArray, List.set_cons_zero, List.set_cons_succ]
                refine wpS_take (i := 10) (some 93) 40 (v := ?x139v) (fun _ => trivial) (by kernel_rfl) rfl (by kernel_rfl) (by kernel_rfl) (by kernel_rfl) (by kernel_rfl) rfl (Or.inl ⟨by rfl, ?x139y⟩) hHeld hClo ?x139r
                case x139y => (intro w hSw; (try dsimp only at hSw); go_simp; try with_reducible rfl)
                (intro hN; clear hClo; have hClo := hN; clear hN)
                try simp only [Act.put, List.setIfInBounds_toArray, List.set_cons_zero, List.set_cons_succ]
                refine wpS_take (i := 11) (some 94) 40 (v := ?x140v) (fun _ => trivial) (by kernel_rfl) rfl (by kernel_rfl) (by kernel_rfl) (by kernel_rfl) (by kernel_rfl) rfl (Or.inl ⟨by rfl, ?x140y⟩) hHeld hClo ?x140r
                case x140y => (intro w hSw; (try dsimp only at hSw); go_simp; try with_reducible rfl)
                (intro hN; clear hClo; have hClo := hN; clear hN)
                try simp only [Act.put, List.setIfInBounds_toArray, List.set_cons_zero, List.set_cons_succ]
                clear hHeld hClo
                refine wpS_done (by kernel_rfl) ?_ _
                have L4 := Lib.hid L3.out.drew
                clear cR cX d0 d1 d2 d3
                generalize w3.drew = w4 at L4 ⊢
                have cR := L4.out.orr.cell (i := 0) rfl
                have fR := L4.out.orr.frozen
                have zR := L4.out.orr.lt
                have cO := L4.out.oo.cell (i := 0) rfl
                have cC := L4.out.oc.cell (i := 0) rfl
                have zC := L4.out.oc.lt
                have zO := L4.out.oo.lt
                obtain ⟨x0, x1, x2, x3, fX, zX⟩ := own4 L4.out.ox
                obtain ⟨y', b', off', hy, e', _, _, d0, d1, d2, d3⟩ := SR.out.at4 L4.out.bel (i := 0) (by rw [HM.out]; exact hm1)
                cases e'
                obtain rfl : y = y' := by simpa using hy
                simp only [Nat.zero_mul, Nat.add_zero] at d0 d1 d2 d3
                clear hy
                clear he
                have hkp : ¬ y.n = c := beq_eq_false_iff_ne.1 hk1
                have hkq : ¬ x.s ≤ y.s := of_decide_eq_false hk2
                have hxr : ¬ Bx = br := by have := LIE.out.nB; have := LIE.out.rn; omega
                have hrx : ¬ br = Bx := fun e => hxr e.symm
                have hcr2 : ¬ bc = br := by have := LIE.out.cf; have := LIE.out.fo; have := LIE.out.orr; omega
                have hrc : ¬ br = bc := fun e => hcr2 e.symm
                have hor : ¬ bo = br := by have := LIE.out.orr; omega
                have hro : ¬ br = bo := fun e => hor e.symm
                rcases Nat.decEq cr 1 with hc1 | hc1
                · gi_wp2_with (first | (gi_at_builtin; refine app_list rfl (.tmp 115) (.tmp 117) rfl (fun _ => trivial) rfl (((L4.out.setR LIE.out (.slice (some ⟨b, off + 4, none⟩) (m - 1) (cr - 1))).alloc LIE.out (.cells #[.int .i64 y.t, .int .i64 y.n, .int .i64 y.s, .int .i64 y.u] 35)).alloc LIE.out (.cells #[.int .i64 x.t, .int .i64 c, .int .i64 x.s, .int .i64 (f + 3)] 35)).row _ 1 (nwD c f x) rfl (fun j u h => newsTn (L := dnL) (by simp [heap_set_size]) (nwD c f x) 35 j u h) hob (((L4.out.setR LIE.out (.slice (some ⟨b, off + 4, none⟩) (m - 1) (cr - 1))).alloc LIE.out (.cells #[.int .i64 y.t, .int .i64 y.n, .int .i64 y.s, .int .i64 y.u] 35)).alloc LIE.out (.cells #[.int .i64 x.t, .int .i64 c, .int .i64 x.s, .int .i64 (f + 3)] 35)).sz ?_; intro g cap3 w5 hown hg hat hlt3; have LZ := Lib.hid ((((L4.out.setR LIE.out (.slice (some ⟨b, off + 4, none⟩) (m - 1) (cr - 1))).alloc LIE.out (.cells #[.int .i64 y.t, .int .i64 y.n, .int .i64 y.s, .int .i64 y.u] 35)).alloc LIE.out (.cells #[.int .i64 x.t, .int .i64 c, .int .i64 x.s, .int .i64 (f + 3)] 35)).app LIE.out hown hg hat hlt3); have oo5 : Own w5 bo [vo] 22 := (hg.block bo (((L4.out.setR LIE.out (.slice (some ⟨b, off + 4, none⟩) (m - 1) (cr - 1))).alloc LIE.out (.cells #[.int .i64 y.t, .int .i64 y.n, .int .i64 y.s, .int .i64 y.u] 35)).alloc LIE.out (.cells #[.int .i64 x.t, .int .i64 c, .int .i64 x.s, .int .i64 (f + 3)] 35)).oo.lt (fun e => by have := LIE.out.orr; have := LIE.out.rn; have := ((((L4.out.setR LIE.out (.slice (some ⟨b, off + 4, none⟩) (m - 1) (cr - 1))).alloc LIE.out (.cells #[.int .i64 y.t, .int .i64 y.n, .int .i64 y.s, .int .i64 y.u] 35)).alloc LIE.out (.cells #[.int .i64 x.t, .int .i64 c, .int .i64 x.s, .int .i64 (f + 3)] 35)).row.lt bo e.symm).1; omega)).trans (((L4.out.setR LIE.out (.slice (some ⟨b, off + 4, none⟩) (m - 1) (cr - 1))).alloc LIE.out (.cells #[.int .i64 y.t, .int .i64 y.n, .int .i64 y.s, .int .i64 y.u] 35)).alloc LIE.out (.cells #[.int .i64 x.t, .int .i64 c, .int .i64 x.s, .int .i64 (f + 3)] 35)).oo; have cO5 := oo5.cell (i := 0) rfl; have fO5 := oo5.frozen; have zO5 := oo5.lt; clear hown hg hat hlt3 oo5) | fail)
                  exact ⟨by first | exact LZ.out.kb.kf | (rw [HN0.out]; exact LZ.out.kb.kf), LZ.out.kb.kp, LZ.out.inv (MG.out.new HEQ.out HK.out) (by have := HM.out; simp at this; omega) (by rw [List.length_append, List.length_append]; simp; omega) (by have := tail_sl SR.out HM.out; rwa [if_neg hc1] at this) (by omega) (by omega)⟩
                · subst hc1
                  gi_wp2_with (first | (gi_at_builtin; refine app_list rfl (.tmp 115) (.tmp 117) rfl (fun _ => trivial) rfl (((L4.out.setR LIE.out (.slice (some ⟨b, off, none⟩) 0 0)).alloc LIE.out (.cells #[.int .i64 y.t, .int .i64 y.n, .int .i64 y.s, .int .i64 y.u] 35)).alloc LIE.out (.cells #[.int .i64 x.t, .int .i64 c, .int .i64 x.s, .int .i64 (f + 3)] 35)).row _ 1 (nwD c f x) rfl (fun j u h => newsTn (L := dnL) (by simp [heap_set_size]) (nwD c f x) 35 j u h) hob (((L4.out.setR LIE.out (.slice (some ⟨b, off, none⟩) 0 0)).alloc LIE.out (.cells #[.int .i64 y.t, .int .i64 y.n, .int .i64 y.s, .int .i64 y.u] 35)).alloc LIE.out (.cells #[.int .i64 x.t, .int .i64 c, .int .i64 x.s, .int .i64 (f + 3)] 35)).sz ?_; intro g cap3 w5 hown hg hat hlt3; have LZ := Lib.hid ((((L4.out.setR LIE.out (.slice (some ⟨b, off, none⟩) 0 0)).alloc LIE.out (.cells #[.int .i64 y.t, .int .i64 y.n, .int .i64 y.s, .int .i64 y.u] 35)).alloc LIE.out (.cells #[.int .i64 x.t, .int .i64 c, .int .i64 x.s, .int .i64 (f + 3)] 35)).app LIE.out hown hg hat hlt3); have oo5 : Own w5 bo [vo] 22 := (hg.block bo (((L4.out.setR LIE.out (.slice (some ⟨b, off, none⟩) 0 0)).alloc LIE.out (.cells #[.int .i64 y.t, .int .i64 y.n, .int .i64 y.s, .int .i64 y.u] 35)).alloc LIE.out (.cells #[.int .i64 x.t, .int .i64 c, .int .i64 x.s, .int .i64 (f + 3)] 35)).oo.lt (fun e => by have := LIE.out.orr; have := LIE.out.rn; have := ((((L4.out.setR LIE.out (.slice (some ⟨b, off, none⟩) 0 0)).alloc LIE.out (.cells #[.int .i64 y.t, .int .i64 y.n, .int .i64 y.s, .int .i64 y.u] 35)).alloc LIE.out (.cells #[.int .i64 x.t, .int .i64 c, .int .i64 x.s, .int .i64 (f + 3)] 35)).row.lt bo e.symm).1; omega)).trans (((L4.out.setR LIE.out (.slice (some ⟨b, off, none⟩) 0 0)).alloc LIE.out (.cells #[.int .i64 y.t, .int .i64 y.n, .int .i64 y.s, .int .i64 y.u] 35)).alloc LIE.out (.cells #[.int .i64 x.t, .int .i64 c, .int .i64 x.s, .int .i64 (f + 3)] 35)).oo; have cO5 := oo5.cell (i := 0) rfl; have fO5 := oo5.frozen; have zO5 := oo5.lt; clear hown hg hat hlt3 oo5) | fail)
                  exact ⟨by first | exact LZ.out.kb.kf | (rw [HN0.out]; exact LZ.out.kb.kf), LZ.out.kb.kp, LZ.out.inv (MG.out.new HEQ.out HK.out) (by have := HM.out; simp at this; omega) (by rw [List.length_append, List.length_append]; simp; omega) (by have := tail_sl SR.out HM.out; rw [show m - 1 = 0 by omega] at this; simpa using this) (by omega) (by omega)⟩

end Go.Proofs.Ytheifmdaladfdaa

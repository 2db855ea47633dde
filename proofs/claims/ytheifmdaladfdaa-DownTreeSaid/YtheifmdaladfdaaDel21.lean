/- slices.DeleteFunc and down.Expire. -/
import Derived.Test.YtheifmdaladfdaaStore21
namespace Go.Proofs.Ytheifmdaladfdaa
open Go.RowKit

/-- The row when the first element to be dropped is found. -/
theorem delR_start {x : Int} {ls : List Dn} {k : Nat} {d : Dn} (hk : ls[k]? = some d) (hd : decide (d.u < x) = true) (hp : (ls.take k).any (fun d => decide (d.u < x)) = false) : DelR (fun d => !decide (d.u < x)) ls (k + 1) ls (ls.take k) [d] := by
  have hl := (List.getElem?_eq_some_iff.1 hk).1
  have he : ls[k] = d := (List.getElem?_eq_some_iff.1 hk).2
  have hq : (ls.take k).filter (fun d => !decide (d.u < x)) = ls.take k := List.filter_eq_self.2 fun a ha => by
    have := List.any_eq_false.1 hp a ha; simpa using this
  refine ⟨?_, ?_, by simp, by simp; omega⟩
  · have : ls = ls.take k ++ ls.drop k := (List.take_append_drop k ls).symm
    rw [List.drop_eq_getElem_cons hl, he] at this
    rw [List.append_assoc]; exact this
  · rw [List.take_succ_eq_append_getElem hl, he, List.filter_append, hq]; simp [hd]
theorem filt_none {x : Int} {ls : List Dn} (h : ls.any (fun d => decide (d.u < x)) = false) : ls.filter (fun d => !decide (d.u < x)) = ls := List.filter_eq_self.2 fun a ha => by
  have := List.any_eq_false.1 h a ha; simpa using this
theorem delR_end {x : Int} {ls row qs mid : List Dn} (h : DelR (fun d => !decide (d.u < x)) ls ls.length row qs mid) : qs = ls.filter (fun d => !decide (d.u < x)) ∧ row = qs ++ mid ∧ qs.length < ls.length ∧ mid.length = ls.length - qs.length := by
  obtain ⟨h1, h2, h3, h4⟩ := h
  rw [List.take_length] at h2
  rw [List.drop_length, List.append_nil] at h1
  exact ⟨h2, h1, by omega, by omega⟩

set_option linter.unusedVariables false in
set_option maxRecDepth 100000 in
set_option maxHeartbeats 2000000 in
theorem del_none (v : Value) (ls : List Dn) (bn : Nat) (x : Int) (w : World) (sl : SlD w v ls) (hb : bn < w.heap.size) (c0 : w.cell? ⟨bn, 0, none⟩ = some (.int .i64 x)) (hi : idxD (fun d => decide (d.u < x)) ls = -1) :
    Calls Try.prog 34 #[v, .func (.func 36) #[] #[.pointer (some ⟨bn, 0, none⟩)]] w fun e w' => e = .returned v ∧ Below w.heap.size w w' := by
  have SL := Lib.hid sl
  have HI := Lib.hid hi
  clear hi sl
  go_enter Try.func34, Try.ntmps34
  go_wp2_with (first | (go_at_call 32; refine (ixe_lit v ls bn x (-1) _ SL.out hb c0 HI.out).mono ?_; rintro e w1 ⟨rfl, hb2⟩; have B1 := Lib.hid hb2; clear hb2) | fail)
  go_ret
  exact ⟨rfl, B1.out⟩

set_option linter.unusedVariables false in
set_option maxRecDepth 100000 in
set_option maxHeartbeats 2000000 in
theorem del_some (g cap : Nat) (ls : List Dn) (bn B k : Nat) (x : Int) (d0 : Dn) (w : World) (hown : w.ownsRow B 35 4 (.slice (some ⟨g, 0, none⟩) ls.length cap) ls.length (flatT dnL ls)) (hB : B ≤ w.heap.size) (hgB : B ≤ g) (hbB : bn < B)
    (c0 : w.cell? ⟨bn, 0, none⟩ = some (.int .i64 x)) (hlc : ls.length ≤ cap) (hcm : cap ≤ 9223372036854775807) (h1000 : ls.length ≤ 1000) (hk : ls[k]? = some d0) (hi : idxD (fun d => decide (d.u < x)) ls = (k : Int)) (hq : decide (d0.u < x) = true) (hpre : (ls.take k).any (fun d => decide (d.u < x)) = false) :
    Calls Try.prog 34 #[.slice (some ⟨g, 0, none⟩) ls.length cap, .func (.func 36) #[] #[.pointer (some ⟨bn, 0, none⟩)]] w fun e w' => ∃ v', e = .returned v' ∧ SlD w' v' (ls.filter (fun d => !decide (d.u < x))) ∧ Below B w w' := by
  have HOWN0 := Lib.hid hown
  have SL := Lib.hid (slt_of_own (L := dnL) hown)
  have HI := Lib.hid hi
  have C0 := Lib.hid c0
  have HS := Lib.hid (delR_start hk hq hpre)
  have hkl := (List.getElem?_eq_some_iff.1 hk).1
  have j0 : (0 : Int) ≤ (k : Int) := Int.natCast_nonneg _
  have j1 : (k : Int) < 1000 := by omega
  have hne : ((k : Int) == -1) = false := beq_eq_false_iff_ne.2 (by omega)
  have HBW := Lib.hid (show bn < w.heap.size by omega)
  clear hi hk hq hpre hown c0
  go_enter Try.func34, Try.ntmps34
  go_wp2_with (first | (go_at_call 32; refine (ixe_lit _ ls bn x (k : Int) _ SL.out HBW.out C0.out HI.out).mono ?_; rintro e w1 ⟨rfl, hb2⟩; have B1 := Lib.hid hb2; clear hb2) | fail)
  have HO1 := Lib.hid (ownsRow_belowD HOWN0.out B1.out)
  have B2 := Lib.hid (show Below B w w1 from B1.out.mono hB)
  have hz1 := B1.out.size
  clear hne j0 j1
  go_loopw [5, 6] (fun ii jj wr => ∃ (n j : Nat) (row qs mid : List Dn), ii = .int .i64 n ∧ qs.length = n ∧ n ≤ 1000 ∧ jj = .int .i64 j ∧ j ≤ ls.length ∧ DelR (fun d => !decide (d.u < x)) ls j row qs mid ∧ row.length = ls.length ∧ wr.ownsRow B 35 4 (.slice (some ⟨g, 0, none⟩) ls.length cap) ls.length (flatT dnL row) ∧ Below B w wr ∧ w.heap.size ≤ wr.heap.size) (fun _ j _ => ls.length - (intOf j).toNat)
  case atStart => exact ⟨k, k + 1, ls, ls.take k, [d0], rfl, by simp; omega, by omega, by go_num, by omega, HS.out, rfl, HO1.out, B2.out, hz1⟩
  case round =>
    obtain ⟨n, j, row, qs, mid, rfl, hqn, hn, rfl, hj, hR, hrl, hown, bel, hws⟩ := hrel
    have HR := Lib.hid hR
    have HQN := Lib.hid hqn
    have HRL := Lib.hid hrl
    have HOWN := Lib.hid hown
    have BE := Lib.hid bel
    have C1 := Lib.hid ((bel.cell (p := ⟨bn, 0, none⟩) hbB).trans C0.out)
    have HB1 := Lib.hid (show bn < wr.heap.size by omega)
    have hgl : g < wr.heap.size := (hown.lt _ rfl).2
    clear hR hqn hrl hown bel
    have n0 : (0 : Int) ≤ (n : Int) := Int.natCast_nonneg _
    have j0 : (0 : Int) ≤ (j : Int) := Int.natCast_nonneg _
    by_cases hlt : j < ls.length
    · have j1 : (j : Int) < (ls.length : Int) := by omega
      obtain ⟨d, hd⟩ : ∃ d, ls[j]? = some d := ⟨_, List.getElem?_eq_getElem hlt⟩
      have HD := Lib.hid hd
      have hrow := delR_at HR.out hd
      have hl0 := HOWN.out.1
      have y0 : (flatT dnL row)[j * 4 + 0]? = some (.int .i64 d.t) := flatT_at (L := dnL) hrow (j := 0) rfl
      have y1 : (flatT dnL row)[j * 4 + 1]? = some (.int .i64 d.n) := flatT_at (L := dnL) hrow (j := 1) rfl
      have y2 : (flatT dnL row)[j * 4 + 2]? = some (.int .i64 d.s) := flatT_at (L := dnL) hrow (j := 2) rfl
      have y3 : (flatT dnL row)[j * 4 + 3]? = some (.int .i64 d.u) := flatT_at (L := dnL) hrow (j := 3) rfl
      have c0 : wr.cell? ⟨g, j * 4, none⟩ = some (.int .i64 d.t) := by rw [HOWN.out.cellAt _ (by omega)]; exact y0
      have c1 : wr.cell? ⟨g, j * 4 + 1, none⟩ = some (.int .i64 d.n) := by rw [HOWN.out.cellAt _ (by omega)]; exact y1
      have c2 : wr.cell? ⟨g, j * 4 + 2, none⟩ = some (.int .i64 d.s) := by rw [HOWN.out.cellAt _ (by omega)]; exact y2
      have c3 : wr.cell? ⟨g, j * 4 + 3, none⟩ = some (.int .i64 d.u) := by rw [HOWN.out.cellAt _ (by omega)]; exact y3
      have hqlt : n < ls.length := by have := HR.out.2.2; have := HQN.out; omega
      have n1 : (n : Int) < (ls.length : Int) := by omega
      clear hl0 y0 y1 y2 y3 hrow hd
      have HBW1 := HB1
      cases hn : (fun d => decide (d.u < x)) d with
      | true =>
        have HN := Lib.hid hn
        clear hn
        go_wp2_with (first | (go_at_call 36; refine (ec_lit bn x d true _ (Nat.lt_of_lt_of_le HB1.out (belowNew wr _).size) (((belowNew wr _).cell (p := ⟨bn, 0, none⟩) HB1.out).trans C1.out) HN.out).mono ?_; rintro e w2 ⟨rfl, hb2⟩; have hs2 := hb2.size; have oK := (own_at (w := wr) d.cells 35 rfl).below hb2; have HO2 := Lib.hid (ownsRow_belowD (HOWN.out.alloc _) hb2); have B3 := Lib.hid (belowTo (BE.out.alloc (by omega) _) hb2 (by simp; omega)); clear hb2; obtain ⟨k0, k1, k2, k3, fK, zK⟩ := own4 oK; have hgl2 : g < w2.heap.size := (HO2.out.lt _ rfl).2; have TH := Lib.hid (ownT_there (L := dnL) (i := n) HO2.out (by have := HRL.out; omega)); have hw2 : w.heap.size ≤ w2.heap.size := (by simp at hs2; omega); clear hs2) | fail)
        go_roundw
        case rel =>
          obtain ⟨mid', hR'⟩ := delR_drop HR.out HD.out (by simpa using HN.out)
          exact ⟨n, j + 1, row, qs, mid', rfl, HQN.out, by omega, by go_num, by omega, hR', HRL.out, HO2.out, B3.out, hw2⟩
        case measure => simp [intOf]; omega
      | false =>
        have HN := Lib.hid hn
        clear hn
        go_wp2_with (first | (go_at_call 36; refine (ec_lit bn x d false _ (Nat.lt_of_lt_of_le HB1.out (belowNew wr _).size) (((belowNew wr _).cell (p := ⟨bn, 0, none⟩) HB1.out).trans C1.out) HN.out).mono ?_; rintro e w2 ⟨rfl, hb2⟩; have hs2 := hb2.size; have oK := (own_at (w := wr) d.cells 35 rfl).below hb2; have HO2 := Lib.hid (ownsRow_belowD (HOWN.out.alloc _) hb2); have B3 := Lib.hid (belowTo (BE.out.alloc (by omega) _) hb2 (by simp; omega)); clear hb2; obtain ⟨k0, k1, k2, k3, fK, zK⟩ := own4 oK; have hgl2 : g < w2.heap.size := (HO2.out.lt _ rfl).2; have TH := Lib.hid (ownT_there (L := dnL) (i := n) HO2.out (by have := HRL.out; omega)); have hw2 : w.heap.size ≤ w2.heap.size := (by simp at hs2; omega); clear hs2) | ((with_reducible refine storeD d g (n * 4) ?_ ?_ ?_ ?_); (next => rfl); (next => exact ⟨_, _, rfl, rfl, rfl⟩); (next => (have := TH.out; rwa [Nat.zero_add] at this))) | fail)
        go_roundw
        case rel =>
          obtain ⟨mid', hR'⟩ := delR_keep HR.out HD.out (by simpa using HN.out)
          have HS2 := ownT_set (L := dnL) (i := n) d HO2.out (by have := HRL.out; omega)
          rw [Nat.zero_add] at HS2
          rw [HQN.out] at hR'
          refine ⟨n + 1, j + 1, row.set n d, qs ++ [d], mid', by go_num, by rw [List.length_append, HQN.out]; rfl, by omega, by go_num, by omega, hR', by rw [List.length_set]; exact HRL.out, HS2, below_setCells g hgB _ _ _ B3.out, ?_⟩
          exact Nat.le_trans hw2 (below_setCells g hgB _ _ _ (Below.refl B w2)).size
        case measure => simp [intOf]; omega
    · obtain rfl : j = ls.length := by omega
      obtain ⟨E1, E2, E3, E4⟩ := delR_end HR.out
      have HQ := Lib.hid E1
      have HQN2 := HQN.out
      have n1 : (n : Int) < (ls.length : Int) := by omega
      have hl0 := HOWN.out.1
      rw [flatT_len, HRL.out] at hl0
      have hcl := fun ty => run_clear_D wr ty g (n * 4) (ls.length - n) (cap - n) (by omega) (fun t ht => by rw [HOWN.out.cellAt _ (by omega), List.getElem?_eq_getElem (by rw [flatT_len, HRL.out]; show _ < ls.length * 4; omega)]; rfl) (fun t ht => HOWN.out.frozenAt _)
      have BF := Lib.hid (below_setCells g hgB (List.replicate ((ls.length - n) * 4) (.int .i64 0)) (n * 4) wr BE.out)
      have HF := Lib.hid (ownsRow_setCells (List.replicate ((ls.length - n) * 4) (.int .i64 0)) (n * 4) wr _ HOWN.out)
      clear hl0 HOWN SL HOWN0 HO1
      go_wp2_with (first | (simp only [hcl]) | fail)
      go_ret
      obtain ⟨ys, h0, h1, h2⟩ := HF.out
      refine ⟨_, rfl, ?_, BF.out⟩
      rw [← HQ.out]
      have hy : ys.take (n * 4) = flatT dnL qs := List.ext_getElem? fun i => by
        have hfl : (flatT dnL qs).length = n * 4 := by rw [flatT_len, HQN.out]; rfl
        by_cases hin : i < n * 4
        · rw [List.getElem?_take_of_lt hin, h2 i, if_neg (by omega), E2, flatT_append, List.getElem?_append_left (by omega)]
        · rw [List.getElem?_take_eq_none (by omega), List.getElem?_eq_none (by omega)]
      have H0 := ownsRow_front h0 (m := n) (by omega)
      rw [hy, ← HQN2] at H0
      rw [← HQN2]
      exact slt_of_own (L := dnL) H0

set_option linter.unusedVariables false in
set_option maxRecDepth 100000 in
set_option maxHeartbeats 2000000 in
theorem exp_bad (v : Value) (ls : List Dn) (x : Int) (w : World) (sl : SlD w v ls) (h70 : ls.length ≤ 70) (hv : vldD ls = false) :
    Calls Try.prog 17 #[v, .int .i64 x] w fun e w' => SlP w (expL ls x) e w' := by
  obtain ⟨p, cap, e, hlc, hcm, hpn⟩ := sl.form ls.length rfl
  subst e
  have SL := Lib.hid sl
  unfold maxLen at hcm
  clear hpn sl
  have HV := Lib.hid hv
  clear hv
  go_enter Try.func17, Try.ntmps17
  go_wp2_with (first | (go_at_call 25; refine (dvalid_lit _ ls false _ (SL.out.below (belowNew _ _)) HV.out).mono ?_; rintro e w1 ⟨rfl, hb2⟩; have OB := Lib.hid ((own_at (w := w) [.int .i64 x] _ rfl).below hb2); have B1 := Lib.hid (belowTo (belowNew _ _) hb2 (by simp)); have SL1 := Lib.hid (SL.out.below B1.out); clear hb2) | fail)
  go_ret
  exact ⟨_, rfl, by rw [expL, HV.out, if_neg (by simp)]; exact slt_nil _, B1.out⟩

set_option linter.unusedVariables false in
set_option maxRecDepth 100000 in
set_option maxHeartbeats 2000000 in
theorem exp_good (v : Value) (ls : List Dn) (x : Int) (w : World) (sl : SlD w v ls) (h70 : ls.length ≤ 70) (hv : vldD ls = true) :
    Calls Try.prog 17 #[v, .int .i64 x] w fun e w' => SlP w (expL ls x) e w' := by
  obtain ⟨p, cap, e, hlc, hcm, hpn⟩ := sl.form ls.length rfl
  subst e
  have SL := Lib.hid sl
  unfold maxLen at hcm
  clear hpn sl
  have HV := Lib.hid hv
  have HX := Lib.hid (show expL ls x = ls.filter (fun d => !decide (d.u < x)) by rw [expL, if_pos hv])
  clear hv
  go_enter Try.func17, Try.ntmps17
  go_wp2_with (first | (go_at_call 25; refine (dvalid_lit _ ls true _ (SL.out.below (belowNew _ _)) HV.out).mono ?_; rintro e w1 ⟨rfl, hb2⟩; have OB := Lib.hid ((own_at (w := w) [.int .i64 x] _ rfl).below hb2); have B1 := Lib.hid (belowTo (belowNew _ _) hb2 (by simp)); have SL1 := Lib.hid (SL.out.below B1.out); clear hb2) | fail)
  refine (clone_any _ ls _ SL1.out (by omega)).mono ?_
  rintro e w2 ⟨v2, rfl, hown, hb⟩
  have hbz := Own.lt OB.out
  have C2 := Lib.hid ((OB.out.below hb).cell (i := 0) rfl)
  have HBW := Lib.hid ((OB.out.below hb).lt)
  have S2 := Lib.hid (slt_of_own (L := dnL) hown)
  have HOWN := Lib.hid hown
  have B2 := Lib.hid (belowTo B1.out hb B1.out.size)
  have hws := hb.size
  clear hown hb OB
  rcases idx_cases (fun d => decide (d.u < x)) ls with ⟨hi, hany⟩ | ⟨k, d0, hk, hq, hi, _, _, hpre⟩
  · have HI := Lib.hid hi
    have HA := Lib.hid hany
    clear hi hany
    go_wp2_with (first | (go_at_call 34; refine (del_none v2 ls w.heap.size x _ S2.out HBW.out C2.out HI.out).mono ?_; rintro e w3 ⟨rfl, hb2⟩; have B3 := Lib.hid (belowTo B2.out hb2 B2.out.size); have S3 := Lib.hid (S2.out.below hb2); clear hb2) | fail)
    go_ret
    exact ⟨_, rfl, by rw [HX.out, filt_none HA.out]; exact S3.out, B3.out⟩
  · have hlen : 0 < ls.length := by have := (List.getElem?_eq_some_iff.1 hk).1; omega
    obtain ⟨g, cap2, e2, hgB, hlc2, hcm2⟩ : ∃ g cap2, v2 = .slice (some ⟨g, 0, none⟩) ls.length cap2 ∧ w1.heap.size ≤ g ∧ ls.length ≤ cap2 ∧ cap2 ≤ 9223372036854775807 := by
      obtain ⟨_, ⟨_, e⟩ | ⟨g, cap2, _, e, hbg, _, h1, h2, _, _⟩⟩ := HOWN.out
      · omega
      · exact ⟨g, cap2, e, hbg, h1, by unfold maxLen at h2; exact h2⟩
    subst e2
    have HK := Lib.hid (And.intro hk (And.intro hi (And.intro hq hpre)))
    have hws0 := B1.out.size
    clear hk hi hq hpre
    go_wp2_with (first | (go_at_call 34; refine (del_some g cap2 ls w.heap.size w1.heap.size k x d0 _ HOWN.out hws hgB hbz C2.out hlc2 hcm2 (by omega) HK.out.1 HK.out.2.1 HK.out.2.2.1 HK.out.2.2.2).mono ?_; rintro e w3 ⟨v3, rfl, hs, hb2⟩; have B3 := Lib.hid (B2.out.trans (hb2.mono hws0)); have S3 := Lib.hid hs; clear hb2 hs) | fail)
    go_ret
    exact ⟨_, rfl, by rw [HX.out]; exact S3.out, B3.out⟩

theorem exp_any (v : Value) (ls : List Dn) (x : Int) (w : World) (sl : SlD w v ls) (h70 : ls.length ≤ 70) : Calls Try.prog 17 #[v, .int .i64 x] w fun e w' => SlP w (expL ls x) e w' := by
  cases hv : vldD ls with
  | false => exact exp_bad v ls x w sl h70 hv
  | true => exact exp_good v ls x w sl h70 hv
theorem exp_lit (v : Value) (ls : List Dn) (x : Int) (xs : List Dn) (w : World) (sl : SlD w v ls) (h70 : ls.length ≤ 70) (h : expL ls x = xs) : Calls Try.prog 17 #[v, .int .i64 x] w fun e w' => SlP w xs e w' := by
  rw [← h]; exact exp_any v ls x w sl h70

end Go.Proofs.Ytheifmdaladfdaa

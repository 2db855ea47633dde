/- slices.Clone, slices.DeleteFunc at the three kinds of entries. -/
import Derived.Test.YtdmadnoijhmbcaaIx12
import Derived.LoopN
import Derived.Laws.AppendOwnNone
import Derived.Lib.AppendZerosOnto
import Derived.Lib.SliceRun
import Derived.Lib.Walk
namespace Go.Proofs.Ytdmadnoijhmbcaa
open Go.RowKit

theorem eqlnil_u (w : World) (a : Option Addr) (n c n' c' : Nat) : (binOp .eql 22 (.slice a n c) (.slice none n' c')).run Try.prog w = .ok (.bool a.isNone) w :=
  Lib.run_eql_slice_nil w _ 32 a n c n' c' (by kernel_rfl)
theorem zeroCells4 (n : Nat) : (Builtin.zeroCells #[.int .i64 0, .int .i64 0, .int .i64 0, .int .i64 0] n).toList = List.replicate (n * 4) (.int .i64 0) := by
  simp only [Builtin.zeroCells]
  apply List.ext_getElem
  · simp
  · intro i h1 h2
    have h : i % 4 < 4 := Nat.mod_lt _ (by decide)
    simp only [List.getElem_replicate, Array.toList_map, List.getElem_map, Array.getElem_toList, Array.getElem_range]
    generalize hm : i % 4 = m at h
    match m, h with
    | 0, _ => rfl
    | 1, _ => rfl
    | 2, _ => rfl
    | 3, _ => rfl
theorem run_clear_u (w : World) (ty : TypeId) (b o n c : Nat) (hn : 0 < n) (hc : ∀ j, j < n * 4 → (w.cell? ⟨b, o + j, none⟩).isSome = true) (hf : ∀ j, j < n * 4 → w.frozen? ⟨b, o + j, none⟩ = false) :
    (Builtin.clear_ #[22] ty #[.slice (some ⟨b, o, none⟩) n c]).run Try.prog w = .ok (.tuple #[]) (w.setCells b o (List.replicate (n * 4) (.int .i64 0))) := by
  have hst := run_storeCells_cells (P := Try.prog) b o (List.replicate (n * 4) (.int .i64 0)) 0 w (by simpa using hc) (by simpa using hf) (by intro v hv'; rw [List.eq_of_mem_replicate hv']; rfl)
  simp only [Nat.add_zero] at hst
  have hz := zeroCells4 n
  obtain ⟨m, rfl⟩ : ∃ m, n = m + 1 := ⟨n - 1, by omega⟩
  have hv : ∀ w, (zeroValue 32).run Try.prog w = .ok (.agg #[.int .i64 0, .int .i64 0, .int .i64 0, .int .i64 0]) w := fun w => Try.zeroValue32 w
  simp [Builtin.clear_, run_underlying Try.underlying22, hv, Value.cells, hz, hst]
set_option linter.unusedSimpArgs false in
set_option linter.unusedVariables false in
set_option maxRecDepth 100000 in
set_option maxHeartbeats 2000000 in
theorem clone_u (v : Value) (l : List Us) (w : World) (sl : SlU w v l) (h100 : l.length ≤ 100) : Calls Try.prog 36 #[v] w fun e w' => OwnU w l e w' := by
  obtain ⟨p, cap, e0, hlc, hcm, hpn⟩ := sl.form l.length rfl
  subst e0
  have OL := Lib.hid ((sl.below (belowNew w (.cells #[] 32))).olds)
  have HN := Lib.hid sl.none_len
  have q := eqlnil_u
  unfold maxLen at hcm
  clear hpn sl
  obtain ⟨i0, hi, hz, hs0, hb0⟩ := info_parts info_u
  have IF := Lib.hid (And.intro hi (And.intro hz (And.intro hs0 hb0)))
  clear hi hz hs0 hb0
  go_enter Try.func36, Try.ntmps36
  cases p with
  | none =>
    obtain rfl : l = [] := HN.out rfl
    go_wp2
    go_ret
    exact ⟨_, rfl, World.ownsRow_nil _ _ _ _, Below.refl _ _⟩
  | some ad =>
    go_wp2_with (at_builtin; refine wpList_append_own _ rfl _ _ 22 rfl w.heap.size 32 i0 _ 4 32 (by kernel_rfl) IF.out.1 IF.out.2.1 IF.out.2.2.1 IF.out.2.2.2 rfl (by decide) _ _ _ rfl (World.ownsRow_made w #[] 0 (Nat.le_refl _) (Nat.zero_le _) (by simp)) ad l.length cap (flatT usL l) rfl (flatT_len l) (OL.out ad rfl) flatT_cell ?qc4 ?qc5 ?qc6 ?_)
    case qc4 => unfold maxLen; omega
    case qc5 => omega
    case qc6 => simp
    intro v' w1 hown hgrow hnil
    have HO := Lib.hid hown
    have HB := Lib.hid (((Below.refl _ w).alloc (Nat.le_refl _) _).grown hgrow (by simp) (by intro k hk; simp [Value.ownBlock] at hk; omega))
    clear hown hgrow hnil
    go_wp2
    go_ret
    exact ⟨v', rfl, by simpa using HO.out, HB.out⟩

set_option linter.unusedSimpArgs false in
set_option linter.unusedVariables false in
set_option maxRecDepth 100000 in
set_option maxHeartbeats 2000000 in
theorem del_none_u (v : Value) (l : List Us) (b1 b2 : Nat) (q : Us → Bool) (B : Nat) (w : World) (sl : SlU w v l) (hB : B ≤ w.heap.size) (hq : ∀ (d : Us) (wx : World), Below B w wx → Calls Try.prog 69 #[.agg #[.int .i64 d.s, .int .i64 d.o, .int .i64 d.p, .int .i64 d.m], .pointer (some ⟨b1, 0, none⟩), .pointer (some ⟨b2, 0, none⟩)] wx fun e w' => e = .returned (.bool (q d)) ∧ Below wx.heap.size wx w') (hi : idxD q l = -1) :
    Calls Try.prog 68 #[v, .func (.func 69) #[] #[.pointer (some ⟨b1, 0, none⟩), .pointer (some ⟨b2, 0, none⟩)]] w fun e w' => e = .returned v ∧ Below w.heap.size w w' := by
  have SL := Lib.hid sl
  have HI := Lib.hid hi
  have HQ := Lib.hid hq
  clear hi sl hq
  go_enter Try.func68, Try.ntmps68
  go_wp2_with (first | (go_at_call 61; refine (ix_wou_lit v l b1 b2 q B (-1) _ SL.out hB HQ.out HI.out).mono ?_; rintro e w1 ⟨rfl, hb2⟩; have B1 := Lib.hid hb2; clear hb2) | fail)
  go_ret
  exact ⟨rfl, B1.out⟩

set_option linter.unusedSimpArgs false in
set_option linter.unusedVariables false in
set_option maxRecDepth 100000 in
set_option maxHeartbeats 2000000 in
theorem del_some_u (g cap : Nat) (l : List Us) (b1 b2 : Nat) (q : Us → Bool) (B k : Nat) (d0 : Us) (w : World) (hown : w.ownsRow B 32 4 (.slice (some ⟨g, 0, none⟩) l.length cap) l.length (flatT usL l)) (hB : B ≤ w.heap.size) (hgB : B ≤ g)
    (hq : ∀ (d : Us) (wx : World), Below B w wx → Calls Try.prog 69 #[.agg #[.int .i64 d.s, .int .i64 d.o, .int .i64 d.p, .int .i64 d.m], .pointer (some ⟨b1, 0, none⟩), .pointer (some ⟨b2, 0, none⟩)] wx fun e w' => e = .returned (.bool (q d)) ∧ Below wx.heap.size wx w') (hlc : l.length ≤ cap) (hcm : cap ≤ 9223372036854775807) (h1000 : l.length ≤ 1000) (hk : l[k]? = some d0) (hi : idxD q l = (k : Int)) (hq0 : q d0 = true) (hpre : (l.take k).any q = false) :
    Calls Try.prog 68 #[.slice (some ⟨g, 0, none⟩) l.length cap, .func (.func 69) #[] #[.pointer (some ⟨b1, 0, none⟩), .pointer (some ⟨b2, 0, none⟩)]] w fun e w' => ∃ v', e = .returned v' ∧ SlU w' v' (l.filter (fun d => !q d)) ∧ Below B w w' := by
  have HOWN0 := Lib.hid hown
  have SL := Lib.hid (slt_of_own (L := usL) hown)
  have HI := Lib.hid hi
  have HQ := Lib.hid hq
  have HS := Lib.hid (delR_start hk hq0 hpre)
  have hkl := (List.getElem?_eq_some_iff.1 hk).1
  have j0 : (0 : Int) ≤ (k : Int) := Int.natCast_nonneg _
  have j1 : (k : Int) < 1000 := by omega
  have hne : ((k : Int) == -1) = false := beq_eq_false_iff_ne.2 (by omega)
  clear hi hk hq0 hpre hown hq
  go_enter Try.func68, Try.ntmps68
  go_wp2_with (first | (go_at_call 61; refine (ix_wou_lit _ l b1 b2 q B (k : Int) _ SL.out hB HQ.out HI.out).mono ?_; rintro e w1 ⟨rfl, hb2⟩; have B1 := Lib.hid hb2; clear hb2) | fail)
  have HO1 := Lib.hid (ownsRow_belowD HOWN0.out B1.out)
  have B2 := Lib.hid (show Below B w w1 from B1.out.mono hB)
  have hz1 := B1.out.size
  clear hne j0 j1
  go_loopw [5, 6] (fun ii jj wr => ∃ (n j : Nat) (row qs mid : List Us), ii = .int .i64 n ∧ qs.length = n ∧ n ≤ 1000 ∧ jj = .int .i64 j ∧ j ≤ l.length ∧ DelR (fun d => !q d) l j row qs mid ∧ row.length = l.length ∧ wr.ownsRow B 32 4 (.slice (some ⟨g, 0, none⟩) l.length cap) l.length (flatT usL row) ∧ Below B w wr ∧ w.heap.size ≤ wr.heap.size) (fun _ j _ => l.length - (intOf j).toNat)
  case atStart => exact ⟨k, k + 1, l, l.take k, [d0], rfl, by simp; omega, by omega, by go_num, by omega, HS.out, rfl, HO1.out, B2.out, hz1⟩
  case round =>
    obtain ⟨n, j, row, qs, mid, rfl, hqn, hn, rfl, hj, hR, hrl, hown, bel, hws⟩ := hrel
    have HR := Lib.hid hR
    have HQN := Lib.hid hqn
    have HRL := Lib.hid hrl
    have HOWN := Lib.hid hown
    have BE := Lib.hid bel
    have hgl : g < wr.heap.size := (hown.lt _ rfl).2
    clear hR hqn hrl hown bel
    have n0 : (0 : Int) ≤ (n : Int) := Int.natCast_nonneg _
    have j0 : (0 : Int) ≤ (j : Int) := Int.natCast_nonneg _
    by_cases hlt : j < l.length
    · have j1 : (j : Int) < (l.length : Int) := by omega
      obtain ⟨d, hd⟩ : ∃ d, l[j]? = some d := ⟨_, List.getElem?_eq_getElem hlt⟩
      have HD := Lib.hid hd
      have hrow := delR_at HR.out hd
      have hl0 := HOWN.out.1
      have y0 : (flatT usL row)[j * 4 + 0]? = some (.int .i64 d.s) := flatT_at (L := usL) hrow (j := 0) rfl
      have y1 : (flatT usL row)[j * 4 + 1]? = some (.int .i64 d.o) := flatT_at (L := usL) hrow (j := 1) rfl
      have y2 : (flatT usL row)[j * 4 + 2]? = some (.int .i64 d.p) := flatT_at (L := usL) hrow (j := 2) rfl
      have y3 : (flatT usL row)[j * 4 + 3]? = some (.int .i64 d.m) := flatT_at (L := usL) hrow (j := 3) rfl
      have c0 : wr.cell? ⟨g, j * 4, none⟩ = some (.int .i64 d.s) := by rw [HOWN.out.cellAt _ (by omega)]; exact y0
      have c1 : wr.cell? ⟨g, j * 4 + 1, none⟩ = some (.int .i64 d.o) := by rw [HOWN.out.cellAt _ (by omega)]; exact y1
      have c2 : wr.cell? ⟨g, j * 4 + 2, none⟩ = some (.int .i64 d.p) := by rw [HOWN.out.cellAt _ (by omega)]; exact y2
      have c3 : wr.cell? ⟨g, j * 4 + 3, none⟩ = some (.int .i64 d.m) := by rw [HOWN.out.cellAt _ (by omega)]; exact y3
      have hqlt : n < l.length := by have := HR.out.2.2; have := HQN.out; omega
      have n1 : (n : Int) < (l.length : Int) := by omega
      clear hl0 y0 y1 y2 y3 hrow hd
      cases hn : q d with
      | true =>
        have HN := Lib.hid hn
        clear hn
        go_wp2_with (first | (go_at_call 69; refine (calls_bool (HQ.out d _ (BE.out.alloc (by omega) _)) HN.out).mono ?_; rintro e w2 ⟨rfl, hb2⟩; have hs2 := hb2.size; have oK := (own_at (w := wr) [.int .i64 d.s, .int .i64 d.o, .int .i64 d.p, .int .i64 d.m] 32 rfl).below hb2; have HO2 := Lib.hid (ownsRow_belowD (HOWN.out.alloc _) hb2); have B3 := Lib.hid (belowTo (BE.out.alloc (by omega) _) hb2 (by simp; omega)); clear hb2; obtain ⟨k0, k1, k2, k3, fK, zK⟩ := own4 oK; have hgl2 : g < w2.heap.size := (HO2.out.lt _ rfl).2; have TH := Lib.hid (ownT_there (L := usL) (i := n) HO2.out (by have := HRL.out; omega)); have hw2 : w.heap.size ≤ w2.heap.size := (by simp at hs2; omega); clear hs2) | fail)
        go_roundw
        case rel =>
          obtain ⟨mid', hR'⟩ := delR_drop HR.out HD.out (by simpa using HN.out)
          exact ⟨n, j + 1, row, qs, mid', rfl, HQN.out, by omega, by go_num, by omega, hR', HRL.out, HO2.out, B3.out, hw2⟩
        case measure => simp [intOf]; omega
      | false =>
        have HN := Lib.hid hn
        clear hn
        go_wp2_with (first | (go_at_call 69; refine (calls_bool (HQ.out d _ (BE.out.alloc (by omega) _)) HN.out).mono ?_; rintro e w2 ⟨rfl, hb2⟩; have hs2 := hb2.size; have oK := (own_at (w := wr) [.int .i64 d.s, .int .i64 d.o, .int .i64 d.p, .int .i64 d.m] 32 rfl).below hb2; have HO2 := Lib.hid (ownsRow_belowD (HOWN.out.alloc _) hb2); have B3 := Lib.hid (belowTo (BE.out.alloc (by omega) _) hb2 (by simp; omega)); clear hb2; obtain ⟨k0, k1, k2, k3, fK, zK⟩ := own4 oK; have hgl2 : g < w2.heap.size := (HO2.out.lt _ rfl).2; have TH := Lib.hid (ownT_there (L := usL) (i := n) HO2.out (by have := HRL.out; omega)); have hw2 : w.heap.size ≤ w2.heap.size := (by simp at hs2; omega); clear hs2) | ((with_reducible refine storeU d g (n * 4) ?_ ?_ ?_ ?_); (next => rfl); (next => exact ⟨_, _, rfl, rfl, rfl⟩); (next => (have := TH.out; rwa [Nat.zero_add] at this))) | fail)
        go_roundw
        case rel =>
          obtain ⟨mid', hR'⟩ := delR_keep HR.out HD.out (by simpa using HN.out)
          have HS2 := ownT_set (L := usL) (i := n) d HO2.out (by have := HRL.out; omega)
          rw [Nat.zero_add] at HS2
          rw [HQN.out] at hR'
          refine ⟨n + 1, j + 1, row.set n d, qs ++ [d], mid', by go_num, by rw [List.length_append, HQN.out]; rfl, by omega, by go_num, by omega, hR', by rw [List.length_set]; exact HRL.out, HS2, below_setCells g hgB _ _ _ B3.out, ?_⟩
          exact Nat.le_trans hw2 (below_setCells g hgB _ _ _ (Below.refl B w2)).size
        case measure => simp [intOf]; omega
    · obtain rfl : j = l.length := by omega
      obtain ⟨E1, E2, E3, E4⟩ := delR_end HR.out
      have HQL := Lib.hid E1
      have HQN2 := HQN.out
      have n1 : (n : Int) < (l.length : Int) := by omega
      have hl0 := HOWN.out.1
      rw [flatT_len, HRL.out] at hl0
      have hcl := fun ty => run_clear_u wr ty g (n * 4) (l.length - n) (cap - n) (by omega) (fun t ht => by rw [HOWN.out.cellAt _ (by omega), List.getElem?_eq_getElem (by rw [flatT_len, HRL.out]; show _ < l.length * 4; omega)]; rfl) (fun t ht => HOWN.out.frozenAt _)
      have BF := Lib.hid (below_setCells g hgB (List.replicate ((l.length - n) * 4) (.int .i64 0)) (n * 4) wr BE.out)
      have HF := Lib.hid (ownsRow_setCells (List.replicate ((l.length - n) * 4) (.int .i64 0)) (n * 4) wr _ HOWN.out)
      clear hl0 HOWN SL HOWN0 HO1
      go_wp2_with (first | (simp only [hcl]) | fail)
      go_ret
      obtain ⟨ys, h0, h1, h2⟩ := HF.out
      refine ⟨_, rfl, ?_, BF.out⟩
      rw [← HQL.out]
      have hy : ys.take (n * 4) = flatT usL qs := List.ext_getElem? fun i => by
        have hfl : (flatT usL qs).length = n * 4 := by rw [flatT_len, HQN.out]; rfl
        by_cases hin : i < n * 4
        · rw [List.getElem?_take_of_lt hin, h2 i, if_neg (by omega), E2, flatT_append, List.getElem?_append_left (by omega)]
        · rw [List.getElem?_take_eq_none (by omega), List.getElem?_eq_none (by omega)]
      have H0 := ownsRow_front h0 (m := n) (by omega)
      rw [hy, ← HQN2] at H0
      rw [← HQN2]
      exact slt_of_own (L := usL) H0

theorem eqlnil_g (w : World) (a : Option Addr) (n c n' c' : Nat) : (binOp .eql 23 (.slice a n c) (.slice none n' c')).run Try.prog w = .ok (.bool a.isNone) w :=
  Lib.run_eql_slice_nil w _ 34 a n c n' c' (by kernel_rfl)
theorem zeroCells5 (n : Nat) : (Builtin.zeroCells #[.int .i64 0, .int .i64 0, .int .i64 0, .int .i64 0, .int .i64 0] n).toList = List.replicate (n * 5) (.int .i64 0) := by
  simp only [Builtin.zeroCells]
  apply List.ext_getElem
  · simp
  · intro i h1 h2
    have h : i % 5 < 5 := Nat.mod_lt _ (by decide)
    simp only [List.getElem_replicate, Array.toList_map, List.getElem_map, Array.getElem_toList, Array.getElem_range]
    generalize hm : i % 5 = m at h
    match m, h with
    | 0, _ => rfl
    | 1, _ => rfl
    | 2, _ => rfl
    | 3, _ => rfl
    | 4, _ => rfl
theorem run_clear_g (w : World) (ty : TypeId) (b o n c : Nat) (hn : 0 < n) (hc : ∀ j, j < n * 5 → (w.cell? ⟨b, o + j, none⟩).isSome = true) (hf : ∀ j, j < n * 5 → w.frozen? ⟨b, o + j, none⟩ = false) :
    (Builtin.clear_ #[23] ty #[.slice (some ⟨b, o, none⟩) n c]).run Try.prog w = .ok (.tuple #[]) (w.setCells b o (List.replicate (n * 5) (.int .i64 0))) := by
  have hst := run_storeCells_cells (P := Try.prog) b o (List.replicate (n * 5) (.int .i64 0)) 0 w (by simpa using hc) (by simpa using hf) (by intro v hv'; rw [List.eq_of_mem_replicate hv']; rfl)
  simp only [Nat.add_zero] at hst
  have hz := zeroCells5 n
  obtain ⟨m, rfl⟩ : ∃ m, n = m + 1 := ⟨n - 1, by omega⟩
  have hv : ∀ w, (zeroValue 34).run Try.prog w = .ok (.agg #[.int .i64 0, .int .i64 0, .int .i64 0, .int .i64 0, .int .i64 0]) w := fun w => Try.zeroValue34 w
  simp [Builtin.clear_, run_underlying Try.underlying23, hv, Value.cells, hz, hst]
set_option linter.unusedSimpArgs false in
set_option linter.unusedVariables false in
set_option maxRecDepth 100000 in
set_option maxHeartbeats 2000000 in
theorem clone_g (v : Value) (l : List Gr) (w : World) (sl : SlG w v l) (h100 : l.length ≤ 100) : Calls Try.prog 32 #[v] w fun e w' => OwnG w l e w' := by
  obtain ⟨p, cap, e0, hlc, hcm, hpn⟩ := sl.form l.length rfl
  subst e0
  have OL := Lib.hid ((sl.below (belowNew w (.cells #[] 34))).olds)
  have HN := Lib.hid sl.none_len
  have q := eqlnil_g
  unfold maxLen at hcm
  clear hpn sl
  obtain ⟨i0, hi, hz, hs0, hb0⟩ := info_parts info_g
  have IF := Lib.hid (And.intro hi (And.intro hz (And.intro hs0 hb0)))
  clear hi hz hs0 hb0
  go_enter Try.func32, Try.ntmps32
  cases p with
  | none =>
    obtain rfl : l = [] := HN.out rfl
    go_wp2
    go_ret
    exact ⟨_, rfl, World.ownsRow_nil _ _ _ _, Below.refl _ _⟩
  | some ad =>
    go_wp2_with (at_builtin; refine wpList_append_own _ rfl _ _ 23 rfl w.heap.size 34 i0 _ 5 40 (by kernel_rfl) IF.out.1 IF.out.2.1 IF.out.2.2.1 IF.out.2.2.2 rfl (by decide) _ _ _ rfl (World.ownsRow_made w #[] 0 (Nat.le_refl _) (Nat.zero_le _) (by simp)) ad l.length cap (flatT grL l) rfl (flatT_len l) (OL.out ad rfl) flatT_cell ?qc4 ?qc5 ?qc6 ?_)
    case qc4 => unfold maxLen; omega
    case qc5 => omega
    case qc6 => simp
    intro v' w1 hown hgrow hnil
    have HO := Lib.hid hown
    have HB := Lib.hid (((Below.refl _ w).alloc (Nat.le_refl _) _).grown hgrow (by simp) (by intro k hk; simp [Value.ownBlock] at hk; omega))
    clear hown hgrow hnil
    go_wp2
    go_ret
    exact ⟨v', rfl, by simpa using HO.out, HB.out⟩

set_option linter.unusedSimpArgs false in
set_option linter.unusedVariables false in
set_option maxRecDepth 100000 in
set_option maxHeartbeats 2000000 in
theorem del_none_g (v : Value) (l : List Gr) (b1 b2 : Nat) (q : Gr → Bool) (B : Nat) (w : World) (sl : SlG w v l) (hB : B ≤ w.heap.size) (hq : ∀ (d : Gr) (wx : World), Below B w wx → Calls Try.prog 71 #[.agg #[.int .i64 d.s, .int .i64 d.o, .int .i64 d.p, .int .i64 d.m, .int .i64 d.u], .pointer (some ⟨b1, 0, none⟩), .pointer (some ⟨b2, 0, none⟩)] wx fun e w' => e = .returned (.bool (q d)) ∧ Below wx.heap.size wx w') (hi : idxD q l = -1) :
    Calls Try.prog 70 #[v, .func (.func 71) #[] #[.pointer (some ⟨b1, 0, none⟩), .pointer (some ⟨b2, 0, none⟩)]] w fun e w' => e = .returned v ∧ Below w.heap.size w w' := by
  have SL := Lib.hid sl
  have HI := Lib.hid hi
  have HQ := Lib.hid hq
  clear hi sl hq
  go_enter Try.func70, Try.ntmps70
  go_wp2_with (first | (go_at_call 65; refine (ix_wog_lit v l b1 b2 q B (-1) _ SL.out hB HQ.out HI.out).mono ?_; rintro e w1 ⟨rfl, hb2⟩; have B1 := Lib.hid hb2; clear hb2) | fail)
  go_ret
  exact ⟨rfl, B1.out⟩

set_option linter.unusedSimpArgs false in
set_option linter.unusedVariables false in
set_option maxRecDepth 100000 in
set_option maxHeartbeats 2000000 in
theorem del_some_g (g cap : Nat) (l : List Gr) (b1 b2 : Nat) (q : Gr → Bool) (B k : Nat) (d0 : Gr) (w : World) (hown : w.ownsRow B 34 5 (.slice (some ⟨g, 0, none⟩) l.length cap) l.length (flatT grL l)) (hB : B ≤ w.heap.size) (hgB : B ≤ g)
    (hq : ∀ (d : Gr) (wx : World), Below B w wx → Calls Try.prog 71 #[.agg #[.int .i64 d.s, .int .i64 d.o, .int .i64 d.p, .int .i64 d.m, .int .i64 d.u], .pointer (some ⟨b1, 0, none⟩), .pointer (some ⟨b2, 0, none⟩)] wx fun e w' => e = .returned (.bool (q d)) ∧ Below wx.heap.size wx w') (hlc : l.length ≤ cap) (hcm : cap ≤ 9223372036854775807) (h1000 : l.length ≤ 1000) (hk : l[k]? = some d0) (hi : idxD q l = (k : Int)) (hq0 : q d0 = true) (hpre : (l.take k).any q = false) :
    Calls Try.prog 70 #[.slice (some ⟨g, 0, none⟩) l.length cap, .func (.func 71) #[] #[.pointer (some ⟨b1, 0, none⟩), .pointer (some ⟨b2, 0, none⟩)]] w fun e w' => ∃ v', e = .returned v' ∧ SlG w' v' (l.filter (fun d => !q d)) ∧ Below B w w' := by
  have HOWN0 := Lib.hid hown
  have SL := Lib.hid (slt_of_own (L := grL) hown)
  have HI := Lib.hid hi
  have HQ := Lib.hid hq
  have HS := Lib.hid (delR_start hk hq0 hpre)
  have hkl := (List.getElem?_eq_some_iff.1 hk).1
  have j0 : (0 : Int) ≤ (k : Int) := Int.natCast_nonneg _
  have j1 : (k : Int) < 1000 := by omega
  have hne : ((k : Int) == -1) = false := beq_eq_false_iff_ne.2 (by omega)
  clear hi hk hq0 hpre hown hq
  go_enter Try.func70, Try.ntmps70
  go_wp2_with (first | (go_at_call 65; refine (ix_wog_lit _ l b1 b2 q B (k : Int) _ SL.out hB HQ.out HI.out).mono ?_; rintro e w1 ⟨rfl, hb2⟩; have B1 := Lib.hid hb2; clear hb2) | fail)
  have HO1 := Lib.hid (ownsRow_belowD HOWN0.out B1.out)
  have B2 := Lib.hid (show Below B w w1 from B1.out.mono hB)
  have hz1 := B1.out.size
  clear hne j0 j1
  go_loopw [5, 6] (fun ii jj wr => ∃ (n j : Nat) (row qs mid : List Gr), ii = .int .i64 n ∧ qs.length = n ∧ n ≤ 1000 ∧ jj = .int .i64 j ∧ j ≤ l.length ∧ DelR (fun d => !q d) l j row qs mid ∧ row.length = l.length ∧ wr.ownsRow B 34 5 (.slice (some ⟨g, 0, none⟩) l.length cap) l.length (flatT grL row) ∧ Below B w wr ∧ w.heap.size ≤ wr.heap.size) (fun _ j _ => l.length - (intOf j).toNat)
  case atStart => exact ⟨k, k + 1, l, l.take k, [d0], rfl, by simp; omega, by omega, by go_num, by omega, HS.out, rfl, HO1.out, B2.out, hz1⟩
  case round =>
    obtain ⟨n, j, row, qs, mid, rfl, hqn, hn, rfl, hj, hR, hrl, hown, bel, hws⟩ := hrel
    have HR := Lib.hid hR
    have HQN := Lib.hid hqn
    have HRL := Lib.hid hrl
    have HOWN := Lib.hid hown
    have BE := Lib.hid bel
    have hgl : g < wr.heap.size := (hown.lt _ rfl).2
    clear hR hqn hrl hown bel
    have n0 : (0 : Int) ≤ (n : Int) := Int.natCast_nonneg _
    have j0 : (0 : Int) ≤ (j : Int) := Int.natCast_nonneg _
    by_cases hlt : j < l.length
    · have j1 : (j : Int) < (l.length : Int) := by omega
      obtain ⟨d, hd⟩ : ∃ d, l[j]? = some d := ⟨_, List.getElem?_eq_getElem hlt⟩
      have HD := Lib.hid hd
      have hrow := delR_at HR.out hd
      have hl0 := HOWN.out.1
      have y0 : (flatT grL row)[j * 5 + 0]? = some (.int .i64 d.s) := flatT_at (L := grL) hrow (j := 0) rfl
      have y1 : (flatT grL row)[j * 5 + 1]? = some (.int .i64 d.o) := flatT_at (L := grL) hrow (j := 1) rfl
      have y2 : (flatT grL row)[j * 5 + 2]? = some (.int .i64 d.p) := flatT_at (L := grL) hrow (j := 2) rfl
      have y3 : (flatT grL row)[j * 5 + 3]? = some (.int .i64 d.m) := flatT_at (L := grL) hrow (j := 3) rfl
      have y4 : (flatT grL row)[j * 5 + 4]? = some (.int .i64 d.u) := flatT_at (L := grL) hrow (j := 4) rfl
      have c0 : wr.cell? ⟨g, j * 5, none⟩ = some (.int .i64 d.s) := by rw [HOWN.out.cellAt _ (by omega)]; exact y0
      have c1 : wr.cell? ⟨g, j * 5 + 1, none⟩ = some (.int .i64 d.o) := by rw [HOWN.out.cellAt _ (by omega)]; exact y1
      have c2 : wr.cell? ⟨g, j * 5 + 2, none⟩ = some (.int .i64 d.p) := by rw [HOWN.out.cellAt _ (by omega)]; exact y2
      have c3 : wr.cell? ⟨g, j * 5 + 3, none⟩ = some (.int .i64 d.m) := by rw [HOWN.out.cellAt _ (by omega)]; exact y3
      have c4 : wr.cell? ⟨g, j * 5 + 4, none⟩ = some (.int .i64 d.u) := by rw [HOWN.out.cellAt _ (by omega)]; exact y4
      have hqlt : n < l.length := by have := HR.out.2.2; have := HQN.out; omega
      have n1 : (n : Int) < (l.length : Int) := by omega
      clear hl0 y0 y1 y2 y3 y4 hrow hd
      cases hn : q d with
      | true =>
        have HN := Lib.hid hn
        clear hn
        go_wp2_with (first | (go_at_call 71; refine (calls_bool (HQ.out d _ (BE.out.alloc (by omega) _)) HN.out).mono ?_; rintro e w2 ⟨rfl, hb2⟩; have hs2 := hb2.size; have oK := (own_at (w := wr) [.int .i64 d.s, .int .i64 d.o, .int .i64 d.p, .int .i64 d.m, .int .i64 d.u] 34 rfl).below hb2; have HO2 := Lib.hid (ownsRow_belowD (HOWN.out.alloc _) hb2); have B3 := Lib.hid (belowTo (BE.out.alloc (by omega) _) hb2 (by simp; omega)); clear hb2; obtain ⟨k0, k1, k2, k3, k4, fK, zK⟩ := own5 oK; have hgl2 : g < w2.heap.size := (HO2.out.lt _ rfl).2; have TH := Lib.hid (ownT_there (L := grL) (i := n) HO2.out (by have := HRL.out; omega)); have hw2 : w.heap.size ≤ w2.heap.size := (by simp at hs2; omega); clear hs2) | fail)
        go_roundw
        case rel =>
          obtain ⟨mid', hR'⟩ := delR_drop HR.out HD.out (by simpa using HN.out)
          exact ⟨n, j + 1, row, qs, mid', rfl, HQN.out, by omega, by go_num, by omega, hR', HRL.out, HO2.out, B3.out, hw2⟩
        case measure => simp [intOf]; omega
      | false =>
        have HN := Lib.hid hn
        clear hn
        go_wp2_with (first | (go_at_call 71; refine (calls_bool (HQ.out d _ (BE.out.alloc (by omega) _)) HN.out).mono ?_; rintro e w2 ⟨rfl, hb2⟩; have hs2 := hb2.size; have oK := (own_at (w := wr) [.int .i64 d.s, .int .i64 d.o, .int .i64 d.p, .int .i64 d.m, .int .i64 d.u] 34 rfl).below hb2; have HO2 := Lib.hid (ownsRow_belowD (HOWN.out.alloc _) hb2); have B3 := Lib.hid (belowTo (BE.out.alloc (by omega) _) hb2 (by simp; omega)); clear hb2; obtain ⟨k0, k1, k2, k3, k4, fK, zK⟩ := own5 oK; have hgl2 : g < w2.heap.size := (HO2.out.lt _ rfl).2; have TH := Lib.hid (ownT_there (L := grL) (i := n) HO2.out (by have := HRL.out; omega)); have hw2 : w.heap.size ≤ w2.heap.size := (by simp at hs2; omega); clear hs2) | ((with_reducible refine storeG d g (n * 5) ?_ ?_ ?_ ?_); (next => rfl); (next => exact ⟨_, _, rfl, rfl, rfl⟩); (next => (have := TH.out; rwa [Nat.zero_add] at this))) | fail)
        go_roundw
        case rel =>
          obtain ⟨mid', hR'⟩ := delR_keep HR.out HD.out (by simpa using HN.out)
          have HS2 := ownT_set (L := grL) (i := n) d HO2.out (by have := HRL.out; omega)
          rw [Nat.zero_add] at HS2
          rw [HQN.out] at hR'
          refine ⟨n + 1, j + 1, row.set n d, qs ++ [d], mid', by go_num, by rw [List.length_append, HQN.out]; rfl, by omega, by go_num, by omega, hR', by rw [List.length_set]; exact HRL.out, HS2, below_setCells g hgB _ _ _ B3.out, ?_⟩
          exact Nat.le_trans hw2 (below_setCells g hgB _ _ _ (Below.refl B w2)).size
        case measure => simp [intOf]; omega
    · obtain rfl : j = l.length := by omega
      obtain ⟨E1, E2, E3, E4⟩ := delR_end HR.out
      have HQL := Lib.hid E1
      have HQN2 := HQN.out
      have n1 : (n : Int) < (l.length : Int) := by omega
      have hl0 := HOWN.out.1
      rw [flatT_len, HRL.out] at hl0
      have hcl := fun ty => run_clear_g wr ty g (n * 5) (l.length - n) (cap - n) (by omega) (fun t ht => by rw [HOWN.out.cellAt _ (by omega), List.getElem?_eq_getElem (by rw [flatT_len, HRL.out]; show _ < l.length * 5; omega)]; rfl) (fun t ht => HOWN.out.frozenAt _)
      have BF := Lib.hid (below_setCells g hgB (List.replicate ((l.length - n) * 5) (.int .i64 0)) (n * 5) wr BE.out)
      have HF := Lib.hid (ownsRow_setCells (List.replicate ((l.length - n) * 5) (.int .i64 0)) (n * 5) wr _ HOWN.out)
      clear hl0 HOWN SL HOWN0 HO1
      go_wp2_with (first | (simp only [hcl]) | fail)
      go_ret
      obtain ⟨ys, h0, h1, h2⟩ := HF.out
      refine ⟨_, rfl, ?_, BF.out⟩
      rw [← HQL.out]
      have hy : ys.take (n * 5) = flatT grL qs := List.ext_getElem? fun i => by
        have hfl : (flatT grL qs).length = n * 5 := by rw [flatT_len, HQN.out]; rfl
        by_cases hin : i < n * 5
        · rw [List.getElem?_take_of_lt hin, h2 i, if_neg (by omega), E2, flatT_append, List.getElem?_append_left (by omega)]
        · rw [List.getElem?_take_eq_none (by omega), List.getElem?_eq_none (by omega)]
      have H0 := ownsRow_front h0 (m := n) (by omega)
      rw [hy, ← HQN2] at H0
      rw [← HQN2]
      exact slt_of_own (L := grL) H0

theorem eqlnil_a (w : World) (a : Option Addr) (n c n' c' : Nat) : (binOp .eql 24 (.slice a n c) (.slice none n' c')).run Try.prog w = .ok (.bool a.isNone) w :=
  Lib.run_eql_slice_nil w _ 51 a n c n' c' (by kernel_rfl)
theorem zeroCells3 (n : Nat) : (Builtin.zeroCells #[.int .i64 0, .int .i64 0, .int .i64 0] n).toList = List.replicate (n * 3) (.int .i64 0) := by
  simp only [Builtin.zeroCells]
  apply List.ext_getElem
  · simp
  · intro i h1 h2
    have h : i % 3 < 3 := Nat.mod_lt _ (by decide)
    simp only [List.getElem_replicate, Array.toList_map, List.getElem_map, Array.getElem_toList, Array.getElem_range]
    generalize hm : i % 3 = m at h
    match m, h with
    | 0, _ => rfl
    | 1, _ => rfl
    | 2, _ => rfl
theorem run_clear_a (w : World) (ty : TypeId) (b o n c : Nat) (hn : 0 < n) (hc : ∀ j, j < n * 3 → (w.cell? ⟨b, o + j, none⟩).isSome = true) (hf : ∀ j, j < n * 3 → w.frozen? ⟨b, o + j, none⟩ = false) :
    (Builtin.clear_ #[24] ty #[.slice (some ⟨b, o, none⟩) n c]).run Try.prog w = .ok (.tuple #[]) (w.setCells b o (List.replicate (n * 3) (.int .i64 0))) := by
  have hst := run_storeCells_cells (P := Try.prog) b o (List.replicate (n * 3) (.int .i64 0)) 0 w (by simpa using hc) (by simpa using hf) (by intro v hv'; rw [List.eq_of_mem_replicate hv']; rfl)
  simp only [Nat.add_zero] at hst
  have hz := zeroCells3 n
  obtain ⟨m, rfl⟩ : ∃ m, n = m + 1 := ⟨n - 1, by omega⟩
  have hv : ∀ w, (zeroValue 51).run Try.prog w = .ok (.agg #[.int .i64 0, .int .i64 0, .int .i64 0]) w := fun w => Try.zeroValue51 w
  simp [Builtin.clear_, run_underlying Try.underlying24, hv, Value.cells, hz, hst]
set_option linter.unusedSimpArgs false in
set_option linter.unusedVariables false in
set_option maxRecDepth 100000 in
set_option maxHeartbeats 2000000 in
theorem clone_a (v : Value) (l : List Ak) (w : World) (sl : SlA w v l) (h100 : l.length ≤ 100) : Calls Try.prog 60 #[v] w fun e w' => OwnA w l e w' := by
  obtain ⟨p, cap, e0, hlc, hcm, hpn⟩ := sl.form l.length rfl
  subst e0
  have OL := Lib.hid ((sl.below (belowNew w (.cells #[] 51))).olds)
  have HN := Lib.hid sl.none_len
  have q := eqlnil_a
  unfold maxLen at hcm
  clear hpn sl
  obtain ⟨i0, hi, hz, hs0, hb0⟩ := info_parts info_a
  have IF := Lib.hid (And.intro hi (And.intro hz (And.intro hs0 hb0)))
  clear hi hz hs0 hb0
  go_enter Try.func60, Try.ntmps60
  cases p with
  | none =>
    obtain rfl : l = [] := HN.out rfl
    go_wp2
    go_ret
    exact ⟨_, rfl, World.ownsRow_nil _ _ _ _, Below.refl _ _⟩
  | some ad =>
    go_wp2_with (at_builtin; refine wpList_append_own _ rfl _ _ 24 rfl w.heap.size 51 i0 _ 3 24 (by kernel_rfl) IF.out.1 IF.out.2.1 IF.out.2.2.1 IF.out.2.2.2 rfl (by decide) _ _ _ rfl (World.ownsRow_made w #[] 0 (Nat.le_refl _) (Nat.zero_le _) (by simp)) ad l.length cap (flatT akL l) rfl (flatT_len l) (OL.out ad rfl) flatT_cell ?qc4 ?qc5 ?qc6 ?_)
    case qc4 => unfold maxLen; omega
    case qc5 => omega
    case qc6 => simp
    intro v' w1 hown hgrow hnil
    have HO := Lib.hid hown
    have HB := Lib.hid (((Below.refl _ w).alloc (Nat.le_refl _) _).grown hgrow (by simp) (by intro k hk; simp [Value.ownBlock] at hk; omega))
    clear hown hgrow hnil
    go_wp2
    go_ret
    exact ⟨v', rfl, by simpa using HO.out, HB.out⟩

set_option linter.unusedSimpArgs false in
set_option linter.unusedVariables false in
set_option maxRecDepth 100000 in
set_option maxHeartbeats 2000000 in
theorem del_none_a (v : Value) (l : List Ak) (b1 b2 : Nat) (q : Ak → Bool) (B : Nat) (w : World) (sl : SlA w v l) (hB : B ≤ w.heap.size) (hq : ∀ (d : Ak) (wx : World), Below B w wx → Calls Try.prog 73 #[.agg #[.int .i64 d.s, .int .i64 d.o, .int .i64 d.p], .pointer (some ⟨b1, 0, none⟩), .pointer (some ⟨b2, 0, none⟩)] wx fun e w' => e = .returned (.bool (q d)) ∧ Below wx.heap.size wx w') (hi : idxD q l = -1) :
    Calls Try.prog 72 #[v, .func (.func 73) #[] #[.pointer (some ⟨b1, 0, none⟩), .pointer (some ⟨b2, 0, none⟩)]] w fun e w' => e = .returned v ∧ Below w.heap.size w w' := by
  have SL := Lib.hid sl
  have HI := Lib.hid hi
  have HQ := Lib.hid hq
  clear hi sl hq
  go_enter Try.func72, Try.ntmps72
  go_wp2_with (first | (go_at_call 76; refine (ix_woa_lit v l b1 b2 q B (-1) _ SL.out hB HQ.out HI.out).mono ?_; rintro e w1 ⟨rfl, hb2⟩; have B1 := Lib.hid hb2; clear hb2) | fail)
  go_ret
  exact ⟨rfl, B1.out⟩

set_option linter.unusedSimpArgs false in
set_option linter.unusedVariables false in
set_option maxRecDepth 100000 in
set_option maxHeartbeats 2000000 in
theorem del_some_a (g cap : Nat) (l : List Ak) (b1 b2 : Nat) (q : Ak → Bool) (B k : Nat) (d0 : Ak) (w : World) (hown : w.ownsRow B 51 3 (.slice (some ⟨g, 0, none⟩) l.length cap) l.length (flatT akL l)) (hB : B ≤ w.heap.size) (hgB : B ≤ g)
    (hq : ∀ (d : Ak) (wx : World), Below B w wx → Calls Try.prog 73 #[.agg #[.int .i64 d.s, .int .i64 d.o, .int .i64 d.p], .pointer (some ⟨b1, 0, none⟩), .pointer (some ⟨b2, 0, none⟩)] wx fun e w' => e = .returned (.bool (q d)) ∧ Below wx.heap.size wx w') (hlc : l.length ≤ cap) (hcm : cap ≤ 9223372036854775807) (h1000 : l.length ≤ 1000) (hk : l[k]? = some d0) (hi : idxD q l = (k : Int)) (hq0 : q d0 = true) (hpre : (l.take k).any q = false) :
    Calls Try.prog 72 #[.slice (some ⟨g, 0, none⟩) l.length cap, .func (.func 73) #[] #[.pointer (some ⟨b1, 0, none⟩), .pointer (some ⟨b2, 0, none⟩)]] w fun e w' => ∃ v', e = .returned v' ∧ SlA w' v' (l.filter (fun d => !q d)) ∧ Below B w w' := by
  have HOWN0 := Lib.hid hown
  have SL := Lib.hid (slt_of_own (L := akL) hown)
  have HI := Lib.hid hi
  have HQ := Lib.hid hq
  have HS := Lib.hid (delR_start hk hq0 hpre)
  have hkl := (List.getElem?_eq_some_iff.1 hk).1
  have j0 : (0 : Int) ≤ (k : Int) := Int.natCast_nonneg _
  have j1 : (k : Int) < 1000 := by omega
  have hne : ((k : Int) == -1) = false := beq_eq_false_iff_ne.2 (by omega)
  clear hi hk hq0 hpre hown hq
  go_enter Try.func72, Try.ntmps72
  go_wp2_with (first | (go_at_call 76; refine (ix_woa_lit _ l b1 b2 q B (k : Int) _ SL.out hB HQ.out HI.out).mono ?_; rintro e w1 ⟨rfl, hb2⟩; have B1 := Lib.hid hb2; clear hb2) | fail)
  have HO1 := Lib.hid (ownsRow_belowD HOWN0.out B1.out)
  have B2 := Lib.hid (show Below B w w1 from B1.out.mono hB)
  have hz1 := B1.out.size
  clear hne j0 j1
  go_loopw [5, 6] (fun ii jj wr => ∃ (n j : Nat) (row qs mid : List Ak), ii = .int .i64 n ∧ qs.length = n ∧ n ≤ 1000 ∧ jj = .int .i64 j ∧ j ≤ l.length ∧ DelR (fun d => !q d) l j row qs mid ∧ row.length = l.length ∧ wr.ownsRow B 51 3 (.slice (some ⟨g, 0, none⟩) l.length cap) l.length (flatT akL row) ∧ Below B w wr ∧ w.heap.size ≤ wr.heap.size) (fun _ j _ => l.length - (intOf j).toNat)
  case atStart => exact ⟨k, k + 1, l, l.take k, [d0], rfl, by simp; omega, by omega, by go_num, by omega, HS.out, rfl, HO1.out, B2.out, hz1⟩
  case round =>
    obtain ⟨n, j, row, qs, mid, rfl, hqn, hn, rfl, hj, hR, hrl, hown, bel, hws⟩ := hrel
    have HR := Lib.hid hR
    have HQN := Lib.hid hqn
    have HRL := Lib.hid hrl
    have HOWN := Lib.hid hown
    have BE := Lib.hid bel
    have hgl : g < wr.heap.size := (hown.lt _ rfl).2
    clear hR hqn hrl hown bel
    have n0 : (0 : Int) ≤ (n : Int) := Int.natCast_nonneg _
    have j0 : (0 : Int) ≤ (j : Int) := Int.natCast_nonneg _
    by_cases hlt : j < l.length
    · have j1 : (j : Int) < (l.length : Int) := by omega
      obtain ⟨d, hd⟩ : ∃ d, l[j]? = some d := ⟨_, List.getElem?_eq_getElem hlt⟩
      have HD := Lib.hid hd
      have hrow := delR_at HR.out hd
      have hl0 := HOWN.out.1
      have y0 : (flatT akL row)[j * 3 + 0]? = some (.int .i64 d.s) := flatT_at (L := akL) hrow (j := 0) rfl
      have y1 : (flatT akL row)[j * 3 + 1]? = some (.int .i64 d.o) := flatT_at (L := akL) hrow (j := 1) rfl
      have y2 : (flatT akL row)[j * 3 + 2]? = some (.int .i64 d.p) := flatT_at (L := akL) hrow (j := 2) rfl
      have c0 : wr.cell? ⟨g, j * 3, none⟩ = some (.int .i64 d.s) := by rw [HOWN.out.cellAt _ (by omega)]; exact y0
      have c1 : wr.cell? ⟨g, j * 3 + 1, none⟩ = some (.int .i64 d.o) := by rw [HOWN.out.cellAt _ (by omega)]; exact y1
      have c2 : wr.cell? ⟨g, j * 3 + 2, none⟩ = some (.int .i64 d.p) := by rw [HOWN.out.cellAt _ (by omega)]; exact y2
      have hqlt : n < l.length := by have := HR.out.2.2; have := HQN.out; omega
      have n1 : (n : Int) < (l.length : Int) := by omega
      clear hl0 y0 y1 y2 hrow hd
      cases hn : q d with
      | true =>
        have HN := Lib.hid hn
        clear hn
        go_wp2_with (first | (go_at_call 73; refine (calls_bool (HQ.out d _ (BE.out.alloc (by omega) _)) HN.out).mono ?_; rintro e w2 ⟨rfl, hb2⟩; have hs2 := hb2.size; have oK := (own_at (w := wr) [.int .i64 d.s, .int .i64 d.o, .int .i64 d.p] 51 rfl).below hb2; have HO2 := Lib.hid (ownsRow_belowD (HOWN.out.alloc _) hb2); have B3 := Lib.hid (belowTo (BE.out.alloc (by omega) _) hb2 (by simp; omega)); clear hb2; obtain ⟨k0, k1, k2, fK, zK⟩ := own3 oK; have hgl2 : g < w2.heap.size := (HO2.out.lt _ rfl).2; have TH := Lib.hid (ownT_there (L := akL) (i := n) HO2.out (by have := HRL.out; omega)); have hw2 : w.heap.size ≤ w2.heap.size := (by simp at hs2; omega); clear hs2) | fail)
        go_roundw
        case rel =>
          obtain ⟨mid', hR'⟩ := delR_drop HR.out HD.out (by simpa using HN.out)
          exact ⟨n, j + 1, row, qs, mid', rfl, HQN.out, by omega, by go_num, by omega, hR', HRL.out, HO2.out, B3.out, hw2⟩
        case measure => simp [intOf]; omega
      | false =>
        have HN := Lib.hid hn
        clear hn
        go_wp2_with (first | (go_at_call 73; refine (calls_bool (HQ.out d _ (BE.out.alloc (by omega) _)) HN.out).mono ?_; rintro e w2 ⟨rfl, hb2⟩; have hs2 := hb2.size; have oK := (own_at (w := wr) [.int .i64 d.s, .int .i64 d.o, .int .i64 d.p] 51 rfl).below hb2; have HO2 := Lib.hid (ownsRow_belowD (HOWN.out.alloc _) hb2); have B3 := Lib.hid (belowTo (BE.out.alloc (by omega) _) hb2 (by simp; omega)); clear hb2; obtain ⟨k0, k1, k2, fK, zK⟩ := own3 oK; have hgl2 : g < w2.heap.size := (HO2.out.lt _ rfl).2; have TH := Lib.hid (ownT_there (L := akL) (i := n) HO2.out (by have := HRL.out; omega)); have hw2 : w.heap.size ≤ w2.heap.size := (by simp at hs2; omega); clear hs2) | ((with_reducible refine storeA d g (n * 3) ?_ ?_ ?_ ?_); (next => rfl); (next => exact ⟨_, _, rfl, rfl, rfl⟩); (next => (have := TH.out; rwa [Nat.zero_add] at this))) | fail)
        go_roundw
        case rel =>
          obtain ⟨mid', hR'⟩ := delR_keep HR.out HD.out (by simpa using HN.out)
          have HS2 := ownT_set (L := akL) (i := n) d HO2.out (by have := HRL.out; omega)
          rw [Nat.zero_add] at HS2
          rw [HQN.out] at hR'
          refine ⟨n + 1, j + 1, row.set n d, qs ++ [d], mid', by go_num, by rw [List.length_append, HQN.out]; rfl, by omega, by go_num, by omega, hR', by rw [List.length_set]; exact HRL.out, HS2, below_setCells g hgB _ _ _ B3.out, ?_⟩
          exact Nat.le_trans hw2 (below_setCells g hgB _ _ _ (Below.refl B w2)).size
        case measure => simp [intOf]; omega
    · obtain rfl : j = l.length := by omega
      obtain ⟨E1, E2, E3, E4⟩ := delR_end HR.out
      have HQL := Lib.hid E1
      have HQN2 := HQN.out
      have n1 : (n : Int) < (l.length : Int) := by omega
      have hl0 := HOWN.out.1
      rw [flatT_len, HRL.out] at hl0
      have hcl := fun ty => run_clear_a wr ty g (n * 3) (l.length - n) (cap - n) (by omega) (fun t ht => by rw [HOWN.out.cellAt _ (by omega), List.getElem?_eq_getElem (by rw [flatT_len, HRL.out]; show _ < l.length * 3; omega)]; rfl) (fun t ht => HOWN.out.frozenAt _)
      have BF := Lib.hid (below_setCells g hgB (List.replicate ((l.length - n) * 3) (.int .i64 0)) (n * 3) wr BE.out)
      have HF := Lib.hid (ownsRow_setCells (List.replicate ((l.length - n) * 3) (.int .i64 0)) (n * 3) wr _ HOWN.out)
      clear hl0 HOWN SL HOWN0 HO1
      go_wp2_with (first | (simp only [hcl]) | fail)
      go_ret
      obtain ⟨ys, h0, h1, h2⟩ := HF.out
      refine ⟨_, rfl, ?_, BF.out⟩
      rw [← HQL.out]
      have hy : ys.take (n * 3) = flatT akL qs := List.ext_getElem? fun i => by
        have hfl : (flatT akL qs).length = n * 3 := by rw [flatT_len, HQN.out]; rfl
        by_cases hin : i < n * 3
        · rw [List.getElem?_take_of_lt hin, h2 i, if_neg (by omega), E2, flatT_append, List.getElem?_append_left (by omega)]
        · rw [List.getElem?_take_eq_none (by omega), List.getElem?_eq_none (by omega)]
      have H0 := ownsRow_front h0 (m := n) (by omega)
      rw [hy, ← HQN2] at H0
      rw [← HQN2]
      exact slt_of_own (L := akL) H0

end Go.Proofs.Ytdmadnoijhmbcaa

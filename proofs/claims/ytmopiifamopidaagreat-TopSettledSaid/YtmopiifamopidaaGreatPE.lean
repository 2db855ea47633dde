/- Deleting entries, and lists without what a node has taken. No condition but those named. -/
import Derived.Test.YtmopiifamopidaaGreatPC
import Derived.LoopN
import Derived.Laws.AppendOwnNone
import Derived.Lib.AppendZerosOnto
import Derived.Lib.SliceRun
import Derived.Lib.Walk
import Derived.Test.YtmopiifamopidaaGreatPA
import Derived.Test.YtmopiifamopidaaGreatPD
set_option linter.unusedVariables false
set_option linter.unusedSimpArgs false
section
namespace Go.Proofs.YtmopiifamopidaaGreat
open Go.RowKit
theorem eqlnil_u (w : World) (a : Option Addr) (n c n' c' : Nat) : (binOp .eql 39 (.slice a n c) (.slice none n' c')).run Tryz.prog w = .ok (.bool a.isNone) w :=
 Lib.run_eql_slice_nil w _ 50 a n c n' c' (by kernel_rfl)
set_option maxRecDepth 100000 in
set_option maxHeartbeats 2000000 in
theorem clone_u (v : Value) (l : List Us) (w : World) (sl : SlU w v l) (h100 : l.length ≤ 100) : Calls Tryz.prog 62 #[v] w fun e w' => OwnU w l e w' := by
 obtain ⟨p, cap, e0, hlc, hcm, hpn⟩ := sl.form l.length rfl
 subst e0
 have OL := Lib.hid ((sl.below (belowNew w (.cells #[] 50))).olds)
 have HN := Lib.hid sl.none_len
 have q := eqlnil_u
 unfold maxLen at hcm
 clear hpn sl
 obtain ⟨i0, hi, hz, hs0, hb0⟩ := info_parts info_u
 have IF := Lib.hid (And.intro hi (And.intro hz (And.intro hs0 hb0)))
 clear hi hz hs0 hb0
 go_enter Tryz.func62, Tryz.ntmps62
 cases p with
 | none =>
  obtain rfl : l = [] := HN.out rfl
  go_wp2
  go_ret
  exact ⟨_, rfl, World.ownsRow_nil _ _ _ _, Below.refl _ _⟩
 | some ad =>
  go_wp2_with (at_builtin; refine wpList_append_own _ rfl _ _ 39 rfl w.heap.size 50 i0 _ 4 32 (by kernel_rfl) IF.out.1 IF.out.2.1 IF.out.2.2.1 IF.out.2.2.2 rfl (by decide) _ _ _ rfl (World.ownsRow_made w #[] 0 (Nat.le_refl _) (Nat.zero_le _) (by simp)) ad l.length cap (flatT usL l) rfl (flatT_len l) (OL.out ad rfl) flatT_cell ?qc4 ?qc5 ?qc6 ?_)
  case qc4 => unfold maxLen; omega
  case qc5 => omega
  case qc6 => simp
  intro v' w1 hown hgrow hnil
  have HO := Lib.hid hown
  have HB := Lib.hid (((Below.refl _ w).alloc (Nat.le_refl _) _).grown hgrow (by simp) (by intro k hk; simp [Value.ownBlock] at hk; omega))
  clear hown hgrow hnil
  go_wp2
  go_ret
  exact ⟨v', rfl, by simpa using HO.out, HB.out⟩
theorem eqlnil_g (w : World) (a : Option Addr) (n c n' c' : Nat) : (binOp .eql 40 (.slice a n c) (.slice none n' c')).run Tryz.prog w = .ok (.bool a.isNone) w :=
 Lib.run_eql_slice_nil w _ 52 a n c n' c' (by kernel_rfl)
theorem zeroCells5 (n : Nat) : (Builtin.zeroCells #[.int .i64 0, .int .i64 0, .int .i64 0, .int .i64 0, .int .i64 0] n).toList = List.replicate (n * 5) (.int .i64 0) := by
 simp only [Builtin.zeroCells]
 apply List.ext_getElem
 ·simp
 ·intro i h1 h2
  have h : i % 5 < 5 := Nat.mod_lt _ (by decide)
  simp only [List.getElem_replicate, Array.toList_map, List.getElem_map, Array.getElem_toList, Array.getElem_range]
  generalize hm : i % 5 = m at h
  match m, h with
  | 0, _ => rfl
  | 1, _ => rfl
  | 2, _ => rfl
  | 3, _ => rfl
  | 4, _ => rfl
theorem run_clear_g (w : World) (ty : TypeId) (b o n c : Nat) (hn : 0 < n) (hc : ∀ j, j < n * 5 → (w.cell? ⟨b, o + j, none⟩).isSome = true) (hf : ∀ j, j < n * 5 → w.frozen? ⟨b, o + j, none⟩ = false) :
  (Builtin.clear_ #[40] ty #[.slice (some ⟨b, o, none⟩) n c]).run Tryz.prog w = .ok (.tuple #[]) (w.setCells b o (List.replicate (n * 5) (.int .i64 0))) := by
 have hst := run_storeCells_cells (P := Tryz.prog) b o (List.replicate (n * 5) (.int .i64 0)) 0 w (by simpa using hc) (by simpa using hf) (by intro v hv'; rw [List.eq_of_mem_replicate hv']; rfl)
 simp only [Nat.add_zero] at hst
 have hz := zeroCells5 n
 obtain ⟨m, rfl⟩ : ∃ m, n = m + 1 := ⟨n - 1, by omega⟩
 have hv : ∀ w, (zeroValue 52).run Tryz.prog w = .ok (.agg #[.int .i64 0, .int .i64 0, .int .i64 0, .int .i64 0, .int .i64 0]) w := fun w => Tryz.zeroValue52 w
 simp [Builtin.clear_, run_underlying Tryz.underlying40, hv, Value.cells, hz, hst]
set_option maxRecDepth 100000 in
set_option maxHeartbeats 2000000 in
theorem clone_g (v : Value) (l : List Gr) (w : World) (sl : SlG w v l) (h100 : l.length ≤ 100) : Calls Tryz.prog 28 #[v] w fun e w' => OwnG w l e w' := by
 obtain ⟨p, cap, e0, hlc, hcm, hpn⟩ := sl.form l.length rfl
 subst e0
 have OL := Lib.hid ((sl.below (belowNew w (.cells #[] 52))).olds)
 have HN := Lib.hid sl.none_len
 have q := eqlnil_g
 unfold maxLen at hcm
 clear hpn sl
 obtain ⟨i0, hi, hz, hs0, hb0⟩ := info_parts info_g
 have IF := Lib.hid (And.intro hi (And.intro hz (And.intro hs0 hb0)))
 clear hi hz hs0 hb0
 go_enter Tryz.func28, Tryz.ntmps28
 cases p with
 | none =>
  obtain rfl : l = [] := HN.out rfl
  go_wp2
  go_ret
  exact ⟨_, rfl, World.ownsRow_nil _ _ _ _, Below.refl _ _⟩
 | some ad =>
  go_wp2_with (at_builtin; refine wpList_append_own _ rfl _ _ 40 rfl w.heap.size 52 i0 _ 5 40 (by kernel_rfl) IF.out.1 IF.out.2.1 IF.out.2.2.1 IF.out.2.2.2 rfl (by decide) _ _ _ rfl (World.ownsRow_made w #[] 0 (Nat.le_refl _) (Nat.zero_le _) (by simp)) ad l.length cap (flatT grL l) rfl (flatT_len l) (OL.out ad rfl) flatT_cell ?qc4 ?qc5 ?qc6 ?_)
  case qc4 => unfold maxLen; omega
  case qc5 => omega
  case qc6 => simp
  intro v' w1 hown hgrow hnil
  have HO := Lib.hid hown
  have HB := Lib.hid (((Below.refl _ w).alloc (Nat.le_refl _) _).grown hgrow (by simp) (by intro k hk; simp [Value.ownBlock] at hk; omega))
  clear hown hgrow hnil
  go_wp2
  go_ret
  exact ⟨v', rfl, by simpa using HO.out, HB.out⟩
set_option maxRecDepth 100000 in
set_option maxHeartbeats 2000000 in
theorem del_none_g (v : Value) (l : List Gr) (b1 b2 : Nat) (q : Gr → Bool) (B : Nat) (w : World) (sl : SlG w v l) (hB : B ≤ w.heap.size) (hq : ∀ (d : Gr) (wx : World), Below B w wx → Calls Tryz.prog 96 #[.agg #[.int .i64 d.s, .int .i64 d.o, .int .i64 d.p, .int .i64 d.m, .int .i64 d.u], .pointer (some ⟨b1, 0, none⟩), .pointer (some ⟨b2, 0, none⟩)] wx fun e w' => e = .returned (.bool (q d)) ∧ Below wx.heap.size wx w') (hi : idxD q l = -1) :
  Calls Tryz.prog 95 #[v, .func (.func 96) #[] #[.pointer (some ⟨b1, 0, none⟩), .pointer (some ⟨b2, 0, none⟩)]] w fun e w' => e = .returned v ∧ Below w.heap.size w w' := by
 have SL := Lib.hid sl
 have HI := Lib.hid hi
 have HQ := Lib.hid hq
 clear hi sl hq
 go_enter Tryz.func95, Tryz.ntmps95
 go_wp2_with (first | (go_at_call 22; refine (ix_wog_lit v l b1 b2 q B (-1) _ SL.out hB HQ.out HI.out).mono ?_; rintro e w1 ⟨rfl, hb2⟩; have B1 := Lib.hid hb2; clear hb2) | fail)
 go_ret
 exact ⟨rfl, B1.out⟩
set_option maxRecDepth 100000 in
set_option maxHeartbeats 2000000 in
theorem del_some_g (g cap : Nat) (l : List Gr) (b1 b2 : Nat) (q : Gr → Bool) (B k : Nat) (d0 : Gr) (w : World) (hown : w.ownsRow B 52 5 (.slice (some ⟨g, 0, none⟩) l.length cap) l.length (flatT grL l)) (hB : B ≤ w.heap.size) (hgB : B ≤ g)
  (hq : ∀ (d : Gr) (wx : World), Below B w wx → Calls Tryz.prog 96 #[.agg #[.int .i64 d.s, .int .i64 d.o, .int .i64 d.p, .int .i64 d.m, .int .i64 d.u], .pointer (some ⟨b1, 0, none⟩), .pointer (some ⟨b2, 0, none⟩)] wx fun e w' => e = .returned (.bool (q d)) ∧ Below wx.heap.size wx w') (hlc : l.length ≤ cap) (hcm : cap ≤ 9223372036854775807) (h1000 : l.length ≤ 1000) (hk : l[k]? = some d0) (hi : idxD q l = (k : Int)) (hq0 : q d0 = true) (hpre : (l.take k).any q = false) :
  Calls Tryz.prog 95 #[.slice (some ⟨g, 0, none⟩) l.length cap, .func (.func 96) #[] #[.pointer (some ⟨b1, 0, none⟩), .pointer (some ⟨b2, 0, none⟩)]] w fun e w' => ∃ v', e = .returned v' ∧ SlG w' v' (l.filter (fun d => !q d)) ∧ Below B w w' := by
 have HOWN0 := Lib.hid hown
 have SL := Lib.hid (slt_of_own (L := grL) hown)
 have HI := Lib.hid hi
 have HQ := Lib.hid hq
 have HS := Lib.hid (delR_start hk hq0 hpre)
 have hkl := (List.getElem?_eq_some_iff.1 hk).1
 have j0 : (0 : Int) ≤ (k : Int) := Int.natCast_nonneg _
 have j1 : (k : Int) < 1000 := by omega
 have hne : ((k : Int) == -1) = false := beq_eq_false_iff_ne.2 (by omega)
 clear hi hk hq0 hpre hown hq
 go_enter Tryz.func95, Tryz.ntmps95
 go_wp2_with (first | (go_at_call 22; refine (ix_wog_lit _ l b1 b2 q B (k : Int) _ SL.out hB HQ.out HI.out).mono ?_; rintro e w1 ⟨rfl, hb2⟩; have B1 := Lib.hid hb2; clear hb2) | fail)
 have HO1 := Lib.hid (ownsRow_belowD HOWN0.out B1.out)
 have B2 := Lib.hid (show Below B w w1 from B1.out.mono hB)
 have hz1 := B1.out.size
 clear hne j0 j1
 go_loopw [5, 6] (fun ii jj wr => ∃ (n j : Nat) (row qs mid : List Gr), ii = .int .i64 n ∧ qs.length = n ∧ n ≤ 1000 ∧ jj = .int .i64 j ∧ j ≤ l.length ∧ DelR (fun d => !q d) l j row qs mid ∧ row.length = l.length ∧ wr.ownsRow B 52 5 (.slice (some ⟨g, 0, none⟩) l.length cap) l.length (flatT grL row) ∧ Below B w wr ∧ w.heap.size ≤ wr.heap.size) (fun _ j _ => l.length - (intOf j).toNat)
 case atStart => exact ⟨k, k + 1, l, l.take k, [d0], rfl, by simp; omega, by omega, by go_num, by omega, HS.out, rfl, HO1.out, B2.out, hz1⟩
 case round =>
  obtain ⟨n, j, row, qs, mid, rfl, hqn, hn, rfl, hj, hR, hrl, hown, bel, hws⟩ := hrel
  have HR := Lib.hid hR
  have HQN := Lib.hid hqn
  have HRL := Lib.hid hrl
  have HOWN := Lib.hid hown
  have BE := Lib.hid bel
  have hgl : g < wr.heap.size := (hown.lt _ rfl).2
  clear hR hqn hrl hown bel
  have n0 : (0 : Int) ≤ (n : Int) := Int.natCast_nonneg _
  have j0 : (0 : Int) ≤ (j : Int) := Int.natCast_nonneg _
  by_cases hlt : j < l.length
  ·have j1 : (j : Int) < (l.length : Int) := by omega
   obtain ⟨d, hd⟩ : ∃ d, l[j]? = some d := ⟨_, List.getElem?_eq_getElem hlt⟩
   have HD := Lib.hid hd
   have hrow := delR_at HR.out hd
   have hl0 := HOWN.out.1
   have y0 : (flatT grL row)[j * 5 + 0]? = some (.int .i64 d.s) := flatT_at (L := grL) hrow (j := 0) rfl
   have y1 : (flatT grL row)[j * 5 + 1]? = some (.int .i64 d.o) := flatT_at (L := grL) hrow (j := 1) rfl
   have y2 : (flatT grL row)[j * 5 + 2]? = some (.int .i64 d.p) := flatT_at (L := grL) hrow (j := 2) rfl
   have y3 : (flatT grL row)[j * 5 + 3]? = some (.int .i64 d.m) := flatT_at (L := grL) hrow (j := 3) rfl
   have y4 : (flatT grL row)[j * 5 + 4]? = some (.int .i64 d.u) := flatT_at (L := grL) hrow (j := 4) rfl
   have c0 : wr.cell? ⟨g, j * 5, none⟩ = some (.int .i64 d.s) := by rw [HOWN.out.cellAt _ (by omega)]; exact y0
   have c1 : wr.cell? ⟨g, j * 5 + 1, none⟩ = some (.int .i64 d.o) := by rw [HOWN.out.cellAt _ (by omega)]; exact y1
   have c2 : wr.cell? ⟨g, j * 5 + 2, none⟩ = some (.int .i64 d.p) := by rw [HOWN.out.cellAt _ (by omega)]; exact y2
   have c3 : wr.cell? ⟨g, j * 5 + 3, none⟩ = some (.int .i64 d.m) := by rw [HOWN.out.cellAt _ (by omega)]; exact y3
   have c4 : wr.cell? ⟨g, j * 5 + 4, none⟩ = some (.int .i64 d.u) := by rw [HOWN.out.cellAt _ (by omega)]; exact y4
   have hqlt : n < l.length := by have := HR.out.2.2; have := HQN.out; omega
   have n1 : (n : Int) < (l.length : Int) := by omega
   clear hl0 y0 y1 y2 y3 y4 hrow hd
   cases hn : q d with
   | true =>
    have HN := Lib.hid hn
    clear hn
    go_wp2_with (first | (go_at_call 96; refine (calls_bool (HQ.out d _ (BE.out.alloc (by omega) _)) HN.out).mono ?_; rintro e w2 ⟨rfl, hb2⟩; have hs2 := hb2.size; have oK := (own_at (w := wr) [.int .i64 d.s, .int .i64 d.o, .int .i64 d.p, .int .i64 d.m, .int .i64 d.u] 52 rfl).below hb2; have HO2 := Lib.hid (ownsRow_belowD (HOWN.out.alloc _) hb2); have B3 := Lib.hid (belowTo (BE.out.alloc (by omega) _) hb2 (by simp; omega)); clear hb2; obtain ⟨k0, k1, k2, k3, k4, fK, zK⟩ := own5 oK; have hgl2 : g < w2.heap.size := (HO2.out.lt _ rfl).2; have TH := Lib.hid (ownT_there (L := grL) (i := n) HO2.out (by have := HRL.out; omega)); have hw2 : w.heap.size ≤ w2.heap.size := (by simp at hs2; omega); clear hs2) | fail)
    go_roundw
    case rel =>
     obtain ⟨mid', hR'⟩ := delR_drop HR.out HD.out (by simpa using HN.out)
     exact ⟨n, j + 1, row, qs, mid', rfl, HQN.out, by omega, by go_num, by omega, hR', HRL.out, HO2.out, B3.out, hw2⟩
    case measure => simp [intOf]; omega
   | false =>
    have HN := Lib.hid hn
    clear hn
    go_wp2_with (first | (go_at_call 96; refine (calls_bool (HQ.out d _ (BE.out.alloc (by omega) _)) HN.out).mono ?_; rintro e w2 ⟨rfl, hb2⟩; have hs2 := hb2.size; have oK := (own_at (w := wr) [.int .i64 d.s, .int .i64 d.o, .int .i64 d.p, .int .i64 d.m, .int .i64 d.u] 52 rfl).below hb2; have HO2 := Lib.hid (ownsRow_belowD (HOWN.out.alloc _) hb2); have B3 := Lib.hid (belowTo (BE.out.alloc (by omega) _) hb2 (by simp; omega)); clear hb2; obtain ⟨k0, k1, k2, k3, k4, fK, zK⟩ := own5 oK; have hgl2 : g < w2.heap.size := (HO2.out.lt _ rfl).2; have TH := Lib.hid (ownT_there (L := grL) (i := n) HO2.out (by have := HRL.out; omega)); have hw2 : w.heap.size ≤ w2.heap.size := (by simp at hs2; omega); clear hs2) | ((with_reducible refine storeG d g (n * 5) ?_ ?_ ?_ ?_); (next => rfl); (next => exact ⟨_, _, rfl, rfl, rfl⟩); (next => (have := TH.out; rwa [Nat.zero_add] at this))) | fail)
    go_roundw
    case rel =>
     obtain ⟨mid', hR'⟩ := delR_keep HR.out HD.out (by simpa using HN.out)
     have HS2 := ownT_set (L := grL) (i := n) d HO2.out (by have := HRL.out; omega)
     rw [Nat.zero_add] at HS2
     rw [HQN.out] at hR'
     refine ⟨n + 1, j + 1, row.set n d, qs ++ [d], mid', by go_num, by rw [List.length_append, HQN.out]; rfl, by omega, by go_num, by omega, hR', by rw [List.length_set]; exact HRL.out, HS2, below_setCells g hgB _ _ _ B3.out, ?_⟩
     exact Nat.le_trans hw2 (below_setCells g hgB _ _ _ (Below.refl B w2)).size
    case measure => simp [intOf]; omega
  ·obtain rfl : j = l.length := by omega
   obtain ⟨E1, E2, E3, E4⟩ := delR_end HR.out
   have HQL := Lib.hid E1
   have HQN2 := HQN.out
   have n1 : (n : Int) < (l.length : Int) := by omega
   have hl0 := HOWN.out.1
   rw [flatT_len, HRL.out] at hl0
   have hcl := fun ty => run_clear_g wr ty g (n * 5) (l.length - n) (cap - n) (by omega) (fun t ht => by rw [HOWN.out.cellAt _ (by omega), List.getElem?_eq_getElem (by rw [flatT_len, HRL.out]; show _ < l.length * 5; omega)]; rfl) (fun t ht => HOWN.out.frozenAt _)
   have BF := Lib.hid (below_setCells g hgB (List.replicate ((l.length - n) * 5) (.int .i64 0)) (n * 5) wr BE.out)
   have HF := Lib.hid (ownsRow_setCells (List.replicate ((l.length - n) * 5) (.int .i64 0)) (n * 5) wr _ HOWN.out)
   clear hl0 HOWN SL HOWN0 HO1
   go_wp2_with (first | (simp only [hcl]) | fail)
   go_ret
   obtain ⟨ys, h0, h1, h2⟩ := HF.out
   refine ⟨_, rfl, ?_, BF.out⟩
   rw [← HQL.out]
   have hy : ys.take (n * 5) = flatT grL qs := List.ext_getElem? fun i => by
    have hfl : (flatT grL qs).length = n * 5 := by rw [flatT_len, HQN.out]; rfl
    by_cases hin : i < n * 5
    ·rw [List.getElem?_take_of_lt hin, h2 i, if_neg (by omega), E2, flatT_append, List.getElem?_append_left (by omega)]
    ·rw [List.getElem?_take_eq_none (by omega), List.getElem?_eq_none (by omega)]
   have H0 := ownsRow_front h0 (m := n) (by omega)
   rw [hy, ← HQN2] at H0
   rw [← HQN2]
   exact slt_of_own (L := grL) H0
theorem eqlnil_a (w : World) (a : Option Addr) (n c n' c' : Nat) : (binOp .eql 41 (.slice a n c) (.slice none n' c')).run Tryz.prog w = .ok (.bool a.isNone) w :=
 Lib.run_eql_slice_nil w _ 81 a n c n' c' (by kernel_rfl)
theorem zeroCells3 (n : Nat) : (Builtin.zeroCells #[.int .i64 0, .int .i64 0, .int .i64 0] n).toList = List.replicate (n * 3) (.int .i64 0) := by
 simp only [Builtin.zeroCells]
 apply List.ext_getElem
 ·simp
 ·intro i h1 h2
  have h : i % 3 < 3 := Nat.mod_lt _ (by decide)
  simp only [List.getElem_replicate, Array.toList_map, List.getElem_map, Array.getElem_toList, Array.getElem_range]
  generalize hm : i % 3 = m at h
  match m, h with
  | 0, _ => rfl
  | 1, _ => rfl
  | 2, _ => rfl
theorem run_clear_a (w : World) (ty : TypeId) (b o n c : Nat) (hn : 0 < n) (hc : ∀ j, j < n * 3 → (w.cell? ⟨b, o + j, none⟩).isSome = true) (hf : ∀ j, j < n * 3 → w.frozen? ⟨b, o + j, none⟩ = false) :
  (Builtin.clear_ #[41] ty #[.slice (some ⟨b, o, none⟩) n c]).run Tryz.prog w = .ok (.tuple #[]) (w.setCells b o (List.replicate (n * 3) (.int .i64 0))) := by
 have hst := run_storeCells_cells (P := Tryz.prog) b o (List.replicate (n * 3) (.int .i64 0)) 0 w (by simpa using hc) (by simpa using hf) (by intro v hv'; rw [List.eq_of_mem_replicate hv']; rfl)
 simp only [Nat.add_zero] at hst
 have hz := zeroCells3 n
 obtain ⟨m, rfl⟩ : ∃ m, n = m + 1 := ⟨n - 1, by omega⟩
 have hv : ∀ w, (zeroValue 81).run Tryz.prog w = .ok (.agg #[.int .i64 0, .int .i64 0, .int .i64 0]) w := fun w => Tryz.zeroValue81 w
 simp [Builtin.clear_, run_underlying Tryz.underlying41, hv, Value.cells, hz, hst]
set_option maxRecDepth 100000 in
set_option maxHeartbeats 2000000 in
theorem clone_a (v : Value) (l : List Ak) (w : World) (sl : SlA w v l) (h100 : l.length ≤ 100) : Calls Tryz.prog 66 #[v] w fun e w' => OwnA w l e w' := by
 obtain ⟨p, cap, e0, hlc, hcm, hpn⟩ := sl.form l.length rfl
 subst e0
 have OL := Lib.hid ((sl.below (belowNew w (.cells #[] 81))).olds)
 have HN := Lib.hid sl.none_len
 have q := eqlnil_a
 unfold maxLen at hcm
 clear hpn sl
 obtain ⟨i0, hi, hz, hs0, hb0⟩ := info_parts info_a
 have IF := Lib.hid (And.intro hi (And.intro hz (And.intro hs0 hb0)))
 clear hi hz hs0 hb0
 go_enter Tryz.func66, Tryz.ntmps66
 cases p with
 | none =>
  obtain rfl : l = [] := HN.out rfl
  go_wp2
  go_ret
  exact ⟨_, rfl, World.ownsRow_nil _ _ _ _, Below.refl _ _⟩
 | some ad =>
  go_wp2_with (at_builtin; refine wpList_append_own _ rfl _ _ 41 rfl w.heap.size 81 i0 _ 3 24 (by kernel_rfl) IF.out.1 IF.out.2.1 IF.out.2.2.1 IF.out.2.2.2 rfl (by decide) _ _ _ rfl (World.ownsRow_made w #[] 0 (Nat.le_refl _) (Nat.zero_le _) (by simp)) ad l.length cap (flatT akL l) rfl (flatT_len l) (OL.out ad rfl) flatT_cell ?qc4 ?qc5 ?qc6 ?_)
  case qc4 => unfold maxLen; omega
  case qc5 => omega
  case qc6 => simp
  intro v' w1 hown hgrow hnil
  have HO := Lib.hid hown
  have HB := Lib.hid (((Below.refl _ w).alloc (Nat.le_refl _) _).grown hgrow (by simp) (by intro k hk; simp [Value.ownBlock] at hk; omega))
  clear hown hgrow hnil
  go_wp2
  go_ret
  exact ⟨v', rfl, by simpa using HO.out, HB.out⟩
set_option maxRecDepth 100000 in
set_option maxHeartbeats 2000000 in
theorem del_none_a (v : Value) (l : List Ak) (b1 b2 : Nat) (q : Ak → Bool) (B : Nat) (w : World) (sl : SlA w v l) (hB : B ≤ w.heap.size) (hq : ∀ (d : Ak) (wx : World), Below B w wx → Calls Tryz.prog 114 #[.agg #[.int .i64 d.s, .int .i64 d.o, .int .i64 d.p], .pointer (some ⟨b1, 0, none⟩), .pointer (some ⟨b2, 0, none⟩)] wx fun e w' => e = .returned (.bool (q d)) ∧ Below wx.heap.size wx w') (hi : idxD q l = -1) :
  Calls Tryz.prog 113 #[v, .func (.func 114) #[] #[.pointer (some ⟨b1, 0, none⟩), .pointer (some ⟨b2, 0, none⟩)]] w fun e w' => e = .returned v ∧ Below w.heap.size w w' := by
 have SL := Lib.hid sl
 have HI := Lib.hid hi
 have HQ := Lib.hid hq
 clear hi sl hq
 go_enter Tryz.func113, Tryz.ntmps113
 go_wp2_with (first | (go_at_call 79; refine (ix_woa_lit v l b1 b2 q B (-1) _ SL.out hB HQ.out HI.out).mono ?_; rintro e w1 ⟨rfl, hb2⟩; have B1 := Lib.hid hb2; clear hb2) | fail)
 go_ret
 exact ⟨rfl, B1.out⟩
set_option maxRecDepth 100000 in
set_option maxHeartbeats 2000000 in
theorem del_some_a (g cap : Nat) (l : List Ak) (b1 b2 : Nat) (q : Ak → Bool) (B k : Nat) (d0 : Ak) (w : World) (hown : w.ownsRow B 81 3 (.slice (some ⟨g, 0, none⟩) l.length cap) l.length (flatT akL l)) (hB : B ≤ w.heap.size) (hgB : B ≤ g)
  (hq : ∀ (d : Ak) (wx : World), Below B w wx → Calls Tryz.prog 114 #[.agg #[.int .i64 d.s, .int .i64 d.o, .int .i64 d.p], .pointer (some ⟨b1, 0, none⟩), .pointer (some ⟨b2, 0, none⟩)] wx fun e w' => e = .returned (.bool (q d)) ∧ Below wx.heap.size wx w') (hlc : l.length ≤ cap) (hcm : cap ≤ 9223372036854775807) (h1000 : l.length ≤ 1000) (hk : l[k]? = some d0) (hi : idxD q l = (k : Int)) (hq0 : q d0 = true) (hpre : (l.take k).any q = false) :
  Calls Tryz.prog 113 #[.slice (some ⟨g, 0, none⟩) l.length cap, .func (.func 114) #[] #[.pointer (some ⟨b1, 0, none⟩), .pointer (some ⟨b2, 0, none⟩)]] w fun e w' => ∃ v', e = .returned v' ∧ SlA w' v' (l.filter (fun d => !q d)) ∧ Below B w w' := by
 have HOWN0 := Lib.hid hown
 have SL := Lib.hid (slt_of_own (L := akL) hown)
 have HI := Lib.hid hi
 have HQ := Lib.hid hq
 have HS := Lib.hid (delR_start hk hq0 hpre)
 have hkl := (List.getElem?_eq_some_iff.1 hk).1
 have j0 : (0 : Int) ≤ (k : Int) := Int.natCast_nonneg _
 have j1 : (k : Int) < 1000 := by omega
 have hne : ((k : Int) == -1) = false := beq_eq_false_iff_ne.2 (by omega)
 clear hi hk hq0 hpre hown hq
 go_enter Tryz.func113, Tryz.ntmps113
 go_wp2_with (first | (go_at_call 79; refine (ix_woa_lit _ l b1 b2 q B (k : Int) _ SL.out hB HQ.out HI.out).mono ?_; rintro e w1 ⟨rfl, hb2⟩; have B1 := Lib.hid hb2; clear hb2) | fail)
 have HO1 := Lib.hid (ownsRow_belowD HOWN0.out B1.out)
 have B2 := Lib.hid (show Below B w w1 from B1.out.mono hB)
 have hz1 := B1.out.size
 clear hne j0 j1
 go_loopw [5, 6] (fun ii jj wr => ∃ (n j : Nat) (row qs mid : List Ak), ii = .int .i64 n ∧ qs.length = n ∧ n ≤ 1000 ∧ jj = .int .i64 j ∧ j ≤ l.length ∧ DelR (fun d => !q d) l j row qs mid ∧ row.length = l.length ∧ wr.ownsRow B 81 3 (.slice (some ⟨g, 0, none⟩) l.length cap) l.length (flatT akL row) ∧ Below B w wr ∧ w.heap.size ≤ wr.heap.size) (fun _ j _ => l.length - (intOf j).toNat)
 case atStart => exact ⟨k, k + 1, l, l.take k, [d0], rfl, by simp; omega, by omega, by go_num, by omega, HS.out, rfl, HO1.out, B2.out, hz1⟩
 case round =>
  obtain ⟨n, j, row, qs, mid, rfl, hqn, hn, rfl, hj, hR, hrl, hown, bel, hws⟩ := hrel
  have HR := Lib.hid hR
  have HQN := Lib.hid hqn
  have HRL := Lib.hid hrl
  have HOWN := Lib.hid hown
  have BE := Lib.hid bel
  have hgl : g < wr.heap.size := (hown.lt _ rfl).2
  clear hR hqn hrl hown bel
  have n0 : (0 : Int) ≤ (n : Int) := Int.natCast_nonneg _
  have j0 : (0 : Int) ≤ (j : Int) := Int.natCast_nonneg _
  by_cases hlt : j < l.length
  ·have j1 : (j : Int) < (l.length : Int) := by omega
   obtain ⟨d, hd⟩ : ∃ d, l[j]? = some d := ⟨_, List.getElem?_eq_getElem hlt⟩
   have HD := Lib.hid hd
   have hrow := delR_at HR.out hd
   have hl0 := HOWN.out.1
   have y0 : (flatT akL row)[j * 3 + 0]? = some (.int .i64 d.s) := flatT_at (L := akL) hrow (j := 0) rfl
   have y1 : (flatT akL row)[j * 3 + 1]? = some (.int .i64 d.o) := flatT_at (L := akL) hrow (j := 1) rfl
   have y2 : (flatT akL row)[j * 3 + 2]? = some (.int .i64 d.p) := flatT_at (L := akL) hrow (j := 2) rfl
   have c0 : wr.cell? ⟨g, j * 3, none⟩ = some (.int .i64 d.s) := by rw [HOWN.out.cellAt _ (by omega)]; exact y0
   have c1 : wr.cell? ⟨g, j * 3 + 1, none⟩ = some (.int .i64 d.o) := by rw [HOWN.out.cellAt _ (by omega)]; exact y1
   have c2 : wr.cell? ⟨g, j * 3 + 2, none⟩ = some (.int .i64 d.p) := by rw [HOWN.out.cellAt _ (by omega)]; exact y2
   have hqlt : n < l.length := by have := HR.out.2.2; have := HQN.out; omega
   have n1 : (n : Int) < (l.length : Int) := by omega
   clear hl0 y0 y1 y2 hrow hd
   cases hn : q d with
   | true =>
    have HN := Lib.hid hn
    clear hn
    go_wp2_with (first | (go_at_call 114; refine (calls_bool (HQ.out d _ (BE.out.alloc (by omega) _)) HN.out).mono ?_; rintro e w2 ⟨rfl, hb2⟩; have hs2 := hb2.size; have oK := (own_at (w := wr) [.int .i64 d.s, .int .i64 d.o, .int .i64 d.p] 81 rfl).below hb2; have HO2 := Lib.hid (ownsRow_belowD (HOWN.out.alloc _) hb2); have B3 := Lib.hid (belowTo (BE.out.alloc (by omega) _) hb2 (by simp; omega)); clear hb2; obtain ⟨k0, k1, k2, fK, zK⟩ := own3 oK; have hgl2 : g < w2.heap.size := (HO2.out.lt _ rfl).2; have TH := Lib.hid (ownT_there (L := akL) (i := n) HO2.out (by have := HRL.out; omega)); have hw2 : w.heap.size ≤ w2.heap.size := (by simp at hs2; omega); clear hs2) | fail)
    go_roundw
    case rel =>
     obtain ⟨mid', hR'⟩ := delR_drop HR.out HD.out (by simpa using HN.out)
     exact ⟨n, j + 1, row, qs, mid', rfl, HQN.out, by omega, by go_num, by omega, hR', HRL.out, HO2.out, B3.out, hw2⟩
    case measure => simp [intOf]; omega
   | false =>
    have HN := Lib.hid hn
    clear hn
    go_wp2_with (first | (go_at_call 114; refine (calls_bool (HQ.out d _ (BE.out.alloc (by omega) _)) HN.out).mono ?_; rintro e w2 ⟨rfl, hb2⟩; have hs2 := hb2.size; have oK := (own_at (w := wr) [.int .i64 d.s, .int .i64 d.o, .int .i64 d.p] 81 rfl).below hb2; have HO2 := Lib.hid (ownsRow_belowD (HOWN.out.alloc _) hb2); have B3 := Lib.hid (belowTo (BE.out.alloc (by omega) _) hb2 (by simp; omega)); clear hb2; obtain ⟨k0, k1, k2, fK, zK⟩ := own3 oK; have hgl2 : g < w2.heap.size := (HO2.out.lt _ rfl).2; have TH := Lib.hid (ownT_there (L := akL) (i := n) HO2.out (by have := HRL.out; omega)); have hw2 : w.heap.size ≤ w2.heap.size := (by simp at hs2; omega); clear hs2) | ((with_reducible refine storeA d g (n * 3) ?_ ?_ ?_ ?_); (next => rfl); (next => exact ⟨_, _, rfl, rfl, rfl⟩); (next => (have := TH.out; rwa [Nat.zero_add] at this))) | fail)
    go_roundw
    case rel =>
     obtain ⟨mid', hR'⟩ := delR_keep HR.out HD.out (by simpa using HN.out)
     have HS2 := ownT_set (L := akL) (i := n) d HO2.out (by have := HRL.out; omega)
     rw [Nat.zero_add] at HS2
     rw [HQN.out] at hR'
     refine ⟨n + 1, j + 1, row.set n d, qs ++ [d], mid', by go_num, by rw [List.length_append, HQN.out]; rfl, by omega, by go_num, by omega, hR', by rw [List.length_set]; exact HRL.out, HS2, below_setCells g hgB _ _ _ B3.out, ?_⟩
     exact Nat.le_trans hw2 (below_setCells g hgB _ _ _ (Below.refl B w2)).size
    case measure => simp [intOf]; omega
  ·obtain rfl : j = l.length := by omega
   obtain ⟨E1, E2, E3, E4⟩ := delR_end HR.out
   have HQL := Lib.hid E1
   have HQN2 := HQN.out
   have n1 : (n : Int) < (l.length : Int) := by omega
   have hl0 := HOWN.out.1
   rw [flatT_len, HRL.out] at hl0
   have hcl := fun ty => run_clear_a wr ty g (n * 3) (l.length - n) (cap - n) (by omega) (fun t ht => by rw [HOWN.out.cellAt _ (by omega), List.getElem?_eq_getElem (by rw [flatT_len, HRL.out]; show _ < l.length * 3; omega)]; rfl) (fun t ht => HOWN.out.frozenAt _)
   have BF := Lib.hid (below_setCells g hgB (List.replicate ((l.length - n) * 3) (.int .i64 0)) (n * 3) wr BE.out)
   have HF := Lib.hid (ownsRow_setCells (List.replicate ((l.length - n) * 3) (.int .i64 0)) (n * 3) wr _ HOWN.out)
   clear hl0 HOWN SL HOWN0 HO1
   go_wp2_with (first | (simp only [hcl]) | fail)
   go_ret
   obtain ⟨ys, h0, h1, h2⟩ := HF.out
   refine ⟨_, rfl, ?_, BF.out⟩
   rw [← HQL.out]
   have hy : ys.take (n * 3) = flatT akL qs := List.ext_getElem? fun i => by
    have hfl : (flatT akL qs).length = n * 3 := by rw [flatT_len, HQN.out]; rfl
    by_cases hin : i < n * 3
    ·rw [List.getElem?_take_of_lt hin, h2 i, if_neg (by omega), E2, flatT_append, List.getElem?_append_left (by omega)]
    ·rw [List.getElem?_take_eq_none (by omega), List.getElem?_eq_none (by omega)]
   have H0 := ownsRow_front h0 (m := n) (by omega)
   rw [hy, ← HQN2] at H0
   rw [← HQN2]
   exact slt_of_own (L := akL) H0
end Go.Proofs.YtmopiifamopidaaGreat
end
section
namespace Go.Proofs.YtmopiifamopidaaGreat
open Go.RowKit
set_option maxRecDepth 100000 in
set_option maxHeartbeats 2000000 in
theorem wth_exg (v : Value) (l : List Gr) (bn : Nat) (zs : Int) (w : World) (sl : SlG w v l) (h100 : l.length ≤ 100) (hb : bn < w.heap.size) (c0 : w.cell? ⟨bn, 0, none⟩ = some (.int .i64 zs)) : Calls Tryz.prog 63 #[v, .func (.func 64) #[] #[], .func (.func 65) #[] #[.pointer (some ⟨bn, 0, none⟩)]] w fun e w' => RetG w (l.filter (fun d => !(decide (d.u < zs)))) e w' := by
 have SL := Lib.hid (sl.below (show Below w.heap.size w ((w.alloc (.cells #[.func (.func 64) #[] #[]] 139)).alloc (.cells #[.func (.func 65) #[] #[.pointer (some ⟨bn, 0, none⟩)]] 140)) from ((Below.refl _ _).alloc (Nat.le_refl _) _).alloc (by simp) _))
 have C0 := Lib.hid c0
 have oA := Lib.hid (Own.alloc (own_at (w := w) [.func (.func 64) #[] #[]] 139 rfl) (.cells #[.func (.func 65) #[] #[.pointer (some ⟨bn, 0, none⟩)]] 140))
 have oO := Lib.hid (own_at (w := w.alloc (.cells #[.func (.func 64) #[] #[]] 139)) (n := w.heap.size + 1) [.func (.func 65) #[] #[.pointer (some ⟨bn, 0, none⟩)]] 140 (by simp))
 have BW := Lib.hid (show Below w.heap.size w ((w.alloc (.cells #[.func (.func 64) #[] #[]] 139)).alloc (.cells #[.func (.func 65) #[] #[.pointer (some ⟨bn, 0, none⟩)]] 140)) from ((Below.refl _ _).alloc (Nat.le_refl _) _).alloc (by simp) _)
 obtain ⟨B, hB⟩ : ∃ B, ((w.alloc (.cells #[.func (.func 64) #[] #[]] 139)).alloc (.cells #[.func (.func 65) #[] #[.pointer (some ⟨bn, 0, none⟩)]] 140)).heap.size = B := ⟨_, rfl⟩
 have hB2 : w.heap.size + 2 = B := by rw [← hB]; simp
 have HBB := Lib.hid hB
 clear sl c0  hB
 go_enter Tryz.func63, Tryz.ntmps63
 go_wp2_with fail
 refine (clone_g _ l _ SL.out h100).mono ?_
 rintro e w1 ⟨v1, rfl, hown, hbl⟩
 have oA1 := Lib.hid (oA.out.below hbl)
 have oO1 := Lib.hid (oO.out.below hbl)
 have B1 := Lib.hid (belowTo BW.out hbl BW.out.size)
 rw [HBB.out] at hown
 have hs1 : B ≤ w1.heap.size := by have := hbl.size; rw [HBB.out] at this; exact this
 have HOWN := Lib.hid hown
 have S1 := Lib.hid (slt_of_own (L := grL) hown)
 clear hown hbl SL oA oO
 have HQ := Lib.hid (show ∀ (d : Gr) (wx : World), Below B w1 wx → Calls Tryz.prog 96 #[.agg #[.int .i64 d.s, .int .i64 d.o, .int .i64 d.p, .int .i64 d.m, .int .i64 d.u], .pointer (some ⟨(w.heap.size + 1), 0, none⟩), .pointer (some ⟨w.heap.size, 0, none⟩)] wx fun e w' => e = .returned (.bool ((fun d : Gr => (decide (d.u < zs))) d)) ∧ Below wx.heap.size wx w' from fun d wx hbx => wexg_any (w.heap.size + 1) w.heap.size bn zs d wx (Nat.lt_of_lt_of_le (by omega) hbx.size) (Nat.lt_of_lt_of_le (by omega) hbx.size) (Nat.lt_of_lt_of_le (Nat.lt_of_lt_of_le hb B1.out.size) hbx.size) ((hbx.cell (p := ⟨bn, 0, none⟩) (by simp; omega)).trans ((B1.out.cell (p := ⟨bn, 0, none⟩) hb).trans C0.out)) ((hbx.cell (p := ⟨w.heap.size + 1, 0, none⟩) (by simp; omega)).trans (oO1.out.cell (i := 0) rfl)) ((hbx.cell (p := ⟨w.heap.size, 0, none⟩) (by simp; omega)).trans (oA1.out.cell (i := 0) rfl)))
 rcases idx_cases (fun d : Gr => (decide (d.u < zs))) l with ⟨hi, hany⟩ | ⟨k, d0, hk, hq, hi, _, _, hpre⟩
 ·have HI := Lib.hid hi
  have HA := Lib.hid hany
  clear hi hany
  go_wp2_with (first | (go_at_call 95; refine (del_none_g v1 l (w.heap.size + 1) w.heap.size (fun d : Gr => (decide (d.u < zs))) B _ S1.out hs1 HQ.out HI.out).mono ?_; rintro e w3 ⟨rfl, hb2⟩; have B3 := Lib.hid (belowTo B1.out hb2 B1.out.size); have S3 := Lib.hid (S1.out.below hb2); clear hb2) | fail)
  go_ret
  exact ⟨_, rfl, by rw [filt_none (q := (fun d : Gr => (decide (d.u < zs)))) HA.out]; exact S3.out, B3.out⟩
 ·have hlen : 0 < l.length := by have := (List.getElem?_eq_some_iff.1 hk).1; omega
  obtain ⟨g, cap2, e2, hgB, hlc2, hcm2⟩ : ∃ g cap2, v1 = .slice (some ⟨g, 0, none⟩) l.length cap2 ∧ B ≤ g ∧ l.length ≤ cap2 ∧ cap2 ≤ 9223372036854775807 := by
   obtain ⟨_, ⟨_, e⟩ | ⟨g, cap2, _, e, hbg, _, h1, h2, _, _⟩⟩ := HOWN.out
   ·omega
   ·exact ⟨g, cap2, e, hbg, h1, by unfold maxLen at h2; exact h2⟩
  subst e2
  have HK := Lib.hid (And.intro hk (And.intro hi (And.intro hq hpre)))
  clear hk hi hq hpre
  go_wp2_with (first | (go_at_call 95; refine (del_some_g g cap2 l (w.heap.size + 1) w.heap.size (fun d : Gr => (decide (d.u < zs))) B k d0 _ HOWN.out hs1 hgB HQ.out hlc2 hcm2 (by omega) HK.out.1 HK.out.2.1 HK.out.2.2.1 HK.out.2.2.2).mono ?_; rintro e w3 ⟨v3, rfl, hs, hb2⟩; have B3 := Lib.hid (B1.out.trans (hb2.mono (by omega))); have S3 := Lib.hid hs; clear hb2 hs) | fail)
  go_ret
  exact ⟨_, rfl, S3.out, B3.out⟩
set_option maxRecDepth 100000 in
set_option maxHeartbeats 2000000 in
theorem wth_una (v : Value) (l : List Ak) (bn : Nat) (zs : Int) (w : World) (sl : SlA w v l) (h100 : l.length ≤ 100) (hb : bn < w.heap.size) (c0 : w.cell? ⟨bn, 0, none⟩ = some (.int .i64 zs)) : Calls Tryz.prog 92 #[v, .func (.func 88) #[] #[], .func (.func 93) #[] #[.pointer (some ⟨bn, 0, none⟩)]] w fun e w' => RetA w (l.filter (fun d => !(d.s == zs))) e w' := by
 have SL := Lib.hid (sl.below (show Below w.heap.size w ((w.alloc (.cells #[.func (.func 88) #[] #[]] 163)).alloc (.cells #[.func (.func 93) #[] #[.pointer (some ⟨bn, 0, none⟩)]] 170)) from ((Below.refl _ _).alloc (Nat.le_refl _) _).alloc (by simp) _))
 have C0 := Lib.hid c0
 have oA := Lib.hid (Own.alloc (own_at (w := w) [.func (.func 88) #[] #[]] 163 rfl) (.cells #[.func (.func 93) #[] #[.pointer (some ⟨bn, 0, none⟩)]] 170))
 have oO := Lib.hid (own_at (w := w.alloc (.cells #[.func (.func 88) #[] #[]] 163)) (n := w.heap.size + 1) [.func (.func 93) #[] #[.pointer (some ⟨bn, 0, none⟩)]] 170 (by simp))
 have BW := Lib.hid (show Below w.heap.size w ((w.alloc (.cells #[.func (.func 88) #[] #[]] 163)).alloc (.cells #[.func (.func 93) #[] #[.pointer (some ⟨bn, 0, none⟩)]] 170)) from ((Below.refl _ _).alloc (Nat.le_refl _) _).alloc (by simp) _)
 obtain ⟨B, hB⟩ : ∃ B, ((w.alloc (.cells #[.func (.func 88) #[] #[]] 163)).alloc (.cells #[.func (.func 93) #[] #[.pointer (some ⟨bn, 0, none⟩)]] 170)).heap.size = B := ⟨_, rfl⟩
 have hB2 : w.heap.size + 2 = B := by rw [← hB]; simp
 have HBB := Lib.hid hB
 clear sl c0  hB
 go_enter Tryz.func92, Tryz.ntmps92
 go_wp2_with fail
 refine (clone_a _ l _ SL.out h100).mono ?_
 rintro e w1 ⟨v1, rfl, hown, hbl⟩
 have oA1 := Lib.hid (oA.out.below hbl)
 have oO1 := Lib.hid (oO.out.below hbl)
 have B1 := Lib.hid (belowTo BW.out hbl BW.out.size)
 rw [HBB.out] at hown
 have hs1 : B ≤ w1.heap.size := by have := hbl.size; rw [HBB.out] at this; exact this
 have HOWN := Lib.hid hown
 have S1 := Lib.hid (slt_of_own (L := akL) hown)
 clear hown hbl SL oA oO
 have HQ := Lib.hid (show ∀ (d : Ak) (wx : World), Below B w1 wx → Calls Tryz.prog 114 #[.agg #[.int .i64 d.s, .int .i64 d.o, .int .i64 d.p], .pointer (some ⟨(w.heap.size + 1), 0, none⟩), .pointer (some ⟨w.heap.size, 0, none⟩)] wx fun e w' => e = .returned (.bool ((fun d : Ak => (d.s == zs)) d)) ∧ Below wx.heap.size wx w' from fun d wx hbx => wuna_any (w.heap.size + 1) w.heap.size bn zs d wx (Nat.lt_of_lt_of_le (by omega) hbx.size) (Nat.lt_of_lt_of_le (by omega) hbx.size) (Nat.lt_of_lt_of_le (Nat.lt_of_lt_of_le hb B1.out.size) hbx.size) ((hbx.cell (p := ⟨bn, 0, none⟩) (by simp; omega)).trans ((B1.out.cell (p := ⟨bn, 0, none⟩) hb).trans C0.out)) ((hbx.cell (p := ⟨w.heap.size + 1, 0, none⟩) (by simp; omega)).trans (oO1.out.cell (i := 0) rfl)) ((hbx.cell (p := ⟨w.heap.size, 0, none⟩) (by simp; omega)).trans (oA1.out.cell (i := 0) rfl)))
 rcases idx_cases (fun d : Ak => (d.s == zs)) l with ⟨hi, hany⟩ | ⟨k, d0, hk, hq, hi, _, _, hpre⟩
 ·have HI := Lib.hid hi
  have HA := Lib.hid hany
  clear hi hany
  go_wp2_with (first | (go_at_call 113; refine (del_none_a v1 l (w.heap.size + 1) w.heap.size (fun d : Ak => (d.s == zs)) B _ S1.out hs1 HQ.out HI.out).mono ?_; rintro e w3 ⟨rfl, hb2⟩; have B3 := Lib.hid (belowTo B1.out hb2 B1.out.size); have S3 := Lib.hid (S1.out.below hb2); clear hb2) | fail)
  go_ret
  exact ⟨_, rfl, by rw [filt_none (q := (fun d : Ak => (d.s == zs))) HA.out]; exact S3.out, B3.out⟩
 ·have hlen : 0 < l.length := by have := (List.getElem?_eq_some_iff.1 hk).1; omega
  obtain ⟨g, cap2, e2, hgB, hlc2, hcm2⟩ : ∃ g cap2, v1 = .slice (some ⟨g, 0, none⟩) l.length cap2 ∧ B ≤ g ∧ l.length ≤ cap2 ∧ cap2 ≤ 9223372036854775807 := by
   obtain ⟨_, ⟨_, e⟩ | ⟨g, cap2, _, e, hbg, _, h1, h2, _, _⟩⟩ := HOWN.out
   ·omega
   ·exact ⟨g, cap2, e, hbg, h1, by unfold maxLen at h2; exact h2⟩
  subst e2
  have HK := Lib.hid (And.intro hk (And.intro hi (And.intro hq hpre)))
  clear hk hi hq hpre
  go_wp2_with (first | (go_at_call 113; refine (del_some_a g cap2 l (w.heap.size + 1) w.heap.size (fun d : Ak => (d.s == zs)) B k d0 _ HOWN.out hs1 hgB HQ.out hlc2 hcm2 (by omega) HK.out.1 HK.out.2.1 HK.out.2.2.1 HK.out.2.2.2).mono ?_; rintro e w3 ⟨v3, rfl, hs, hb2⟩; have B3 := Lib.hid (B1.out.trans (hb2.mono (by omega))); have S3 := Lib.hid hs; clear hb2 hs) | fail)
  go_ret
  exact ⟨_, rfl, S3.out, B3.out⟩
set_option maxRecDepth 100000 in
set_option maxHeartbeats 2000000 in
theorem unasked_any (vu vg va : Value) (ks : List Ak) (z : Int) (w : World) (sa : SlA w va ks) (h100 : ks.length ≤ 100) : Calls Tryz.prog 58 #[.agg #[vu, vg, va], .int .i64 z] w fun e w' => RetA w (ks.filter (fun d => !(d.s == z))) e w' := by
 have SA := Lib.hid (sa.below (show Below w.heap.size w ((w.alloc (.cells #[vu, vg, va] 43)).alloc (.cells #[.int .i64 z] 3)) from ((Below.refl _ _).alloc (Nat.le_refl _) _).alloc (by simp) _))
 have BW := Lib.hid (show Below w.heap.size w ((w.alloc (.cells #[vu, vg, va] 43)).alloc (.cells #[.int .i64 z] 3)) from ((Below.refl _ _).alloc (Nat.le_refl _) _).alloc (by simp) _)
 have OZ := Lib.hid (own_at (w := w.alloc (.cells #[vu, vg, va] 43)) (n := w.heap.size + 1) [.int .i64 z] 3 (by simp))
 clear sa
 go_enter Tryz.func58, Tryz.ntmps58
 go_wp2_with (first | (go_at_call 92; refine (wth_una _ ks (w.heap.size + 1) z _ SA.out h100 OZ.out.lt (OZ.out.cell (i := 0) rfl)).mono ?_; rintro e w1 ⟨v1, rfl, hs, hb⟩; have S1 := Lib.hid hs; have B1 := Lib.hid (belowTo BW.out hb BW.out.size); clear hs hb) | fail)
 go_ret
 exact ⟨_, rfl, S1.out, B1.out⟩
end Go.Proofs.YtmopiifamopidaaGreat
end
section
namespace Go.Proofs.YtmopiifamopidaaGreat
open Go.RowKit
theorem SlT.slc {α : Type} {L : Lay α} {w : World} {v : Value} {l : List α} (h : SlT L w v l) : ∃ p n c, v = .slice p n c := by
 obtain ⟨p, cap, h1, _⟩ := h
 exact ⟨p, _, cap, h1⟩
def TblP (w : World) (us : List Us) (gs : List Gr) (ks : List Ak) (e : Ending) (w' : World) : Prop := ∃ vu vg va, e = .returned (.agg #[vu, vg, va]) ∧ SlU w' vu us ∧ SlG w' vg gs ∧ SlA w' va ks ∧ Below w.heap.size w w'
theorem far3 {w : World} {b b' o : Nat} {x y z : Value} (h : b' ≠ b) : (((w.setCell ⟨b', 0, none⟩ x).setCell ⟨b', 1, none⟩ y).setCell ⟨b', 2, none⟩ z).cell? ⟨b, o, none⟩ = w.cell? ⟨b, o, none⟩ := by
 rw [World.cell?_setCell_far _ _ _ _ (by simpa using h), World.cell?_setCell_far _ _ _ _ (by simpa using h), World.cell?_setCell_far _ _ _ _ (by simpa using h)]
def NumL {α : Type} (L : Lay α) : Prop := ∀ a, ∀ u ∈ L.f a, ∃ n, u = .int .i64 n
theorem numU : NumL usL := fun a u h => by
 have h' : u ∈ a.cells := h
 simp only [Us.cells, List.mem_cons, List.not_mem_nil, or_false] at h'
 rcases h' with rfl | rfl | rfl | rfl <;> exact ⟨_, rfl⟩
theorem numG : NumL grL := fun a u h => by
 have h' : u ∈ a.cells := h
 simp only [Gr.cells, List.mem_cons, List.not_mem_nil, or_false] at h'
 rcases h' with rfl | rfl | rfl | rfl | rfl <;> exact ⟨_, rfl⟩
theorem numA : NumL akL := fun a u h => by
 have h' : u ∈ a.cells := h
 simp only [Ak.cells, List.mem_cons, List.not_mem_nil, or_false] at h'
 rcases h' with rfl | rfl | rfl <;> exact ⟨_, rfl⟩
theorem SlT.apart {α : Type} {L : Lay α} {w w' : World} {v : Value} {l : List α} {b : Nat} {cs : List Value} {t : TypeId} (h : SlT L w v l) (hN : NumL L) (o : Own w b cs t) (hn : ∀ c ∈ cs, ∀ k n, c ≠ .int k n) (hs : w.heap.size ≤ w'.heap.size)
  (hw : ∀ b', b' ≠ b → b' < w.heap.size → w'.heap[b']? = w.heap[b']?) : SlT L w' v l := by
 obtain ⟨p, cap, h1, h2, h3, h4, h5⟩ := h
 refine ⟨p, cap, h1, h2, h3, h4, fun i cs' hi => ?_⟩
 obtain ⟨b', off, e, hlt, hc⟩ := h5 i cs' hi
 refine ⟨b', off, e, Nat.lt_of_lt_of_le hlt hs, fun j x hx => ?_⟩
 have h0 := hc j x hx
 have hne : b' ≠ b := fun e => by
  subst e
  rw [List.getElem?_map] at hi
  cases ha : l[i]? with
  | none => rw [ha] at hi; cases hi
  | some a =>
   rw [ha] at hi
   obtain rfl : L.f a = cs' := by simpa using hi
   obtain ⟨n, rfl⟩ := hN a x (List.mem_of_getElem? hx)
   simp only [World.cell?, show w.heap[b']? = _ from o] at h0
   have h9 : cs[off + i * L.k + j]? = some (.int .i64 n) := by simpa using h0
   exact hn _ (List.mem_of_getElem? h9) _ _ rfl
 rw [← h0]
 exact World.cell?_of_block (a := ⟨b', _, none⟩) (hw b' hne hlt)
theorem set3_block {w : World} {b b' : Nat} {x y z : Value} (h : b' ≠ b) : (((w.setCell ⟨b, 0, none⟩ x).setCell ⟨b, 1, none⟩ y).setCell ⟨b, 2, none⟩ z).heap[b']? = w.heap[b']? := by
 rw [Below.heap_setCell _ ⟨b, 2, none⟩ z b' h, Below.heap_setCell _ ⟨b, 1, none⟩ y b' h, Below.heap_setCell _ ⟨b, 0, none⟩ x b' h]
theorem set3_size {w : World} {b : Nat} {x y z : Value} : w.heap.size ≤ (((w.setCell ⟨b, 0, none⟩ x).setCell ⟨b, 1, none⟩ y).setCell ⟨b, 2, none⟩ z).heap.size := by simp
theorem SlT.set3 {α : Type} {L : Lay α} {w : World} {v : Value} {l : List α} {b : Nat} {p1 p2 p3 : Option Addr} {n1 n2 n3 c1 c2 c3 : Nat} {t : TypeId} (h : SlT L w v l) (hN : NumL L) (o : Own w b [.slice p1 n1 c1, .slice p2 n2 c2, .slice p3 n3 c3] t) (x y z : Value) :
  SlT L (((w.setCell ⟨b, 0, none⟩ x).setCell ⟨b, 1, none⟩ y).setCell ⟨b, 2, none⟩ z) v l :=
 h.apart hN o (fun c hc k n e => by
  simp only [List.mem_cons, List.not_mem_nil, or_false] at hc
  rcases hc with rfl | rfl | rfl <;> cases e) set3_size (fun b' hne _ => set3_block hne)
theorem below_set3 {B b : Nat} {a w : World} {x y z : Value} (h : Below B a w) (hb : B ≤ b) : Below B a (((w.setCell ⟨b, 0, none⟩ x).setCell ⟨b, 1, none⟩ y).setCell ⟨b, 2, none⟩ z) := belowSet' (belowSet' (belowSet' h _ _ _ hb) _ _ _ hb) _ _ _ hb
theorem own_set3 {w : World} {b : Nat} {c0 c1 c2 x y z : Value} {t : TypeId} (h : Own w b [c0, c1, c2] t) : Own (((w.setCell ⟨b, 0, none⟩ x).setCell ⟨b, 1, none⟩ y).setCell ⟨b, 2, none⟩ z) b [x, y, z] t := ((h.set 0 x).set 1 y).set 2 z
set_option maxRecDepth 100000 in
set_option maxHeartbeats 2000000 in
theorem exp_any (vu vg va : Value) (us : List Us) (gs : List Gr) (ks : List Ak) (z : Int) (w : World) (su : SlU w vu us) (sg : SlG w vg gs) (sa : SlA w va ks) (u70 : us.length ≤ 70) (g70 : gs.length ≤ 70) (k70 : ks.length ≤ 70) : Calls Tryz.prog 27 #[.agg #[vu, vg, va], .int .i64 z] w fun e w' => TblP w (us) (gs.filter (fun d => !decide (d.u < z))) (ks) e w' := by
 have SU := Lib.hid su
 have SG := Lib.hid sg
 have SA := Lib.hid sa
 clear su sg sa
 go_enter Tryz.func27, Tryz.ntmps27
 go_wp2_with fail
 have OTx := Lib.hid ((((own_at (w := w) (n := w.heap.size) [vu, vg, va] 43 (by rfl)).alloc (.cells #[.int .i64 z] 3)).alloc (.cells #[.slice none 0 0, .slice none 0 0, .slice none 0 0] 43)))
 have OCx := Lib.hid (((own_at (w := (w.alloc (.cells #[vu, vg, va] 43))) (n := w.heap.size + 1) [.int .i64 z] 3 (by simp)).alloc (.cells #[.slice none 0 0, .slice none 0 0, .slice none 0 0] 43)))
 have ORx := Lib.hid ((own_at (w := ((w.alloc (.cells #[vu, vg, va] 43)).alloc (.cells #[.int .i64 z] 3))) (n := w.heap.size + 1 + 1) [.slice none 0 0, .slice none 0 0, .slice none 0 0] 43 (by simp)))
 have BBx := Lib.hid (((((Below.refl w.heap.size w).alloc (by simp) (.cells #[vu, vg, va] 43)).alloc (by simp) (.cells #[.int .i64 z] 3)).alloc (by simp; omega) (.cells #[.slice none 0 0, .slice none 0 0, .slice none 0 0] 43)))
 have SUx := Lib.hid (SU.out.below BBx.out)
 have SGx := Lib.hid (SG.out.below BBx.out)
 have SAx := Lib.hid (SA.out.below BBx.out)
 change Code.wp _ _ _ _ (((w.alloc (.cells #[vu, vg, va] 43)).alloc (.cells #[.int .i64 z] 3)).alloc (.cells #[.slice none 0 0, .slice none 0 0, .slice none 0 0] 43))
 generalize (((w.alloc (.cells #[vu, vg, va] 43)).alloc (.cells #[.int .i64 z] 3)).alloc (.cells #[.slice none 0 0, .slice none 0 0, .slice none 0 0] 43)) = W at OTx OCx ORx BBx SUx SGx SAx ⊢
 have OT0 := Lib.hid (OTx.out.drew)
 have OC0 := Lib.hid (OCx.out.drew)
 have OR0 := Lib.hid (ORx.out.drew)
 have BD := Lib.hid (Below.refl W.heap.size W).drew
 have BB0 := Lib.hid (BBx.out.drew)
 have SU0 := Lib.hid (SUx.out.below BD.out)
 have SG0 := Lib.hid (SGx.out.below BD.out)
 have SA0 := Lib.hid (SAx.out.below BD.out)
 clear OTx OCx ORx BBx SUx SGx SAx BD SU SG SA
 obtain ⟨t00, t01, t02, _, _⟩ := own3 OT0.out
 obtain ⟨c00, _, _⟩ := own1 OC0.out
 obtain ⟨r00, r01, r02, _, _⟩ := own3 OR0.out
 refine region_H 12 #[false, false, false, false, false, false, false, false, false, false, false, false] (by kernel_rfl) (by kernel_rfl) (fun w' => w'.cell? ⟨w.heap.size, 0, none⟩ = some (vu) ∧ w'.cell? ⟨w.heap.size, 1, none⟩ = some (vg) ∧ w'.cell? ⟨w.heap.size, 2, none⟩ = some (va)) (by kernel_rfl) ?x16s (fun hHeld => ?x16r)
 case x16s => exact ⟨t00, t01, t02⟩
 refine tH 0 5 ?_
 refine tH 1 6 ?_
 refine tH 3 8 ?_
 refine tH 4 9 ?_
 refine tH 5 10 ?_
 refine tH 7 12 ?_
 refine tH 8 13 ?_
 refine wpH_one (i := 2) (by kernel_rfl) rfl (fun K hK => ?_)
 rw [if_pos (by rfl)]
 go_simp
 refine (clone_u vu us _ SU0.out (by omega)).mono ?_
 rintro e w1 ⟨xu, rfl, hs, hbb⟩
 have XU1 := Lib.hid (slt_of_own (L := usL) hs)
 obtain ⟨pxu, nxu, cxu, f0⟩ := XU1.out.slc
 subst f0
 have OT1 := Lib.hid (OT0.out.below hbb)
 have OC1 := Lib.hid (OC0.out.below hbb)
 have OR1 := Lib.hid (OR0.out.below hbb)
 have SU1 := Lib.hid (SU0.out.below hbb)
 have SG1 := Lib.hid (SG0.out.below hbb)
 have SA1 := Lib.hid (SA0.out.below hbb)
 have BB1 := Lib.hid (belowTo BB0.out hbb BB0.out.size)
 clear hbb hs
 obtain ⟨t10, t11, t12, _, _⟩ := own3 OT1.out
 obtain ⟨c10, _, _⟩ := own1 OC1.out
 obtain ⟨r10, r11, r12, _, _⟩ := own3 OR1.out
 refine hK.out _ _ (⟨t10, t11, t12⟩) ?_
 clear hK K hHeld
 intro hHeld
 try simp only [Act.put, List.setIfInBounds_toArray, List.set_cons_zero, List.set_cons_succ]
 refine wpH_one (i := 6) (by kernel_rfl) rfl (fun K hK => ?_)
 rw [if_pos (by rfl)]
 go_simp
 refine (wth_exg vg gs (w.heap.size + 1) z _ SG1.out (by omega) OC1.out.lt (OC1.out.cell (i := 0) rfl)).mono ?_
 rintro e w2 ⟨xg, rfl, hs, hbb⟩
 have XG2 := Lib.hid (hs)
 obtain ⟨pxg, nxg, cxg, f0⟩ := XG2.out.slc
 subst f0
 have OT2 := Lib.hid (OT1.out.below hbb)
 have OC2 := Lib.hid (OC1.out.below hbb)
 have OR2 := Lib.hid (OR1.out.below hbb)
 have SU2 := Lib.hid (SU1.out.below hbb)
 have SG2 := Lib.hid (SG1.out.below hbb)
 have SA2 := Lib.hid (SA1.out.below hbb)
 have XU2 := Lib.hid (XU1.out.below hbb)
 have BB2 := Lib.hid (belowTo BB1.out hbb BB1.out.size)
 clear hbb hs
 obtain ⟨t20, t21, t22, _, _⟩ := own3 OT2.out
 obtain ⟨c20, _, _⟩ := own1 OC2.out
 obtain ⟨r20, r21, r22, _, _⟩ := own3 OR2.out
 refine hK.out _ _ (⟨t20, t21, t22⟩) ?_
 clear hK K hHeld
 intro hHeld
 try simp only [Act.put, List.setIfInBounds_toArray, List.set_cons_zero, List.set_cons_succ]
 refine wpH_one (i := 9) (by kernel_rfl) rfl (fun K hK => ?_)
 rw [if_pos (by rfl)]
 go_simp
 refine (clone_a va ks _ SA2.out (by omega)).mono ?_
 rintro e w3 ⟨xa, rfl, hs, hbb⟩
 have XA3 := Lib.hid (slt_of_own (L := akL) hs)
 obtain ⟨pxa, nxa, cxa, f0⟩ := XA3.out.slc
 subst f0
 have OT3 := Lib.hid (OT2.out.below hbb)
 have OC3 := Lib.hid (OC2.out.below hbb)
 have OR3 := Lib.hid (OR2.out.below hbb)
 have SU3 := Lib.hid (SU2.out.below hbb)
 have SG3 := Lib.hid (SG2.out.below hbb)
 have SA3 := Lib.hid (SA2.out.below hbb)
 have XU3 := Lib.hid (XU2.out.below hbb)
 have XG3 := Lib.hid (XG2.out.below hbb)
 have BB3 := Lib.hid (belowTo BB2.out hbb BB2.out.size)
 clear hbb hs
 obtain ⟨t30, t31, t32, _, _⟩ := own3 OT3.out
 obtain ⟨c30, _, _⟩ := own1 OC3.out
 obtain ⟨r30, r31, r32, _, _⟩ := own3 OR3.out
 refine hK.out _ _ (⟨t30, t31, t32⟩) ?_
 clear hK K hHeld
 intro hHeld
 try simp only [Act.put, List.setIfInBounds_toArray, List.set_cons_zero, List.set_cons_succ]
 refine tH 10 15 ?_
 refine wpH_one (i := 11) (by kernel_rfl) rfl (fun K hK => ?_)
 rw [if_pos (by rfl)]
 go_simp
 refine hK.out _ _ (⟨(far3 (by simp; try omega)).trans t30, (far3 (by simp; try omega)).trans t31, (far3 (by simp; try omega)).trans t32⟩) ?_
 clear hK K hHeld
 intro hHeld
 try simp only [Act.put, List.setIfInBounds_toArray, List.set_cons_zero, List.set_cons_succ]
 refine wpAnyH_done (by kernel_rfl) ?_ _
 have OF := Lib.hid (own_set3 (x := .slice pxu nxu cxu) (y := .slice pxg nxg cxg) (z := .slice pxa nxa cxa) OR3.out)
 have FU := Lib.hid (SlT.set3 XU3.out numU OR3.out (.slice pxu nxu cxu) (.slice pxg nxg cxg) (.slice pxa nxa cxa))
 have FG := Lib.hid (SlT.set3 XG3.out numG OR3.out (.slice pxu nxu cxu) (.slice pxg nxg cxg) (.slice pxa nxa cxa))
 have FA := Lib.hid (SlT.set3 XA3.out numA OR3.out (.slice pxu nxu cxu) (.slice pxg nxg cxg) (.slice pxa nxa cxa))
 have BF := Lib.hid (below_set3 (x := .slice pxu nxu cxu) (y := .slice pxg nxg cxg) (z := .slice pxa nxa cxa) BB3.out (show w.heap.size ≤ w.heap.size + 1 + 1 by omega))
 generalize (((w3.setCell ⟨w.heap.size + 1 + 1, 0, none⟩ (.slice pxu nxu cxu)).setCell ⟨w.heap.size + 1 + 1, 1, none⟩ (.slice pxg nxg cxg)).setCell ⟨w.heap.size + 1 + 1, 2, none⟩ (.slice pxa nxa cxa)) = wf at OF FU FG FA BF ⊢
 obtain ⟨q0, q1, q2, _, _⟩ := own3 OF.out
 go_wp2_with fail
 refine bodyPost_ret (v := .agg #[.slice pxu nxu cxu, .slice pxg nxg cxg, .slice pxa nxa cxa]) (by simp [results, Tryz.results27, go_sem, *]) rfl ⟨_, _, _, rfl, FU.out, FG.out, FA.out, BF.out⟩
end Go.Proofs.YtmopiifamopidaaGreat
end
section
namespace Go.Proofs.YtmopiifamopidaaGreat
open Go.RowKit
theorem row_shape {w : World} {B k n : Nat} {t : TypeId} {v : Value} {xs : List Value} (h : w.ownsRow B t k v n xs) : v = .slice none 0 0 ∨ ∃ g cap cur, v = .slice (some ⟨g, 0, none⟩) n cap ∧ w.heap[g]? = some (.cells cur t (0, 0)) := by
 rcases h.2 with ⟨h, _⟩ | ⟨g, cap, cur, h1, _, h2, _⟩
 ·exact Or.inl h
 ·exact Or.inr ⟨g, cap, cur, h1, h2⟩
theorem row_slc {w : World} {B k n : Nat} {t : TypeId} {v : Value} {xs : List Value} (h : w.ownsRow B t k v n xs) : ∃ s : Sv, v = .slice s.p s.n s.c := by
 rcases row_shape h with h | ⟨g, cap, cur, h, _⟩
 ·exact ⟨⟨none, 0, 0⟩, h⟩
 ·exact ⟨⟨_, _, _⟩, h⟩
theorem row_base {w : World} {B B' k n : Nat} {t : TypeId} {v : Value} {xs : List Value} (h : w.ownsRow B t k v n xs) (hB : B' ≤ B) : w.ownsRow B' t k v n xs := by
 refine ⟨h.1, ?_⟩
 rcases h.2 with h | ⟨g, cap, cur, h1, h2, h3⟩
 ·exact Or.inl h
 ·exact Or.inr ⟨g, cap, cur, h1, Nat.le_trans hB h2, h3⟩
theorem _root_.Go.World.ownsRow.below {w w' : World} {B k n : Nat} {t : TypeId} {v : Value} {xs : List Value} (h : w.ownsRow B t k v n xs) (hb : Below w.heap.size w w') : w'.ownsRow B t k v n xs := ownsRow_belowD h hb
theorem row_setT {w : World} {B k n b : Nat} {t t' : TypeId} {v : Value} {xs cs : List Value} (h : w.ownsRow B t k v n xs) (o : Own w b cs t') (hne : t ≠ t') (i : Nat) (x : Value) : (w.setCell ⟨b, i, none⟩ x).ownsRow B t k v n xs := by
 refine ⟨h.1, ?_⟩
 rcases h.2 with h2 | ⟨g, cap, cur, h1, h2, h3, h4⟩
 ·exact Or.inl h2
 ·refine Or.inr ⟨g, cap, cur, h1, h2, ?_, h4⟩
  refine (Below.heap_setCell w ⟨b, i, none⟩ x g ?_).trans h3
  rintro rfl
  have e : some (Obj.cells cs.toArray t' (0, 0)) = some (Obj.cells cur t (0, 0)) := o.symm.trans h3
  injection e with e
  injection e with e1 e2
  exact hne e2.symm
theorem rows_apart {w : World} {B k n B2 k2 n2 : Nat} {t t' : TypeId} {v v2 : Value} {xs xs2 : List Value} (h : w.ownsRow B t k v n xs) (h2 : w.ownsRow B2 t' k2 v2 n2 xs2) (hne : t ≠ t') : v.ownBlock = none ∨ v.ownBlock ≠ v2.ownBlock := by
 rcases row_shape h with rfl | ⟨g, cap, cur, rfl, hg⟩
 ·exact Or.inl rfl
 ·right
  rcases row_shape h2 with rfl | ⟨g2, cap2, cur2, rfl, hg2⟩
  ·intro e; simp [Value.ownBlock] at e
  ·intro e
   simp [Value.ownBlock] at e
   subst e
   have e := hg.symm.trans hg2
   injection e with e
   injection e with e1 e2
   exact hne e2
theorem row_keptT {w w' : World} {B k n B2 k2 n2 : Nat} {t t' : TypeId} {v v2 : Value} {xs xs2 : List Value} (h : w.ownsRow B t k v n xs) (h2 : w.ownsRow B2 t' k2 v2 n2 xs2) (hne : t ≠ t') (hg : w.grownBy w' v2.ownBlock) : w'.ownsRow B t k v n xs := h.kept hg (rows_apart h h2 hne)
theorem own_keptT {w w' : World} {b B2 k2 n2 : Nat} {t t' : TypeId} {v2 : Value} {cs xs2 : List Value} (o : Own w b cs t) (h2 : w.ownsRow B2 t' k2 v2 n2 xs2) (hne : t ≠ t') (hg : w.grownBy w' v2.ownBlock) : Own w' b cs t := by
 refine (hg.block b o.lt ?_).trans o
 rcases row_shape h2 with rfl | ⟨g2, cap2, cur2, rfl, hg2⟩
 ·intro e; simp [Value.ownBlock] at e
 ·intro e
  simp [Value.ownBlock] at e
  subst e
  have e : some (Obj.cells cs.toArray t (0, 0)) = some (Obj.cells cur2 t' (0, 0)) := o.symm.trans hg2
  injection e with e
  injection e with e1 e2
  exact hne e2
def NrRow (w : World) (r : Nr) : Prop := w.ownsRow 0 50 4 r.vu.v r.b.us.length (flatT usL r.b.us) ∧ w.ownsRow 0 52 5 r.vg.v r.b.gs.length (flatT grL r.b.gs) ∧ w.ownsRow 0 81 3 r.va.v r.b.ks.length (flatT akL r.b.ks)
def NsRow (w : World) (l : List Nr) : Prop := ∀ r ∈ l, NrRow w r
theorem NrRow.ok {w : World} {r : Nr} (h : NrRow w r) : NrOk w r := ⟨slt_of_own (L := usL) h.1, slt_of_own (L := grL) h.2.1, slt_of_own (L := akL) h.2.2⟩
theorem NsRow.ok {w : World} {l : List Nr} (h : NsRow w l) : NsOk w l := fun r hr => (h r hr).ok
theorem NrRow.below {w w' : World} {r : Nr} (h : NrRow w r) (hb : Below w.heap.size w w') : NrRow w' r := ⟨h.1.below hb, h.2.1.below hb, h.2.2.below hb⟩
theorem NsRow.below {w w' : World} {l : List Nr} (h : NsRow w l) (hb : Below w.heap.size w w') : NsRow w' l := fun r hr => (h r hr).below hb
theorem NrRow.set {w : World} {r : Nr} {b : Nat} {cs : List Value} {t : TypeId} (h : NrRow w r) (o : Own w b cs t) (h1 : 50 ≠ t) (h2 : 52 ≠ t) (h3 : 81 ≠ t) (i : Nat) (x : Value) : NrRow (w.setCell ⟨b, i, none⟩ x) r := ⟨row_setT h.1 o h1 i x, row_setT h.2.1 o h2 i x, row_setT h.2.2 o h3 i x⟩
theorem NsRow.set {w : World} {l : List Nr} {b : Nat} {cs : List Value} {t : TypeId} (h : NsRow w l) (o : Own w b cs t) (h1 : 50 ≠ t) (h2 : 52 ≠ t) (h3 : 81 ≠ t) (i : Nat) (x : Value) : NsRow (w.setCell ⟨b, i, none⟩ x) l := fun r hr => (h r hr).set o h1 h2 h3 i x
theorem NrRow.kept {w w' : World} {r : Nr} {B n : Nat} {v : Value} {xs : List Value} (h : NrRow w r) (h2 : w.ownsRow B 86 31 v n xs) (hg : w.grownBy w' v.ownBlock) : NrRow w' r := ⟨row_keptT h.1 h2 (by decide) hg, row_keptT h.2.1 h2 (by decide) hg, row_keptT h.2.2 h2 (by decide) hg⟩
theorem NsRow.kept {w w' : World} {l : List Nr} {B n : Nat} {v : Value} {xs : List Value} (h : NsRow w l) (h2 : w.ownsRow B 86 31 v n xs) (hg : w.grownBy w' v.ownBlock) : NsRow w' l := fun r hr => (h r hr).kept h2 hg
set_option maxRecDepth 100000 in
set_option maxHeartbeats 2000000 in
theorem onlyo_u (v : Value) (l : List Us) (bl : Nat) (N D : Int) (w : World) (hN : 0 ≤ N ∧ N ≤ 60) (hD : 0 ≤ D ∧ D ≤ 60) (sl : SlU w v l) (h100 : l.length ≤ 100) (hbl : bl < w.heap.size) (m0 : w.cell? ⟨bl, 0, none⟩ = some (.int .i64 N)) (m1 : w.cell? ⟨bl, 1, none⟩ = some (.int .i64 D)) : Calls Tryz.prog 44 #[v, .func (.func 45) #[] #[.pointer (some ⟨bl, 0, none⟩)]] w fun e w' => OwnU w (l.filter (fun d : Us => (usB N D d))) e w' := by
 obtain ⟨p, cap, e0, hlc, hcm, hpn⟩ := sl.form l.length rfl
 subst e0
 have SL := Lib.hid sl
 unfold maxLen at hcm
 clear hpn sl
 obtain ⟨i0, hi, hz, hs0, hb0⟩ := info_parts info_u
 have IF := Lib.hid (And.intro hi (And.intro hz (And.intro hs0 hb0)))
 clear hi hz hs0 hb0
 have HQ := Lib.hid (show ∀ (d : Us) (wx : World), Below w.heap.size w wx → Calls Tryz.prog 45 #[.agg #[.int .i64 d.s, .int .i64 d.o, .int .i64 d.p, .int .i64 d.m], .pointer (some ⟨bl, 0, none⟩)] wx fun e w' => e = .returned (.bool (usB N D d)) ∧ Below wx.heap.size wx w' from fun d wx hbx => ns1_any bl d N D wx hN hD (Nat.lt_of_lt_of_le hbl hbx.size) ((hbx.cell (p := ⟨bl, 0, none⟩) hbl).trans m0) ((hbx.cell (p := ⟨bl, 1, none⟩) hbl).trans m1))
 clear m0 m1
 go_enter Tryz.func44, Tryz.ntmps44
 go_wp2_with fail
 go_loopw [5, 10] (fun out ii wz => ∃ (i : Nat) (qs : List Us), i ≤ l.length ∧ ii = .int .i64 i ∧ qs = (l.take i).filter (fun d : Us => (usB N D d)) ∧ wz.ownsRow w.heap.size 50 4 out qs.length (flatT usL qs) ∧ Below w.heap.size w wz) (fun _ i _ => l.length - (intOf i).toNat)
 case atStart => exact ⟨0, [], by omega, rfl, rfl, World.ownsRow_nil _ _ _ _, Below.refl _ _⟩
 case round =>
  obtain ⟨i, qs, hi, rfl, hq, hown, bel⟩ := hrel
  have hql : qs.length ≤ 100 := by rw [hq]; have := filt_leB (fun d : Us => (usB N D d)) l i; omega
  have HQS := Lib.hid hq
  have HOWN := Lib.hid hown
  have BE := Lib.hid bel
  clear hq hown bel
  have j0 : (0 : Int) ≤ (i : Int) := Int.natCast_nonneg _
  by_cases hlt : i < l.length
  ·obtain ⟨d, b, off, hd, rfl, hbl, _, d0, d1, d2, d3⟩ := SL.out.atU BE.out hlt
   have j1 : (i : Int) < (l.length : Int) := by omega
   have HD := Lib.hid (take_filtB (p := (fun d : Us => (usB N D d))) hd)
   clear hd
   have B1 := Lib.hid (BE.out.alloc BE.out.size (.cells #[.int .i64 d.s, .int .i64 d.o, .int .i64 d.p, .int .i64 d.m] 50))
   cases hn : (usB N D d) with
   | false =>
    have HN := Lib.hid hn
    clear hn
    go_wp2_with fail
    refine (HQ.out d _ B1.out).mono ?_
    rintro e w1 ⟨rfl, hbb⟩
    rw [HN.out]
    have B2 := Lib.hid (belowTo B1.out hbb B1.out.size)
    have H1 := Lib.hid (ownsRow_belowD (HOWN.out.alloc (.cells #[.int .i64 d.s, .int .i64 d.o, .int .i64 d.p, .int .i64 d.m] 50)) hbb)
    have oE := Lib.hid ((own_at (w := wr) [.int .i64 d.s, .int .i64 d.o, .int .i64 d.p, .int .i64 d.m] 50 rfl).below hbb)
    obtain ⟨x0, x1, x2, x3, fE, zE⟩ := own4 oE.out
    clear hbb
    go_wp2_with fail
    go_roundw
    case rel => exact ⟨i + 1, qs, by omega, by go_num, by rw [HD.out, HQS.out]; simp only [HN.out]; simp, H1.out, B2.out⟩
    case measure => simp [intOf]; omega
   | true =>
    have HN := Lib.hid hn
    clear hn
    go_wp2_with fail
    refine (HQ.out d _ B1.out).mono ?_
    rintro e w1 ⟨rfl, hbb⟩
    rw [HN.out]
    have B2 := Lib.hid (belowTo B1.out hbb B1.out.size)
    have H1 := Lib.hid (ownsRow_belowD (HOWN.out.alloc (.cells #[.int .i64 d.s, .int .i64 d.o, .int .i64 d.p, .int .i64 d.m] 50)) hbb)
    have oE := Lib.hid ((own_at (w := wr) [.int .i64 d.s, .int .i64 d.o, .int .i64 d.p, .int .i64 d.m] 50 rfl).below hbb)
    obtain ⟨x0, x1, x2, x3, fE, zE⟩ := own4 oE.out
    clear hbb
    go_wp2_with (at_builtin; refine wpList_append_own _ rfl _ _ 39 rfl w.heap.size 50 i0 _ 4 32 (by kernel_rfl) IF.out.1 IF.out.2.1 IF.out.2.2.1 IF.out.2.2.2 rfl (by decide) _ qs.length (flatT usL qs) rfl (H1.out.alloc _) _ 1 1 (usL.f d) rfl rfl (newsT (L := usL) w1 d 50) (usL.one _) ?qc4 ?qc5 ?qc6 ?_)
    case qc4 => unfold maxLen; omega
    case qc5 => omega
    case qc6 => have := B2.out.size; simp; omega
    intro v2 w2 hown hgrow hnil
    have B3 := Lib.hid ((B2.out.alloc B2.out.size _).grown hgrow (by have := B2.out.size; simp; omega) (fun k hk => (H1.out.lt k hk).1))
    have H2 := Lib.hid hown
    clear hown hgrow hnil
    go_wp2_with fail
    go_roundw
    case rel => exact ⟨i + 1, qs ++ [d], by omega, by go_num, by rw [HD.out, HQS.out]; simp only [HN.out]; simp, by have := H2.out; rw [flatT_append, flatT_one]; simpa using this, B3.out⟩
    case measure => simp [intOf]; omega
  ·have HQ2 := Lib.hid (show qs = l.filter (fun d : Us => (usB N D d)) by have h := HQS.out; rw [List.take_of_length_le (by omega)] at h; exact h)
   go_wp2_with fail
   go_ret
   exact ⟨_, rfl, by rw [← HQ2.out]; exact HOWN.out, BE.out⟩
set_option maxRecDepth 100000 in
set_option maxHeartbeats 2000000 in
theorem onlyo_g (v : Value) (l : List Gr) (bl : Nat) (N D : Int) (w : World) (hN : 0 ≤ N ∧ N ≤ 60) (hD : 0 ≤ D ∧ D ≤ 60) (sl : SlG w v l) (h100 : l.length ≤ 100) (hbl : bl < w.heap.size) (m0 : w.cell? ⟨bl, 0, none⟩ = some (.int .i64 N)) (m1 : w.cell? ⟨bl, 1, none⟩ = some (.int .i64 D)) : Calls Tryz.prog 47 #[v, .func (.func 48) #[] #[.pointer (some ⟨bl, 0, none⟩)]] w fun e w' => OwnG w (l.filter (fun d : Gr => (grB N D d))) e w' := by
 obtain ⟨p, cap, e0, hlc, hcm, hpn⟩ := sl.form l.length rfl
 subst e0
 have SL := Lib.hid sl
 unfold maxLen at hcm
 clear hpn sl
 obtain ⟨i0, hi, hz, hs0, hb0⟩ := info_parts info_g
 have IF := Lib.hid (And.intro hi (And.intro hz (And.intro hs0 hb0)))
 clear hi hz hs0 hb0
 have HQ := Lib.hid (show ∀ (d : Gr) (wx : World), Below w.heap.size w wx → Calls Tryz.prog 48 #[.agg #[.int .i64 d.s, .int .i64 d.o, .int .i64 d.p, .int .i64 d.m, .int .i64 d.u], .pointer (some ⟨bl, 0, none⟩)] wx fun e w' => e = .returned (.bool (grB N D d)) ∧ Below wx.heap.size wx w' from fun d wx hbx => ns2_any bl d N D wx hN hD (Nat.lt_of_lt_of_le hbl hbx.size) ((hbx.cell (p := ⟨bl, 0, none⟩) hbl).trans m0) ((hbx.cell (p := ⟨bl, 1, none⟩) hbl).trans m1))
 clear m0 m1
 go_enter Tryz.func47, Tryz.ntmps47
 go_wp2_with fail
 go_loopw [5, 10] (fun out ii wz => ∃ (i : Nat) (qs : List Gr), i ≤ l.length ∧ ii = .int .i64 i ∧ qs = (l.take i).filter (fun d : Gr => (grB N D d)) ∧ wz.ownsRow w.heap.size 52 5 out qs.length (flatT grL qs) ∧ Below w.heap.size w wz) (fun _ i _ => l.length - (intOf i).toNat)
 case atStart => exact ⟨0, [], by omega, rfl, rfl, World.ownsRow_nil _ _ _ _, Below.refl _ _⟩
 case round =>
  obtain ⟨i, qs, hi, rfl, hq, hown, bel⟩ := hrel
  have hql : qs.length ≤ 100 := by rw [hq]; have := filt_leB (fun d : Gr => (grB N D d)) l i; omega
  have HQS := Lib.hid hq
  have HOWN := Lib.hid hown
  have BE := Lib.hid bel
  clear hq hown bel
  have j0 : (0 : Int) ≤ (i : Int) := Int.natCast_nonneg _
  by_cases hlt : i < l.length
  ·obtain ⟨d, b, off, hd, rfl, hbl, _, d0, d1, d2, d3, d4⟩ := SL.out.atG BE.out hlt
   have j1 : (i : Int) < (l.length : Int) := by omega
   have HD := Lib.hid (take_filtB (p := (fun d : Gr => (grB N D d))) hd)
   clear hd
   have B1 := Lib.hid (BE.out.alloc BE.out.size (.cells #[.int .i64 d.s, .int .i64 d.o, .int .i64 d.p, .int .i64 d.m, .int .i64 d.u] 52))
   cases hn : (grB N D d) with
   | false =>
    have HN := Lib.hid hn
    clear hn
    go_wp2_with fail
    refine (HQ.out d _ B1.out).mono ?_
    rintro e w1 ⟨rfl, hbb⟩
    rw [HN.out]
    have B2 := Lib.hid (belowTo B1.out hbb B1.out.size)
    have H1 := Lib.hid (ownsRow_belowD (HOWN.out.alloc (.cells #[.int .i64 d.s, .int .i64 d.o, .int .i64 d.p, .int .i64 d.m, .int .i64 d.u] 52)) hbb)
    have oE := Lib.hid ((own_at (w := wr) [.int .i64 d.s, .int .i64 d.o, .int .i64 d.p, .int .i64 d.m, .int .i64 d.u] 52 rfl).below hbb)
    obtain ⟨x0, x1, x2, x3, x4, fE, zE⟩ := own5 oE.out
    clear hbb
    go_wp2_with fail
    go_roundw
    case rel => exact ⟨i + 1, qs, by omega, by go_num, by rw [HD.out, HQS.out]; simp only [HN.out]; simp, H1.out, B2.out⟩
    case measure => simp [intOf]; omega
   | true =>
    have HN := Lib.hid hn
    clear hn
    go_wp2_with fail
    refine (HQ.out d _ B1.out).mono ?_
    rintro e w1 ⟨rfl, hbb⟩
    rw [HN.out]
    have B2 := Lib.hid (belowTo B1.out hbb B1.out.size)
    have H1 := Lib.hid (ownsRow_belowD (HOWN.out.alloc (.cells #[.int .i64 d.s, .int .i64 d.o, .int .i64 d.p, .int .i64 d.m, .int .i64 d.u] 52)) hbb)
    have oE := Lib.hid ((own_at (w := wr) [.int .i64 d.s, .int .i64 d.o, .int .i64 d.p, .int .i64 d.m, .int .i64 d.u] 52 rfl).below hbb)
    obtain ⟨x0, x1, x2, x3, x4, fE, zE⟩ := own5 oE.out
    clear hbb
    go_wp2_with (at_builtin; refine wpList_append_own _ rfl _ _ 40 rfl w.heap.size 52 i0 _ 5 40 (by kernel_rfl) IF.out.1 IF.out.2.1 IF.out.2.2.1 IF.out.2.2.2 rfl (by decide) _ qs.length (flatT grL qs) rfl (H1.out.alloc _) _ 1 1 (grL.f d) rfl rfl (newsT (L := grL) w1 d 52) (grL.one _) ?qc4 ?qc5 ?qc6 ?_)
    case qc4 => unfold maxLen; omega
    case qc5 => omega
    case qc6 => have := B2.out.size; simp; omega
    intro v2 w2 hown hgrow hnil
    have B3 := Lib.hid ((B2.out.alloc B2.out.size _).grown hgrow (by have := B2.out.size; simp; omega) (fun k hk => (H1.out.lt k hk).1))
    have H2 := Lib.hid hown
    clear hown hgrow hnil
    go_wp2_with fail
    go_roundw
    case rel => exact ⟨i + 1, qs ++ [d], by omega, by go_num, by rw [HD.out, HQS.out]; simp only [HN.out]; simp, by have := H2.out; rw [flatT_append, flatT_one]; simpa using this, B3.out⟩
    case measure => simp [intOf]; omega
  ·have HQ2 := Lib.hid (show qs = l.filter (fun d : Gr => (grB N D d)) by have h := HQS.out; rw [List.take_of_length_le (by omega)] at h; exact h)
   go_wp2_with fail
   go_ret
   exact ⟨_, rfl, by rw [← HQ2.out]; exact HOWN.out, BE.out⟩
set_option maxRecDepth 100000 in
set_option maxHeartbeats 2000000 in
theorem onlyo_a (v : Value) (l : List Ak) (bl : Nat) (N D : Int) (w : World) (hN : 0 ≤ N ∧ N ≤ 60) (hD : 0 ≤ D ∧ D ≤ 60) (sl : SlA w v l) (h100 : l.length ≤ 100) (hbl : bl < w.heap.size) (m0 : w.cell? ⟨bl, 0, none⟩ = some (.int .i64 N)) (m1 : w.cell? ⟨bl, 1, none⟩ = some (.int .i64 D)) : Calls Tryz.prog 36 #[v, .func (.func 50) #[] #[.pointer (some ⟨bl, 0, none⟩)]] w fun e w' => OwnA w (l.filter (fun d : Ak => (plcB d.s d.o d.p N D))) e w' := by
 obtain ⟨p, cap, e0, hlc, hcm, hpn⟩ := sl.form l.length rfl
 subst e0
 have SL := Lib.hid sl
 unfold maxLen at hcm
 clear hpn sl
 obtain ⟨i0, hi, hz, hs0, hb0⟩ := info_parts info_a
 have IF := Lib.hid (And.intro hi (And.intro hz (And.intro hs0 hb0)))
 clear hi hz hs0 hb0
 have HQ := Lib.hid (show ∀ (d : Ak) (wx : World), Below w.heap.size w wx → Calls Tryz.prog 50 #[.agg #[.int .i64 d.s, .int .i64 d.o, .int .i64 d.p], .pointer (some ⟨bl, 0, none⟩)] wx fun e w' => e = .returned (.bool (plcB d.s d.o d.p N D)) ∧ Below wx.heap.size wx w' from fun d wx hbx => ns3_any bl d N D wx hN hD (Nat.lt_of_lt_of_le hbl hbx.size) ((hbx.cell (p := ⟨bl, 0, none⟩) hbl).trans m0) ((hbx.cell (p := ⟨bl, 1, none⟩) hbl).trans m1))
 clear m0 m1
 go_enter Tryz.func36, Tryz.ntmps36
 go_wp2_with fail
 go_loopw [5, 10] (fun out ii wz => ∃ (i : Nat) (qs : List Ak), i ≤ l.length ∧ ii = .int .i64 i ∧ qs = (l.take i).filter (fun d : Ak => (plcB d.s d.o d.p N D)) ∧ wz.ownsRow w.heap.size 81 3 out qs.length (flatT akL qs) ∧ Below w.heap.size w wz) (fun _ i _ => l.length - (intOf i).toNat)
 case atStart => exact ⟨0, [], by omega, rfl, rfl, World.ownsRow_nil _ _ _ _, Below.refl _ _⟩
 case round =>
  obtain ⟨i, qs, hi, rfl, hq, hown, bel⟩ := hrel
  have hql : qs.length ≤ 100 := by rw [hq]; have := filt_leB (fun d : Ak => (plcB d.s d.o d.p N D)) l i; omega
  have HQS := Lib.hid hq
  have HOWN := Lib.hid hown
  have BE := Lib.hid bel
  clear hq hown bel
  have j0 : (0 : Int) ≤ (i : Int) := Int.natCast_nonneg _
  by_cases hlt : i < l.length
  ·obtain ⟨d, b, off, hd, rfl, hbl, _, d0, d1, d2⟩ := SL.out.atA BE.out hlt
   have j1 : (i : Int) < (l.length : Int) := by omega
   have HD := Lib.hid (take_filtB (p := (fun d : Ak => (plcB d.s d.o d.p N D))) hd)
   clear hd
   have B1 := Lib.hid (BE.out.alloc BE.out.size (.cells #[.int .i64 d.s, .int .i64 d.o, .int .i64 d.p] 81))
   cases hn : (plcB d.s d.o d.p N D) with
   | false =>
    have HN := Lib.hid hn
    clear hn
    go_wp2_with fail
    refine (HQ.out d _ B1.out).mono ?_
    rintro e w1 ⟨rfl, hbb⟩
    rw [HN.out]
    have B2 := Lib.hid (belowTo B1.out hbb B1.out.size)
    have H1 := Lib.hid (ownsRow_belowD (HOWN.out.alloc (.cells #[.int .i64 d.s, .int .i64 d.o, .int .i64 d.p] 81)) hbb)
    have oE := Lib.hid ((own_at (w := wr) [.int .i64 d.s, .int .i64 d.o, .int .i64 d.p] 81 rfl).below hbb)
    obtain ⟨x0, x1, x2, fE, zE⟩ := own3 oE.out
    clear hbb
    go_wp2_with fail
    go_roundw
    case rel => exact ⟨i + 1, qs, by omega, by go_num, by rw [HD.out, HQS.out]; simp only [HN.out]; simp, H1.out, B2.out⟩
    case measure => simp [intOf]; omega
   | true =>
    have HN := Lib.hid hn
    clear hn
    go_wp2_with fail
    refine (HQ.out d _ B1.out).mono ?_
    rintro e w1 ⟨rfl, hbb⟩
    rw [HN.out]
    have B2 := Lib.hid (belowTo B1.out hbb B1.out.size)
    have H1 := Lib.hid (ownsRow_belowD (HOWN.out.alloc (.cells #[.int .i64 d.s, .int .i64 d.o, .int .i64 d.p] 81)) hbb)
    have oE := Lib.hid ((own_at (w := wr) [.int .i64 d.s, .int .i64 d.o, .int .i64 d.p] 81 rfl).below hbb)
    obtain ⟨x0, x1, x2, fE, zE⟩ := own3 oE.out
    clear hbb
    go_wp2_with (at_builtin; refine wpList_append_own _ rfl _ _ 41 rfl w.heap.size 81 i0 _ 3 24 (by kernel_rfl) IF.out.1 IF.out.2.1 IF.out.2.2.1 IF.out.2.2.2 rfl (by decide) _ qs.length (flatT akL qs) rfl (H1.out.alloc _) _ 1 1 (akL.f d) rfl rfl (newsT (L := akL) w1 d 81) (akL.one _) ?qc4 ?qc5 ?qc6 ?_)
    case qc4 => unfold maxLen; omega
    case qc5 => omega
    case qc6 => have := B2.out.size; simp; omega
    intro v2 w2 hown hgrow hnil
    have B3 := Lib.hid ((B2.out.alloc B2.out.size _).grown hgrow (by have := B2.out.size; simp; omega) (fun k hk => (H1.out.lt k hk).1))
    have H2 := Lib.hid hown
    clear hown hgrow hnil
    go_wp2_with fail
    go_roundw
    case rel => exact ⟨i + 1, qs ++ [d], by omega, by go_num, by rw [HD.out, HQS.out]; simp only [HN.out]; simp, by have := H2.out; rw [flatT_append, flatT_one]; simpa using this, B3.out⟩
    case measure => simp [intOf]; omega
  ·have HQ2 := Lib.hid (show qs = l.filter (fun d : Ak => (plcB d.s d.o d.p N D)) by have h := HQS.out; rw [List.take_of_length_le (by omega)] at h; exact h)
   go_wp2_with fail
   go_ret
   exact ⟨_, rfl, by rw [← HQ2.out]; exact HOWN.out, BE.out⟩
end Go.Proofs.YtmopiifamopidaaGreat
end

/- The contracts of the library's slices at readings: Clone, Grow (of nil), Concat (of two). -/
import Derived.Test.YtlfdbmndikdhdaaPut27
import Derived.LoopN
import Derived.Laws.AppendOwnNone
import Derived.Lib.AppendZerosOnto
import Derived.Lib.SliceRun
import Derived.Lib.Walk
namespace Go.Proofs.Ytlfdbmndikdhdaa
open Go.RowKit

/-- A slice of the call's own is returned. -/
def OwnP (w : World) (rs : List Rd) (e : Ending) (w' : World) : Prop :=
  ∃ v', e = .returned v' ∧ w'.ownsRow w.heap.size 26 5 v' rs.length (flat rs) ∧ Below w.heap.size w w'

theorem flat_one_cell {rs : List Rd} : ∀ u ∈ flat rs, u.oneCell' = true := by
  intro u hu
  simp only [flat, List.mem_flatMap] at hu
  obtain ⟨r, _, hr⟩ := hu
  simp only [Rd.cells, List.mem_cons, List.not_mem_nil, or_false] at hr
  rcases hr with rfl | rfl | rfl | rfl | rfl <;> rfl

theorem eql_nil (w : World) (a : Option Addr) (n c n' c' : Nat) : (binOp .eql 22 (.slice a n c) (.slice none n' c')).run Try.prog w = .ok (.bool a.isNone) w :=
  Lib.run_eql_slice_nil w _ 26 a n c n' c' (by kernel_rfl)

set_option linter.unusedVariables false in
set_option maxRecDepth 100000 in
set_option maxHeartbeats 2000000 in
theorem clone_any (v : Value) (rs : List Rd) (w : World) (sl : SlR w v rs) (h40 : rs.length ≤ 100) :
    Calls Try.prog 28 #[v] w fun e w' => OwnP w rs e w' := by
  obtain ⟨p, cap, rfl, hlc, hcm, parts⟩ := sl
  have sl0 : SlR w (.slice p rs.length cap) rs := ⟨p, cap, rfl, hlc, hcm, parts⟩
  have OL := Lib.hid ((sl0.below (belowNew w (.cells #[] 26))).olds)
  have HN := Lib.hid sl0.none_len
  clear sl0 parts
  have q := eql_nil
  unfold maxLen at hcm
  obtain ⟨i0, hi, hz, hs0, hb0⟩ := info_parts info_rd
  go_enter Try.func28, Try.ntmps28
  cases p with
  | none =>
    obtain rfl : rs = [] := HN.out rfl
    go_wp2
    go_ret
    exact ⟨_, rfl, World.ownsRow_nil _ _ _ _, Below.refl _ _⟩
  | some ad =>
    go_wp2_with (at_builtin; refine wpList_append_own _ rfl _ _ 22 rfl w.heap.size 26 i0 _ 5 40 (by kernel_rfl) hi hz hs0 hb0 rfl (by decide) _ _ _ rfl (World.ownsRow_made w #[] 0 (Nat.le_refl _) (Nat.zero_le _) (by simp)) ad rs.length cap (flat rs) rfl (flat_len rs) (OL.out ad rfl) flat_one_cell ?qc4 ?qc5 ?qc6 ?_)
    case qc4 => unfold maxLen; omega
    case qc5 => omega
    case qc6 => simp
    intro v' w1 hown hgrow hnil
    have HO := Lib.hid hown
    have HB := Lib.hid (((Below.refl _ w).alloc (Nat.le_refl _) _).grown hgrow (by simp) (by intro k hk; simp [Value.ownBlock] at hk; omega))
    clear hown hgrow hnil
    go_wp2
    go_ret
    exact ⟨v', rfl, by simpa using HO.out, HB.out⟩

set_option linter.unusedVariables false in
set_option maxRecDepth 100000 in
set_option maxHeartbeats 2000000 in
theorem grow_zero (w : World) :
    Calls Try.prog 32 #[.slice none 0 0, .int .i64 0] w fun e w' => OwnP w [] e w' := by
  go_enter Try.func32, Try.ntmps32
  go_wp2
  go_ret
  exact ⟨_, rfl, World.ownsRow_nil _ _ _ _, Below.refl _ _⟩

set_option linter.unusedVariables false in
set_option maxRecDepth 100000 in
set_option maxHeartbeats 2000000 in
theorem grow_some (n : Nat) (w : World) (h1 : 0 < n) (h2 : n ≤ 1000) :
    Calls Try.prog 32 #[.slice none 0 0, .int .i64 n] w fun e w' => OwnP w [] e w' := by
  obtain ⟨i0, hi, hz, hs0, hb0⟩ := info_parts info_rd
  obtain ⟨z, hzz⟩ : ∃ z, z = Value.agg #[.int .i64 0, .int .i64 0, .int .i64 0, .int .i64 0, .int .i64 0] := ⟨_, rfl⟩
  rw [← hzz] at hz
  have hzs : z.cells.size = 5 := by rw [hzz]; rfl
  clear hzz
  have hrz : ∀ ty, (Builtin.append_ #[22, 3] ty #[.slice none 0 0, .int .i64 (n : Int)]).run Try.prog w =
      .ok (.slice (some ⟨w.heap.size, 0, none⟩) n (grownCap w n 0 26)) (w.drew.alloc (.cells (#[] ++ Builtin.zeroCells z.cells n ++ Builtin.zeroCells z.cells (grownCap w n 0 26 - n)) 26)) := fun ty => by
    have h := Lib.run_append_grow_zeros w 22 3 ty 26 i0 z .i64 .i64 (by kernel_rfl) (by kernel_rfl) hi hz none 0 0 [] (run_firstCells_none w.drew i0.size 0 0 0) n (by omega) (by omega) (by omega) (by omega) (by rw [hb0]; omega) (by rw [Nat.zero_add]; exact growslice_fits (by omega) (by rw [hb0]; omega))
    simpa using h
  have hGn : n ≤ grownCap w n 0 26 := grownCap_ge w _ _ _
  have hGm : grownCap w n 0 26 ≤ maxLen := grownCap_le_maxLen w n 0 _ (by unfold maxLen; omega)
  obtain ⟨G, hG⟩ : ∃ G, G = grownCap w n 0 26 := ⟨_, rfl⟩
  rw [← hG] at hrz hGn hGm
  have HM := Lib.hid hGm
  obtain ⟨CS, hCS⟩ : ∃ CS, CS = (#[] ++ Builtin.zeroCells z.cells n ++ Builtin.zeroCells z.cells (G - n)) := ⟨_, rfl⟩
  have HZ := Lib.hid (show CS.size = G * 5 by rw [hCS]; simp only [Array.size_append, size_zeroCells, hzs, List.size_toArray, List.length_nil]; omega)
  rw [← hCS] at hrz
  unfold maxLen at hGm
  clear hG hzs hCS hz hi hs0 hb0
  go_enter Try.func32, Try.ntmps32
  go_wp2_with (at_builtin; refine Lib.wpList_append_run _ rfl _ _ _ _ rfl _ _ rfl rfl _ _ (hrz _) ?_)
  all_goals (go_ret; exact ⟨_, rfl, World.ownsRow_made w.drew _ G (Nat.le_refl _) HM.out HZ.out, (Below.refl _ w).drew.alloc (Nat.le_refl _) _⟩)

theorem grow_any (n : Nat) (w : World) (h2 : n ≤ 1000) :
    Calls Try.prog 32 #[.slice none 0 0, .int .i64 n] w fun e w' => OwnP w [] e w' := by
  rcases Nat.eq_zero_or_pos n with rfl | h
  · exact grow_zero w
  · exact grow_some n w h h2

theorem grow_lit (n : Nat) (x : Int) (hx : x = n) (w : World) (h2 : n ≤ 1000) :
    Calls Try.prog 32 #[.slice none 0 0, .int .i64 x] w fun e w' => OwnP w [] e w' := by
  rw [hx]; exact grow_any n w h2

set_option linter.unusedVariables false in
set_option maxRecDepth 100000 in
set_option maxHeartbeats 2000000 in
theorem concat_any (b : Nat) (p q : Addr) (cp cq : Nat) (rs ss : List Rd) (w : World) (hb : b < w.heap.size) (c0 : w.cell? ⟨b, 0, none⟩ = some (.slice (some p) rs.length cp)) (c1 : w.cell? ⟨b, 1, none⟩ = some (.slice (some q) ss.length cq))
    (s1 : SlR w (.slice (some p) rs.length cp) rs) (s2 : SlR w (.slice (some q) ss.length cq) ss) (h40 : rs.length + ss.length ≤ 100) :
    Calls Try.prog 29 #[.slice (some ⟨b, 0, none⟩) 2 2] w fun e w' => OwnP w (rs ++ ss) e w' := by
  have S1 := Lib.hid s1
  have S2 := Lib.hid s2
  have HB := Lib.hid hb
  obtain ⟨i0, hi, hz, hs0, hb0⟩ := info_parts info_rd
  have i1 : (0:Int) ≤ (rs.length : Int) := by omega
  have i2 : (0:Int) ≤ (ss.length : Int) := by omega
  have i3 : (rs.length : Int) + (ss.length : Int) ≤ 100 := by omega
  have i4 : (rs.length : Int) ≤ 100 := by omega
  have C0 := Lib.hid c0
  have C1 := Lib.hid c1
  have IF := Lib.hid (And.intro hi (And.intro hz (And.intro hs0 hb0)))
  clear s1 s2 hb h40 hi hz hs0 hb0
  go_enter Try.func29, Try.ntmps29
  go_wp2_with fail
  refine wp_loop_rounds 3 ?_
  rw [rounds_succ]
  go_wp2_with fail
  rw [rounds_succ]
  go_wp2_with fail
  rw [rounds_succ]
  go_wp2_with fail
  refine (grow_lit (rs.length + ss.length) _ (by simp) _ (by omega)).mono ?_
  rintro e w1 ⟨v1, rfl, hown, hbel⟩
  have B1 := Lib.hid hbel
  have H1 := Lib.hid hown
  clear hown
  have d0 := (hbel.cell (p := ⟨b, 0, none⟩) HB.out).trans C0.out
  have d1 := (hbel.cell (p := ⟨b, 1, none⟩) HB.out).trans C1.out
  have O1 := Lib.hid ((S1.out.below hbel).olds p rfl)
  clear hbel c0 c1
  go_wp2_with fail
  refine wp_loop_rounds 3 ?_
  rw [rounds_succ]
  go_wp2_with (at_builtin; refine wpList_append_own _ rfl _ _ 22 rfl w.heap.size 26 i0 _ 5 40 (by kernel_rfl) IF.out.1 IF.out.2.1 IF.out.2.2.1 IF.out.2.2.2 rfl (by decide) v1 0 [] rfl H1.out p rs.length cp (flat rs) rfl (flat_len rs) O1.out flat_one_cell ?qc4 ?qc5 ?qc6 ?_)
  case qc4 => unfold maxLen; omega
  case qc5 => omega
  case qc6 => exact B1.out.size
  intro v2 w2 hown hgrow hnil
  have B2 := Lib.hid (B1.out.grown hgrow B1.out.size (fun k hk => (H1.out.lt k hk).1))
  have H2 := Lib.hid hown
  clear hown hgrow hnil
  have e1 := (B2.out.cell (p := ⟨b, 1, none⟩) HB.out).trans C1.out
  have O2 := Lib.hid ((S2.out.below B2.out).olds q rfl)
  clear d0 d1 H1 B1 O1
  go_wp2_with fail
  rw [rounds_succ]
  go_wp2_with (at_builtin; refine wpList_append_own _ rfl _ _ 22 rfl w.heap.size 26 i0 _ 5 40 (by kernel_rfl) IF.out.1 IF.out.2.1 IF.out.2.2.1 IF.out.2.2.2 rfl (by decide) v2 rs.length (flat rs) rfl H2.out q ss.length cq (flat ss) rfl (flat_len ss) O2.out flat_one_cell ?qc4 ?qc5 ?qc6 ?_)
  case qc4 => unfold maxLen; omega
  case qc5 => omega
  case qc6 => exact B2.out.size
  intro v3 w3 hown hgrow hnil
  have B3 := Lib.hid (B2.out.grown hgrow B2.out.size (fun k hk => (H2.out.lt k hk).1))
  have H3 := Lib.hid hown
  clear hown hgrow hnil
  go_wp2_with fail
  rw [rounds_succ]
  go_wp2
  go_ret
  exact ⟨v3, rfl, by have := H3.out; rwa [← flat_append, ← List.length_append] at this, B3.out⟩

end Go.Proofs.Ytlfdbmndikdhdaa

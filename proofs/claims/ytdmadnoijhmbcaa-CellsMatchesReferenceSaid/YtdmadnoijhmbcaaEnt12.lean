/- entries: the list of entries as the package has them. -/
import Derived.Test.YtdmadnoijhmbcaaKit12
namespace Go.Proofs.Ytdmadnoijhmbcaa
open Go.RowKit

set_option linter.unusedSimpArgs false in
set_option linter.unusedVariables false in
set_option maxRecDepth 100000 in
set_option maxHeartbeats 2000000 in
theorem uent_any (v : Value) (l : List Us) (w : World) (sl : SlU w v l) (h100 : l.length ≤ 100) : Calls Try.prog 41 #[v, .func (.func 31) #[] #[]] w fun e w' => RetU w l e w' := by
  obtain ⟨p, cap, e0, hlc, hcm, hpn⟩ := sl.form l.length rfl
  subst e0
  have SL := Lib.hid sl
  unfold maxLen at hcm
  clear hpn sl
  obtain ⟨i0, hi, hz, hs0, hb0⟩ := info_parts info_uP
  have IF := Lib.hid (And.intro hi (And.intro hz (And.intro hs0 hb0)))
  clear hi hz hs0 hb0
  go_enter Try.func41, Try.ntmps41
  go_wp2_with fail
  go_loopw [5, 10] (fun out ii wr => ∃ (i : Nat), i ≤ l.length ∧ ii = .int .i64 i ∧ wr.ownsRow w.heap.size 66 4 out i (flatT usL (l.take i)) ∧ Below w.heap.size w wr) (fun _ i _ => l.length - (intOf i).toNat)
  case atStart => exact ⟨0, by omega, rfl, World.ownsRow_nil _ _ _ _, Below.refl _ _⟩
  case round =>
    obtain ⟨i, hi, rfl, hown, bel⟩ := hrel
    have HOWN := Lib.hid hown
    have BE := Lib.hid bel
    clear hown bel
    have j0 : (0 : Int) ≤ (i : Int) := Int.natCast_nonneg _
    by_cases hlt : i < l.length
    · obtain ⟨d, b, off, hd, rfl, hbl, _, d0, d1, d2, d3⟩ := SL.out.atU BE.out hlt
      have j1 : (i : Int) < (l.length : Int) := by omega
      have HD := Lib.hid (take_snocG hd)
      clear hd
      go_wp2_with fail
      refine (uto_any d.s d.o d.p d.m _).mono ?_
      rintro e w1 ⟨rfl, hb⟩
      have B1 := Lib.hid (belowTo (BE.out.alloc BE.out.size _) hb (by have := BE.out.size; simp; omega))
      have H1 := Lib.hid (ownsRow_belowD (HOWN.out.alloc _) hb)
      clear hb
      go_wp2_with (at_builtin; refine wpList_append_own _ rfl _ _ 80 rfl w.heap.size 66 i0 _ 4 32 (by kernel_rfl) IF.out.1 IF.out.2.1 IF.out.2.2.1 IF.out.2.2.2 rfl (by decide) _ i (flatT usL (l.take i)) rfl (H1.out.alloc _) ⟨w1.heap.size, 0, none⟩ 1 1 (usL.f d) rfl rfl (newsT (L := usL) w1 d 66) (usL.one _) ?qc4 ?qc5 ?qc6 ?_)
      case qc4 => unfold maxLen; omega
      case qc5 => omega
      case qc6 => have := B1.out.size; simp; omega
      intro v2 w2 hown hgrow hnil
      have B2 := Lib.hid ((B1.out.alloc B1.out.size _).grown hgrow (by have := B1.out.size; simp; omega) (fun k hk => (H1.out.lt k hk).1))
      have H2 := Lib.hid hown
      clear hown hgrow hnil
      go_wp2_with fail
      go_roundw
      case rel => exact ⟨i + 1, by omega, by go_num, by have := H2.out; rw [HD.out, flatT_append, flatT_one]; exact this, B2.out⟩
      case measure => simp [intOf]; omega
    · obtain rfl : i = l.length := by omega
      go_wp2_with fail
      go_ret
      exact ⟨_, rfl, by have := HOWN.out; rw [List.take_length] at this; exact slt_of_own (L := usL) this, BE.out⟩

set_option linter.unusedSimpArgs false in
set_option linter.unusedVariables false in
set_option maxRecDepth 100000 in
set_option maxHeartbeats 2000000 in
theorem gent_any (v : Value) (l : List Gr) (w : World) (sl : SlG w v l) (h100 : l.length ≤ 100) : Calls Try.prog 43 #[v, .func (.func 38) #[] #[]] w fun e w' => RetG w l e w' := by
  obtain ⟨p, cap, e0, hlc, hcm, hpn⟩ := sl.form l.length rfl
  subst e0
  have SL := Lib.hid sl
  unfold maxLen at hcm
  clear hpn sl
  obtain ⟨i0, hi, hz, hs0, hb0⟩ := info_parts info_gP
  have IF := Lib.hid (And.intro hi (And.intro hz (And.intro hs0 hb0)))
  clear hi hz hs0 hb0
  go_enter Try.func43, Try.ntmps43
  go_wp2_with fail
  go_loopw [5, 10] (fun out ii wr => ∃ (i : Nat), i ≤ l.length ∧ ii = .int .i64 i ∧ wr.ownsRow w.heap.size 73 5 out i (flatT grL (l.take i)) ∧ Below w.heap.size w wr) (fun _ i _ => l.length - (intOf i).toNat)
  case atStart => exact ⟨0, by omega, rfl, World.ownsRow_nil _ _ _ _, Below.refl _ _⟩
  case round =>
    obtain ⟨i, hi, rfl, hown, bel⟩ := hrel
    have HOWN := Lib.hid hown
    have BE := Lib.hid bel
    clear hown bel
    have j0 : (0 : Int) ≤ (i : Int) := Int.natCast_nonneg _
    by_cases hlt : i < l.length
    · obtain ⟨d, b, off, hd, rfl, hbl, _, d0, d1, d2, d3, d4⟩ := SL.out.atG BE.out hlt
      have j1 : (i : Int) < (l.length : Int) := by omega
      have HD := Lib.hid (take_snocG hd)
      clear hd
      go_wp2_with fail
      refine (gto_any d.s d.o d.p d.m d.u _).mono ?_
      rintro e w1 ⟨rfl, hb⟩
      have B1 := Lib.hid (belowTo (BE.out.alloc BE.out.size _) hb (by have := BE.out.size; simp; omega))
      have H1 := Lib.hid (ownsRow_belowD (HOWN.out.alloc _) hb)
      clear hb
      go_wp2_with (at_builtin; refine wpList_append_own _ rfl _ _ 83 rfl w.heap.size 73 i0 _ 5 40 (by kernel_rfl) IF.out.1 IF.out.2.1 IF.out.2.2.1 IF.out.2.2.2 rfl (by decide) _ i (flatT grL (l.take i)) rfl (H1.out.alloc _) ⟨w1.heap.size, 0, none⟩ 1 1 (grL.f d) rfl rfl (newsT (L := grL) w1 d 73) (grL.one _) ?qc4 ?qc5 ?qc6 ?_)
      case qc4 => unfold maxLen; omega
      case qc5 => omega
      case qc6 => have := B1.out.size; simp; omega
      intro v2 w2 hown hgrow hnil
      have B2 := Lib.hid ((B1.out.alloc B1.out.size _).grown hgrow (by have := B1.out.size; simp; omega) (fun k hk => (H1.out.lt k hk).1))
      have H2 := Lib.hid hown
      clear hown hgrow hnil
      go_wp2_with fail
      go_roundw
      case rel => exact ⟨i + 1, by omega, by go_num, by have := H2.out; rw [HD.out, flatT_append, flatT_one]; exact this, B2.out⟩
      case measure => simp [intOf]; omega
    · obtain rfl : i = l.length := by omega
      go_wp2_with fail
      go_ret
      exact ⟨_, rfl, by have := HOWN.out; rw [List.take_length] at this; exact slt_of_own (L := grL) this, BE.out⟩

set_option linter.unusedSimpArgs false in
set_option linter.unusedVariables false in
set_option maxRecDepth 100000 in
set_option maxHeartbeats 2000000 in
theorem aent_any (v : Value) (l : List Ak) (w : World) (sl : SlA w v l) (h100 : l.length ≤ 100) : Calls Try.prog 45 #[v, .func (.func 46) #[] #[]] w fun e w' => RetA w l e w' := by
  obtain ⟨p, cap, e0, hlc, hcm, hpn⟩ := sl.form l.length rfl
  subst e0
  have SL := Lib.hid sl
  unfold maxLen at hcm
  clear hpn sl
  obtain ⟨i0, hi, hz, hs0, hb0⟩ := info_parts info_aP
  have IF := Lib.hid (And.intro hi (And.intro hz (And.intro hs0 hb0)))
  clear hi hz hs0 hb0
  go_enter Try.func45, Try.ntmps45
  go_wp2_with fail
  go_loopw [5, 10] (fun out ii wr => ∃ (i : Nat), i ≤ l.length ∧ ii = .int .i64 i ∧ wr.ownsRow w.heap.size 86 3 out i (flatT akL (l.take i)) ∧ Below w.heap.size w wr) (fun _ i _ => l.length - (intOf i).toNat)
  case atStart => exact ⟨0, by omega, rfl, World.ownsRow_nil _ _ _ _, Below.refl _ _⟩
  case round =>
    obtain ⟨i, hi, rfl, hown, bel⟩ := hrel
    have HOWN := Lib.hid hown
    have BE := Lib.hid bel
    clear hown bel
    have j0 : (0 : Int) ≤ (i : Int) := Int.natCast_nonneg _
    by_cases hlt : i < l.length
    · obtain ⟨d, b, off, hd, rfl, hbl, _, d0, d1, d2⟩ := SL.out.atA BE.out hlt
      have j1 : (i : Int) < (l.length : Int) := by omega
      have HD := Lib.hid (take_snocG hd)
      clear hd
      go_wp2_with fail
      refine (ato_any d.s d.o d.p _).mono ?_
      rintro e w1 ⟨rfl, hb⟩
      have B1 := Lib.hid (belowTo (BE.out.alloc BE.out.size _) hb (by have := BE.out.size; simp; omega))
      have H1 := Lib.hid (ownsRow_belowD (HOWN.out.alloc _) hb)
      clear hb
      go_wp2_with (at_builtin; refine wpList_append_own _ rfl _ _ 87 rfl w.heap.size 86 i0 _ 3 24 (by kernel_rfl) IF.out.1 IF.out.2.1 IF.out.2.2.1 IF.out.2.2.2 rfl (by decide) _ i (flatT akL (l.take i)) rfl (H1.out.alloc _) ⟨w1.heap.size, 0, none⟩ 1 1 (akL.f d) rfl rfl (newsT (L := akL) w1 d 86) (akL.one _) ?qc4 ?qc5 ?qc6 ?_)
      case qc4 => unfold maxLen; omega
      case qc5 => omega
      case qc6 => have := B1.out.size; simp; omega
      intro v2 w2 hown hgrow hnil
      have B2 := Lib.hid ((B1.out.alloc B1.out.size _).grown hgrow (by have := B1.out.size; simp; omega) (fun k hk => (H1.out.lt k hk).1))
      have H2 := Lib.hid hown
      clear hown hgrow hnil
      go_wp2_with fail
      go_roundw
      case rel => exact ⟨i + 1, by omega, by go_num, by have := H2.out; rw [HD.out, flatT_append, flatT_one]; exact this, B2.out⟩
      case measure => simp [intOf]; omega
    · obtain rfl : i = l.length := by omega
      go_wp2_with fail
      go_ret
      exact ⟨_, rfl, by have := HOWN.out; rw [List.take_length] at this; exact slt_of_own (L := akL) this, BE.out⟩

end Go.Proofs.Ytdmadnoijhmbcaa

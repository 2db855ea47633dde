/- Contracts of chapter 21: R.Tell, DeleteFunc, Expire, Tell. -/
import Derived.Test.YtheifmdaladfdaaMake21
import Derived.Deep.RegionHeld3
import Derived.Deep.RegionLawGrows
import Derived.Deep.AppendLies
namespace Go.Proofs.Ytheifmdaladfdaa
open Go.RowKit

set_option linter.unusedVariables false in
set_option maxRecDepth 100000 in
set_option maxHeartbeats 2000000 in
theorem rtel_bad (v : Value) (ls : List Dn) (w : World) (sl : SlD w v ls) (h70 : ls.length ≤ 70) (hv : vldD ls = false) :
    Calls Try.prog 20 #[v] w fun e w' => SlP w (telL ls) e w' := by
  obtain ⟨p, cap, e, hlc, hcm, hpn⟩ := sl.form ls.length rfl
  subst e
  have SL := Lib.hid sl
  unfold maxLen at hcm
  clear hpn
  have HV := Lib.hid hv
  clear hv
  go_enter Try.func20, Try.ntmps20
  go_wp2_with (first | (go_at_call 21; refine (rdvalid_lit _ ls false _ SL.out HV.out).mono ?_; rintro e w1 ⟨rfl, hb2⟩; have B1 := Lib.hid hb2; clear hb2))
  go_ret
  exact ⟨_, rfl, by rw [telL, HV.out, if_neg (by simp)]; exact slt_nil _, B1.out⟩

set_option linter.unusedVariables false in
set_option maxRecDepth 100000 in
set_option maxHeartbeats 2000000 in
theorem rtel_good (v : Value) (ls : List Dn) (w : World) (sl : SlD w v ls) (h70 : ls.length ≤ 70) (hv : vldD ls = true) :
    Calls Try.prog 20 #[v] w fun e w' => SlP w (telL ls) e w' := by
  obtain ⟨p, cap, e, hlc, hcm, hpn⟩ := sl.form ls.length rfl
  subst e
  have SL := Lib.hid sl
  unfold maxLen at hcm
  clear hpn
  have HV := Lib.hid hv
  clear hv
  obtain ⟨i0, hi, hz, hs0, hb0⟩ := info_parts info_dn
  have IF := Lib.hid (And.intro hi (And.intro hz (And.intro hs0 hb0)))
  clear hi hz hs0 hb0
  go_enter Try.func20, Try.ntmps20
  go_wp2_with (first | (go_at_call 21; refine (rdvalid_lit _ ls true _ SL.out HV.out).mono ?_; rintro e w1 ⟨rfl, hb2⟩; have B1 := Lib.hid hb2; clear hb2))
  go_loopw [3, 4] (fun out ii wr => ∃ (i : Nat), i ≤ ls.length ∧ ii = .int .i64 i ∧ wr.ownsRow w1.heap.size 35 4 out ((ls.take i).map telD).length (flatT dnL ((ls.take i).map telD)) ∧ Below w1.heap.size w1 wr) (fun _ i _ => ls.length - (intOf i).toNat)
  case atStart => exact ⟨0, by omega, rfl, World.ownsRow_nil _ _ _ _, Below.refl _ _⟩
  case round =>
    obtain ⟨i, hi, rfl, hown, bel⟩ := hrel
    have HOWN := Lib.hid hown
    have BE := Lib.hid bel
    have hwz := bel.size
    have BT := Lib.hid (B1.out.trans (bel.mono B1.out.size))
    clear hown bel
    by_cases hlt : i < ls.length
    · obtain ⟨d, b, off, hd, rfl, hbl, hb0, d0, d1, d2, d3⟩ := SL.out.at4 BT.out hlt
      have j0 : (0 : Int) ≤ (i : Int) := Int.natCast_nonneg _
      have j1 : (i : Int) < (ls.length : Int) := by omega
      have HD := Lib.hid hd
      have HLEN := Lib.hid (show ((ls.take i).map telD).length = i by simp; omega)
      have HTK := Lib.hid (show (ls.take (i + 1)).map telD = (ls.take i).map telD ++ [telD d] by rw [List.take_succ_eq_append_getElem hlt, show ls[i] = d from (List.getElem?_eq_some_iff.1 hd).2]; simp)
      clear hd
      obtain ⟨qs, hqs⟩ : ∃ qs, (ls.take i).map telD = qs := ⟨_, rfl⟩
      rw [hqs] at HOWN HLEN HTK
      clear hqs
      have hq70 : qs.length ≤ 70 := by have := HLEN.out; omega
      go_wp2_with fail
      have dt : wr.drew.cell? ⟨b, off + i * 4, none⟩ = some (.int .i64 d.t) := d0
      have ds : wr.drew.cell? ⟨b, off + i * 4 + 2, none⟩ = some (.int .i64 d.s) := d2
      have hbw : b < w1.heap.size := Nat.lt_of_lt_of_le hb0 B1.out.size
      have hbz : b < wr.drew.heap.size := hbl
      go_region_held3 (fun w' => w'.cell? ⟨b, off + i * 4, none⟩ = some (.int .i64 d.t) ∧ w'.cell? ⟨b, off + i * 4 + 2, none⟩ = some (.int .i64 d.s))
        (first | go_keep | (go_split_ands; refine ⟨?_, ?_⟩ <;> (rw [hgrow.cell_far _ (by simp; omega) (by intro h; have h2 : w1.heap.size ≤ b := (HOWN.out.lt _ h.symm).1; omega)]; assumption)))
        ((refine step_append_lies _ (by rfl) _ _ _ (by rfl) w1.heap.size 35 i0 _ 4 32 (by kernel_rfl) IF.out.1 IF.out.2.1 IF.out.2.2.1 IF.out.2.2.2 rfl (by decide) _ qs.length (flatT dnL qs) (by rfl) ((HOWN.out.alloc _).drew) ⟨wr.heap.size, 0, none⟩ 1 1 (dnL.f (telD d)) (by rfl) (by rfl) (World.news_of_block (cs := (dnL.f (telD d)).toArray) (t := 35) (fr := (0, 0)) (heap_alloc_new wr _)) (dnL.one _) (by decide) (by unfold maxLen; omega) (by omega) (by simp; omega) (wr.heap.size + 1) (by simp) ?_; intro g gcap w2 hown1 hgrow hat hglt; have B2 := Lib.hid (((BE.out.alloc BE.out.size (.cells (dnL.f (telD d)).toArray 35)).drew).grown hgrow (by simp; omega) (fun k hk => (HOWN.out.lt k hk).1)); have H2 := Lib.hid hown1))
      all_goals (clear hown1 hat)
      go_wp2_with fail
      go_roundw
      case rel => exact ⟨i + 1, by omega, by go_num, by have := H2.out; rw [HTK.out, flatT_append, flatT_one, List.length_append]; simpa using this, B2.out⟩
      case measure => simp [intOf]; omega
    · have HE := Lib.hid (show (ls.take i).map telD = telL ls by rw [telL, if_pos HV.out, List.take_of_length_le (by omega)])
      rw [HE.out] at HOWN
      go_wp2_with fail
      go_ret
      exact ⟨_, rfl, slt_of_own (L := dnL) HOWN.out, BT.out⟩

end Go.Proofs.Ytheifmdaladfdaa

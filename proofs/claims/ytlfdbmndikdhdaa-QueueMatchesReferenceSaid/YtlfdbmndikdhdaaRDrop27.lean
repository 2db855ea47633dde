/- Contracts of the reference's Drop and Put. -/
import Derived.Test.YtlfdbmndikdhdaaHead27
import Derived.Test.YtlfdbmndikdhdaaPlain27b
import Derived.WalkKit
import Derived.Laws.AppendOwn
namespace Go.Proofs.Ytlfdbmndikdhdaa
open Go.RowKit

theorem take_filt {f : Rd → Bool} {rs : List Rd} {i : Nat} {x : Rd} (h : rs[i]? = some x) : (rs.take (i + 1)).filter f = (rs.take i).filter f ++ if f x then [x] else [] := by
  have hi : i < rs.length := (List.getElem?_eq_some_iff.1 h).1
  rw [List.take_succ_eq_append_getElem hi, List.filter_append, show rs[i] = x from (List.getElem?_eq_some_iff.1 h).2]
  cases e : f x
  · rw [List.filter_cons_of_neg (by simp [e])]; rfl
  · rw [List.filter_cons_of_pos (by simp [e])]; rfl
theorem news_new (w : World) (r : Rd) (t : TypeId) : ∀ j u, r.cells[j]? = some u → (w.alloc (.cells r.cells.toArray t)).cell? ((⟨w.heap.size, 0, none⟩ : Addr).add j) = some u := fun j u h => by
  rw [Go.WideShapes.add_plain, Nat.zero_add]
  exact cell_alloc_cells w _ t j u (by simpa using h)
theorem cells_one (r : Rd) : ∀ u ∈ r.cells, u.oneCell' = true := fun u hu => flat_one_cell (rs := [r]) u (by rw [flat_one]; exact hu)

set_option linter.unusedVariables false in
set_option maxRecDepth 100000 in
set_option maxHeartbeats 2000000 in
theorem rdrop_bad (v : Value) (rs : List Rd) (o n : Int) (w : World) (sl : SlR w v rs) (hv : vdB rs = false) :
    Calls Try.prog 17 #[.agg #[v], .int .i64 o, .int .i64 n] w fun e w' => SPost w (dropL rs o n) e w' := by
  obtain ⟨p, cap, rfl, hlc, hcm, parts⟩ := sl
  have SL0 := Lib.hid (show SlR w (.slice p rs.length cap) rs from ⟨p, cap, rfl, hlc, hcm, parts⟩)
  unfold maxLen at hcm
  clear parts
  have HV := Lib.hid hv
  clear hv
  go_enter Try.func17, Try.ntmps17
  have SL := Lib.hid ((SL0.out.below (belowNew _ (.cells #[.slice p rs.length cap] 24))).below (belowNew _ (.cells #[.slice none 0 0] 24)))
  go_wp2_with fail
  refine (rqvalid_lit (.slice p rs.length cap) rs false _ SL.out HV.out).mono ?_
  rintro e w1 ⟨rfl, hb⟩
  have oQ : Own w1 w.heap.size [.slice p rs.length cap] 24 := ((own_at _ _ rfl).alloc _).below hb
  have oF : Own w1 (w.heap.size + 1) [.slice none 0 0] 24 := (own_at _ _ (by simp)).below hb
  have bel := belowTo (((Below.refl w.heap.size w).alloc (by simp) _).alloc (by simp) _) hb (by simp; omega)
  clear hb
  obtain ⟨cQ0, fQ, zQ⟩ := own1 oQ
  obtain ⟨cF0, fF, zF⟩ := own1 oF
  clear SL
  have SL := Lib.hid (SL0.out.below bel)
  go_wp2
  refine bodyPost_ret (v := .agg #[.slice none 0 0]) (by simp [results, Try.results17, go_sem, *]) rfl ⟨_, rfl, ?_, nil_nil, ?_⟩
  · rw [dropL, HV.out, if_neg (by simp)]; exact slr_nil _
  · exact belowSet bel _ _ _ (by omega)

set_option linter.unusedVariables false in
set_option maxRecDepth 100000 in
set_option maxHeartbeats 2000000 in
theorem rdrop_good (v : Value) (rs : List Rd) (o n : Int) (w : World) (sl : SlR w v rs) (hv : vdB rs = true) :
    Calls Try.prog 17 #[.agg #[v], .int .i64 o, .int .i64 n] w fun e w' => SPost w (dropL rs o n) e w' := by
  obtain ⟨p, cap, rfl, hlc, hcm, parts⟩ := sl
  have SL0 := Lib.hid (show SlR w (.slice p rs.length cap) rs from ⟨p, cap, rfl, hlc, hcm, parts⟩)
  unfold maxLen at hcm
  clear parts
  have HV := Lib.hid hv
  clear hv
  go_enter Try.func17, Try.ntmps17
  have SL := Lib.hid ((SL0.out.below (belowNew _ (.cells #[.slice p rs.length cap] 24))).below (belowNew _ (.cells #[.slice none 0 0] 24)))
  go_wp2_with fail
  refine (rqvalid_lit (.slice p rs.length cap) rs true _ SL.out HV.out).mono ?_
  rintro e w1 ⟨rfl, hb⟩
  have oQ : Own w1 w.heap.size [.slice p rs.length cap] 24 := ((own_at _ _ rfl).alloc _).below hb
  have oF : Own w1 (w.heap.size + 1) [.slice none 0 0] 24 := (own_at _ _ (by simp)).below hb
  have bel := belowTo (((Below.refl w.heap.size w).alloc (by simp) _).alloc (by simp) _) hb (by simp; omega)
  clear hb
  obtain ⟨cQ0, fQ, zQ⟩ := own1 oQ
  obtain ⟨cF0, fF, zF⟩ := own1 oF
  clear SL
  have SL := Lib.hid (SL0.out.below bel)
  have OQ := Lib.hid oQ
  have OF := Lib.hid oF
  have B1 := Lib.hid bel
  obtain ⟨i0, hi, hz, hs0, hb0⟩ := info_parts info_rd
  have IF := Lib.hid (And.intro hi (And.intro hz (And.intro hs0 hb0)))
  clear hi hz hs0 hb0
  have hr16 : rs.length ≤ 16 := vd_len HV.out
  go_wp2
  go_loopw [7, 8] (fun out ii wr => ∃ (i : Nat) (qs : List Rd), i ≤ rs.length ∧ ii = .int .i64 i ∧ qs = (rs.take i).filter (fun x => !isB o n x) ∧ wr.ownsRow w1.heap.size 26 5 out qs.length (flat qs) ∧ Below w1.heap.size w1 wr) (fun _ i _ => rs.length - (intOf i).toNat)
  case atStart => exact ⟨0, [], by omega, rfl, by simp, World.ownsRow_nil _ _ _ _, Below.refl _ _⟩
  case round =>
    clear bel oQ oF cQ0 fQ zQ cF0 fF zF
    obtain ⟨i, qs, hi, rfl, hq, hown, bel⟩ := hrel
    have HQ := Lib.hid hq
    have hq16 : qs.length ≤ 16 := by have h1 := List.length_filter_le (fun x => !isB o n x) (rs.take i); have h2 := List.length_take_le' i rs; rw [← hq] at h1; omega
    have HOWN := Lib.hid hown
    have BE := Lib.hid bel
    have hwz := bel.size
    have oQ := OQ.out.below bel
    have oF := OF.out.below bel
    obtain ⟨p1, cap1, e1, hlc1, hcm1, parts⟩ := SL.out.below bel
    cases e1
    clear hq hown bel
    obtain ⟨cQ0, fQ, zQ⟩ := own1 oQ
    obtain ⟨cF0, fF, zF⟩ := own1 oF
    by_cases hlt : i < rs.length
    · obtain ⟨x, b, off, hx, rfl, hbl, d0, d1, d2, d3, d4⟩ := SlR.at parts (Below.refl _ _) hlt
      have j0 : (0 : Int) ≤ (i : Int) := Int.natCast_nonneg _
      have j1 : (i : Int) < (rs.length : Int) := by omega
      have HX := Lib.hid hx
      clear parts hx
      cases hb : isB o n x with
      | true =>
        have q1 : (x.o != o) = false := by rw [isB_iff] at hb; simp [hb.1]
        have q2 : (x.n != n) = false := by rw [isB_iff] at hb; simp [hb.2]
        have HB := Lib.hid hb
        clear hb
        go_wp2
        go_roundw
        case rel => exact ⟨i + 1, qs, by omega, by go_num, by rw [take_filt HX.out, HB.out]; simp [HQ.out], HOWN.out, BE.out⟩
        case measure => simp [intOf]; omega
      | false =>
        have HB := Lib.hid hb
        rw [isB_false] at hb
        by_cases q : x.o = o
        · have q1 : (x.o != o) = false := by simp [q]
          have q2 : (x.n != n) = true := by simp; exact fun h => hb ⟨q, h⟩
          clear hb q
          go_wp2_with (at_builtin; refine wpList_append_own _ rfl _ _ 22 rfl w1.heap.size 26 i0 _ 5 40 (by kernel_rfl) IF.out.1 IF.out.2.1 IF.out.2.2.1 IF.out.2.2.2 rfl (by decide) _ qs.length (flat qs) rfl (HOWN.out.alloc _) ⟨wr.heap.size, 0, none⟩ 1 1 x.cells rfl rfl (news_new wr x 26) (cells_one x) ?qc4 ?qc5 ?qc6 ?_)
          case qc4 => unfold maxLen; omega
          case qc5 => omega
          case qc6 => simp; omega
          intro v2 w2 hown hgrow hnil
          have B2 := Lib.hid ((BE.out.alloc BE.out.size (.cells x.cells.toArray 26)).grown hgrow (by simp; omega) (fun k hk => (HOWN.out.lt k hk).1))
          have H2 := Lib.hid hown
          clear hown hgrow hnil
          go_wp2_with fail
          go_roundw
          case rel => exact ⟨i + 1, qs ++ [x], by omega, by go_num, by rw [take_filt HX.out, HB.out]; simp [HQ.out], by have := H2.out; rw [flat_append, flat_one]; simpa using this, B2.out⟩
          case measure => simp [intOf]; omega
        · have q1 : (x.o != o) = true := by simp [q]
          clear hb q
          go_wp2_with (at_builtin; refine wpList_append_own _ rfl _ _ 22 rfl w1.heap.size 26 i0 _ 5 40 (by kernel_rfl) IF.out.1 IF.out.2.1 IF.out.2.2.1 IF.out.2.2.2 rfl (by decide) _ qs.length (flat qs) rfl (HOWN.out.alloc _) ⟨wr.heap.size, 0, none⟩ 1 1 x.cells rfl rfl (news_new wr x 26) (cells_one x) ?qc4 ?qc5 ?qc6 ?_)
          case qc4 => unfold maxLen; omega
          case qc5 => omega
          case qc6 => simp; omega
          intro v2 w2 hown hgrow hnil
          have B2 := Lib.hid ((BE.out.alloc BE.out.size (.cells x.cells.toArray 26)).grown hgrow (by simp; omega) (fun k hk => (HOWN.out.lt k hk).1))
          have H2 := Lib.hid hown
          clear hown hgrow hnil
          go_wp2_with fail
          go_roundw
          case rel => exact ⟨i + 1, qs ++ [x], by omega, by go_num, by rw [take_filt HX.out, HB.out]; simp [HQ.out], by have := H2.out; rw [flat_append, flat_one]; simpa using this, B2.out⟩
          case measure => simp [intOf]; omega
    · have hql : qs = dropL rs o n := by have h := HQ.out; rw [List.take_of_length_le (by omega), ← drop_filter HV.out] at h; exact h
      clear parts
      have HQL := Lib.hid hql
      clear hql
      obtain ⟨sl', nk'⟩ := slr_of_own rfl HOWN.out
      obtain ⟨pq, capq, rfl⟩ := slr_form _ sl' rfl
      clear sl' nk'
      go_wp2
      refine bodyPost_ret (v := .agg #[.slice pq qs.length capq]) (by simp [results, Try.results17, go_sem, *]) rfl ?_
      rw [← HQL.out]
      exact spost_any rfl HOWN.out (by have := B1.out.size; have := OF.out.lt; omega) (B1.out.trans (BE.out.mono B1.out.size)) (by omega)

end Go.Proofs.Ytlfdbmndikdhdaa

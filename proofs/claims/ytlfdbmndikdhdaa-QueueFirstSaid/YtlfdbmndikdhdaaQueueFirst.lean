/- QueueFirst: the walk of the law. It returns true for every input, and leaves old memory alone. -/
import Derived.Test.YtlfdbmndikdhdaaHead27
import Derived.Test.YtlfdbmndikdhdaaPlain27b
import Derived.Test.YtlfdbmndikdhdaaFlat
import Derived.WalkKit
import Derived.Deep.RegionLawGrows
namespace Go.Proofs.Ytlfdbmndikdhdaa
open Go.RowKit

/-- A step: a reading is put, or the first one is dropped. -/
structure Ac where
  d : Bool
  r : Rd
def Ac.cells (a : Ac) : List Value := [.bool a.d, .int .i64 a.r.o, .int .i64 a.r.n, .int .i64 a.r.k, .int .i64 a.r.v, .int .i64 a.r.a]
theorem own6a {w : World} {b : Nat} {t : TypeId} {x0 x1 x2 x3 x4 x5 : Value} (h : Own w b [x0, x1, x2, x3, x4, x5] t) : w.cell? ⟨b, 0, none⟩ = some x0 ∧ w.cell? ⟨b, 1, none⟩ = some x1 ∧ w.cell? ⟨b, 2, none⟩ = some x2 ∧ w.cell? ⟨b, 3, none⟩ = some x3 ∧ w.cell? ⟨b, 4, none⟩ = some x4 ∧ w.cell? ⟨b, 5, none⟩ = some x5 ∧ (∀ o, w.frozen? ⟨b, o, none⟩ = false) ∧ b < w.heap.size := ⟨h.cell rfl, h.cell rfl, h.cell rfl, h.cell rfl, h.cell rfl, h.cell rfl, h.frozen, h.lt⟩
theorem fsame_lit (u v : Value) (rs ss : List Rd) (x : Bool) (w : World) (sl : SlR w u rs) (sm : SlR w v ss) (h : sameFrom rs ss = x) :
    Calls Try.prog 15 #[.agg #[u], .agg #[v]] w fun e w' => e = .returned (.bool x) ∧ Below w.heap.size w w' := by
  have := same_any u v rs ss w sl sm
  rwa [h] at this

theorem drop_one {qs : List Rd} {x : Rd} (hv : vdB qs = true) (hx : qs[0]? = some x) : dropL qs x.o x.n = qs.drop 1 := by
  cases qs with
  | nil => simp at hx
  | cons y l =>
    obtain rfl : y = x := by simpa using hx
    rw [drop_head hv]; rfl

set_option linter.unusedVariables false in
set_option maxRecDepth 100000 in
set_option maxHeartbeats 2000000 in
theorem qf_long (v : Value) (acts : List Ac) (me : Int) (w : World) (sl : SlV w v 6 (acts.map Ac.cells)) (hl : 100 < acts.length) :
    Calls Try.prog 4 #[v, .int .i64 me] w fun e w' => e = .returned (.bool true) ∧ Below w.heap.size w w' := by
  obtain ⟨p, cap, rfl, hlc, hcm, _, parts⟩ := sl
  simp only [List.length_map] at *
  unfold maxLen at hcm
  have hl2 : (100 : Int) < (acts.length : Int) := by omega
  have PA := Lib.hid parts
  clear parts
  go_enter Try.func4, Try.ntmps4
  go_wp2_with fail
  refine (head_true _).mono ?_
  rintro e w1 ⟨rfl, hb⟩
  have bel := belowTo (Below.refl w.heap.size w) hb (by simp)
  clear hb
  go_wp2
  all_goals (go_ret; exact ⟨ret_bool (by simp <;> omega), bel⟩)

set_option linter.unusedVariables false in
set_option maxRecDepth 100000 in
set_option maxHeartbeats 2000000 in
theorem qf_main (v : Value) (acts : List Ac) (me : Int) (w : World) (sl : SlV w v 6 (acts.map Ac.cells)) (hl : acts.length ≤ 100) :
    Calls Try.prog 4 #[v, .int .i64 me] w fun e w' => e = .returned (.bool true) ∧ Below w.heap.size w w' := by
  obtain ⟨p, cap, rfl, hlc, hcm, _, parts⟩ := sl
  simp only [List.length_map] at *
  unfold maxLen at hcm
  have hl2 : (acts.length : Int) ≤ 100 := by omega
  have PA := Lib.hid parts
  clear parts
  go_enter Try.func4, Try.ntmps4
  go_wp2_with fail
  refine (head_true _).mono ?_
  rintro e w1 ⟨rfl, hb⟩
  have bel := belowTo (Below.refl w.heap.size w) hb (by simp)
  clear hb
  have B1 := Lib.hid bel
  go_wp2
  go_loopw [7, 21] (fun u ii wr => ∃ (i : Nat) (qs : List Rd) (uq : Value), i ≤ acts.length ∧ ii = .int .i64 i ∧ vdB qs = true ∧ SlR wr u qs ∧ NilOk u ∧ SlR wr uq qs ∧ Own wr w1.heap.size [uq] 24 ∧ Below w.heap.size w wr) (fun _ i _ => acts.length - (intOf i).toNat)
  case atStart => exact ⟨0, [], _, by omega, rfl, rfl, slr_nil _, nil_nil, slr_nil _, own_at _ _ rfl, bel.alloc bel.size _⟩
  case round =>
    clear bel
    obtain ⟨i, qs, uq, hi, rfl, hv, su, nu, sq, oQ, bel⟩ := hrel
    have HV := Lib.hid hv
    have SU := Lib.hid su
    have SQ := Lib.hid sq
    have NU := Lib.hid nu
    have hq16 := vd_len hv
    have HW1 := Lib.hid B1.out.size
    clear hv nu
    obtain ⟨pu, capu, e1, hlu, hmu, partsu⟩ := su
    obtain ⟨pq, capq, e2, hlq, hmq, _⟩ := sq
    subst e1 e2
    unfold maxLen at hmu hmq
    obtain ⟨cQ0, fQ, zQ⟩ := own1 oQ
    have hqz : w1.heap.size < wr.heap.size := zQ
    by_cases hlt : i < acts.length
    · obtain ⟨a, ha⟩ : ∃ a, acts[i]? = some a := ⟨_, List.getElem?_eq_getElem hlt⟩
      obtain ⟨b, off, rfl, hbl0, hc0⟩ := PA.out i a.cells (by rw [List.getElem?_map, ha]; rfl)
      have hbl : b < wr.heap.size := Nat.lt_of_lt_of_le hbl0 bel.size
      have hcc : ∀ j x, a.cells[j]? = some x → wr.cell? ⟨b, off + i * 6 + j, none⟩ = some x := fun j x hx => by rw [← hc0 j x hx]; exact bel.cell (p := ⟨b, off + i * 6 + j, none⟩) hbl0
      have d0 : wr.cell? ⟨b, off + i * 6, none⟩ = some (.bool a.d) := hcc 0 _ rfl
      have d1 : wr.cell? ⟨b, off + i * 6 + 1, none⟩ = some (.int .i64 a.r.o) := hcc 1 _ rfl
      have d2 : wr.cell? ⟨b, off + i * 6 + 2, none⟩ = some (.int .i64 a.r.n) := hcc 2 _ rfl
      have d3 : wr.cell? ⟨b, off + i * 6 + 3, none⟩ = some (.int .i64 a.r.k) := hcc 3 _ rfl
      have d4 : wr.cell? ⟨b, off + i * 6 + 4, none⟩ = some (.int .i64 a.r.v) := hcc 4 _ rfl
      have d5 : wr.cell? ⟨b, off + i * 6 + 5, none⟩ = some (.int .i64 a.r.a) := hcc 5 _ rfl
      have j0 : (0 : Int) ≤ (i : Int) := Int.natCast_nonneg _
      have j1 : (i : Int) < (acts.length : Int) := by omega
      clear hcc hc0 ha partsu
      by_cases hn : qs.length = 0
      · have HL0 := Lib.hid hn
        have k1 : decide (0 < qs.length) = false := by simp [hn]
        clear hn
        go_wp2_with fail
        refine (head_none (.slice pq qs.length capq) qs _ (SQ.out.below (belowNew _ _)) HV.out HL0.out).mono ?_
        rintro e w5 ⟨rfl, hb⟩
        replace oQ := (oQ.alloc _).below hb
        replace SU := Lib.hid ((SU.out.below (belowNew _ _)).below hb)
        replace SQ := Lib.hid ((SQ.out.below (belowNew _ _)).below hb)
        have oA : Own w5 wr.heap.size [.bool a.d, .int .i64 a.r.o, .int .i64 a.r.n, .int .i64 a.r.k, .int .i64 a.r.v, .int .i64 a.r.a] 39 := (own_at _ _ rfl).below hb
        replace bel := belowTo (bel.alloc (by have := bel.size; simp; omega) _) hb (by have := bel.size; simp; omega)
        clear hb
        clear cQ0 fQ zQ
        obtain ⟨cQ0, fQ, zQ⟩ := own1 oQ
        obtain ⟨cA0, cA1, cA2, cA3, cA4, cA5, fA, zA⟩ := own6a oA
        go_wp2_with fail
        have oX : Own (w5.alloc (Obj.cells #[.int .i64 0, .int .i64 0, .int .i64 0, .int .i64 0, .int .i64 0] 26)) w5.heap.size [.int .i64 0, .int .i64 0, .int .i64 0, .int .i64 0, .int .i64 0] 26 := own_at _ _ rfl
        have ltXQ : w1.heap.size < w5.heap.size := zQ
        have ltXA : wr.heap.size < w5.heap.size := zA
        replace oQ := oQ.alloc (Obj.cells #[.int .i64 0, .int .i64 0, .int .i64 0, .int .i64 0, .int .i64 0] 26)
        replace oA := oA.alloc (Obj.cells #[.int .i64 0, .int .i64 0, .int .i64 0, .int .i64 0, .int .i64 0] 26)
        replace SU := Lib.hid (SU.out.below (belowNew w5 (Obj.cells #[.int .i64 0, .int .i64 0, .int .i64 0, .int .i64 0, .int .i64 0] 26)))
        replace SQ := Lib.hid (SQ.out.below (belowNew w5 (Obj.cells #[.int .i64 0, .int .i64 0, .int .i64 0, .int .i64 0, .int .i64 0] 26)))
        replace bel := bel.alloc bel.size (Obj.cells #[.int .i64 0, .int .i64 0, .int .i64 0, .int .i64 0, .int .i64 0] 26)
        clear cQ0 fQ zQ cA0 cA1 cA2 cA3 cA4 cA5 fA zA
        generalize w5.alloc (Obj.cells #[.int .i64 0, .int .i64 0, .int .i64 0, .int .i64 0, .int .i64 0] 26) = w6 at oQ oA oX SU SQ bel ⊢
        obtain ⟨cQ0, fQ, zQ⟩ := own1 oQ
        obtain ⟨cA0, cA1, cA2, cA3, cA4, cA5, fA, zA⟩ := own6a oA
        obtain ⟨cX0, cX1, cX2, cX3, cX4, fX, zX⟩ := own5r oX
        go_quiet (fail)
        rename_i nq
        replace oQ := oQ.drewN nq
        replace oA := oA.drewN nq
        replace oX := oX.drewN nq
        replace SU := Lib.hid (SU.out.below (belowN (n := nq) (Below.refl _ _)))
        replace SQ := Lib.hid (SQ.out.below (belowN (n := nq) (Below.refl _ _)))
        replace bel := belowN (n := nq) bel
        clear cQ0 fQ zQ cA0 cA1 cA2 cA3 cA4 cA5 fA zA cX0 cX1 cX2 cX3 cX4 fX zX
        generalize w6.drewN nq = w8 at oQ oA oX SU SQ bel ⊢
        obtain ⟨cQ0, fQ, zQ⟩ := own1 oQ
        obtain ⟨cA0, cA1, cA2, cA3, cA4, cA5, fA, zA⟩ := own6a oA
        obtain ⟨cX0, cX1, cX2, cX3, cX4, fX, zX⟩ := own5r oX
        cases hd : a.d with
        | true =>
          rw [hd] at cA0 oA
          go_wp2_with fail
          go_roundw
          case rel => exact ⟨i + 1, qs, _, by omega, by go_num, HV.out, SU.out, NU.out, SQ.out, oQ, bel⟩
          case measure => simp [intOf]; omega
        | false =>
          rw [hd] at cA0 oA
          by_cases hE : putE qs a.r me = 0
          · have HE := Lib.hid (show putE qs a.r me = 0 ∧ putL qs a.r me = qs ++ [a.r] from ⟨hE, by rw [putL, if_pos hE]⟩)
            have HP := Lib.hid (vd_put hE)
            clear hE
            go_wp2_with fail
            refine (put_lit (.slice pq qs.length capq) qs a.r me 0 (qs ++ [a.r]) _ SQ.out HE.out).mono ?_
            rintro e w9 ⟨vp, rfl, sP, _, hb⟩
            replace oQ := oQ.below hb
            replace oA := oA.below hb
            replace oX := oX.below hb
            replace SU := Lib.hid (SU.out.below hb)
            replace SQ := Lib.hid (SQ.out.below hb)
            replace bel := belowTo bel hb (by exact bel.size)
            clear hb
            clear cQ0 fQ zQ cA0 cA1 cA2 cA3 cA4 cA5 fA zA cX0 cX1 cX2 cX3 cX4 fX zX
            obtain ⟨cQ0, fQ, zQ⟩ := own1 oQ
            obtain ⟨cA0, cA1, cA2, cA3, cA4, cA5, fA, zA⟩ := own6a oA
            obtain ⟨cX0, cX1, cX2, cX3, cX4, fX, zX⟩ := own5r oX
            have SP := Lib.hid sP
            obtain ⟨pp, capp, rfl⟩ := slr_form (qs.length + 1) sP (by simp)
            clear sP
            go_wp2_with fail
            replace SU := Lib.hid ((slr_setq SU.out oQ (fun k i e => by cases e) (.slice pp (qs.length + 1) capp)).below (belowNew _ (Obj.cells #[.slice pp (qs.length + 1) capp] 24)))
            replace SP := Lib.hid ((slr_setq SP.out oQ (fun k i e => by cases e) (.slice pp (qs.length + 1) capp)).below (belowNew _ (Obj.cells #[.slice pp (qs.length + 1) capp] 24)))
            replace oA := (oA.other (a := ⟨w1.heap.size, 0, none⟩) (by simp; omega) (.slice pp (qs.length + 1) capp)).alloc (Obj.cells #[.slice pp (qs.length + 1) capp] 24)
            replace oQ := (oQ.set 0 (.slice pp (qs.length + 1) capp)).alloc (Obj.cells #[.slice pp (qs.length + 1) capp] 24)
            replace bel := (belowSet bel w1.heap.size 0 (.slice pp (qs.length + 1) capp) HW1.out).alloc (by have := bel.size; simp; omega) (Obj.cells #[.slice pp (qs.length + 1) capp] 24)
            clear SQ oX cQ0 fQ zQ cA0 cA1 cA2 cA3 cA4 cA5 fA zA cX0 cX1 cX2 cX3 cX4 fX zX
            generalize (w9.setCell ⟨w1.heap.size, 0, none⟩ (.slice pp (qs.length + 1) capp)).alloc (Obj.cells #[.slice pp (qs.length + 1) capp] 24) = w11 at oQ oA SU SP bel ⊢
            change Own w11 w1.heap.size [(.slice pp (qs.length + 1) capp)] 24 at oQ
            obtain ⟨cQ0, fQ, zQ⟩ := own1 oQ
            obtain ⟨cA0, cA1, cA2, cA3, cA4, cA5, fA, zA⟩ := own6a oA
            have bel8 : Below w11.heap.size w11 (w11.alloc (Obj.cells #[.int .i64 a.r.o, .int .i64 a.r.n, .int .i64 a.r.k, .int .i64 a.r.v, .int .i64 a.r.a] 26)).drew := ((Below.refl _ w11).alloc (Nat.le_refl _) _).drew
            have OL := Lib.hid ((SU.out.below bel8).olds)
            have HN := Lib.hid SU.out.none_len
            have CN := Lib.hid (cell_alloc_cells w11 #[.int .i64 a.r.o, .int .i64 a.r.n, .int .i64 a.r.k, .int .i64 a.r.v, .int .i64 a.r.a] 26)
            obtain ⟨i0, hi0, hz, hs0, hb0⟩ := info_parts info_rd
            have i1 : (0:Int) ≤ (qs.length : Int) := by omega
            have i2 : (qs.length : Int) ≤ (capu : Int) := by omega
            have OQ := Lib.hid (oQ.below bel8)
            have SPZ := Lib.hid (SP.out.below bel8)
            have BA := Lib.hid (belowTo bel bel8 bel.size)
            clear bel8 oQ oA SU SP bel
            cases pu with
            | none =>
              obtain rfl : qs = [] := HN.out rfl
              go_region_law (refine step_append_grows rfl (.tmp 72) (.tmp 75) 22 rfl 26 i0 _ 5 40 (by kernel_rfl) hi0 hz hs0 hb0 rfl (by decide) none 0 0 [] (by simp [Act.eval]) (by simp) rfl (fun b hb => by cases hb) ⟨w11.heap.size, 0, none⟩ 1 1 a.r.cells (by simp [Act.eval]) rfl (fun j u h => by rw [Go.WideShapes.add_plain, Nat.zero_add]; exact CN.out j u (by simpa [Rd.cells] using h)) (by simp [Rd.cells, Value.oneCell']) (by omega) (by unfold maxLen; omega) (by omega) ?_; intro v' w' hown hgrow; obtain ⟨g, gcap, rfl⟩ := Joins.ownsRow_form hown (by omega); have HO := Lib.hid (slr_of_own (rs := ([] : List Rd) ++ [a.r]) (by simp) (own_app (rs := ([] : List Rd)) (r := a.r) hown)); have HB := Lib.hid (belowTo BA.out (below_of_grown hgrow) BA.out.size); have OQ2 := Lib.hid (OQ.out.below (below_of_grown hgrow)); have SP2 := Lib.hid (SPZ.out.below (below_of_grown hgrow)); clear hown hgrow)
              all_goals go_wp2_with fail
              all_goals go_roundw
              all_goals (first | exact ⟨i + 1, ([] : List Rd) ++ [a.r], _, by omega, by go_num, HP.out.2.2.2.2.2.2, HO.out.1, HO.out.2, SP2.out, OQ2.out, HB.out⟩ | (simp [intOf]; omega))
            | some ad =>
              go_region_law (refine step_append_grows rfl (.tmp 72) (.tmp 75) 22 rfl 26 i0 _ 5 40 (by kernel_rfl) hi0 hz hs0 hb0 rfl (by decide) (some ad) qs.length qs.length (flat qs) (by simp [Act.eval]) (by simp) (flat_len qs) OL.out ⟨w11.heap.size, 0, none⟩ 1 1 a.r.cells (by simp [Act.eval]) rfl (fun j u h => by rw [Go.WideShapes.add_plain, Nat.zero_add]; exact CN.out j u (by simpa [Rd.cells] using h)) (by simp [Rd.cells, Value.oneCell']) (by omega) (by unfold maxLen; omega) (by omega) ?_; intro v' w' hown hgrow; obtain ⟨g, gcap, rfl⟩ := Joins.ownsRow_form hown (by omega); have HO := Lib.hid (slr_of_own (rs := qs ++ [a.r]) (by simp) (own_app (rs := qs) (r := a.r) hown)); have HB := Lib.hid (belowTo BA.out (below_of_grown hgrow) BA.out.size); have OQ2 := Lib.hid (OQ.out.below (below_of_grown hgrow)); have SP2 := Lib.hid (SPZ.out.below (below_of_grown hgrow)); clear hown hgrow)
              all_goals go_wp2_with fail
              all_goals go_roundw
              all_goals (first | exact ⟨i + 1, qs ++ [a.r], _, by omega, by go_num, HP.out.2.2.2.2.2.2, HO.out.1, HO.out.2, SP2.out, OQ2.out, HB.out⟩ | (simp [intOf]; omega))
          · obtain ⟨E, hE2⟩ : ∃ E, putE qs a.r me = E := ⟨_, rfl⟩
            obtain ⟨l, hl2⟩ : ∃ l, putL qs a.r me = l := ⟨_, rfl⟩
            have ee : (E == 0) = false := by simp; omega
            have HE := Lib.hid (And.intro hE2 hl2)
            clear hE hE2 hl2
            go_wp2_with fail
            refine (put_lit (.slice pq qs.length capq) qs a.r me E l _ SQ.out HE.out).mono ?_
            rintro e w9 ⟨vp, rfl, sP, _, hb⟩
            replace oQ := oQ.below hb
            replace oA := oA.below hb
            replace oX := oX.below hb
            replace SU := Lib.hid (SU.out.below hb)
            replace SQ := Lib.hid (SQ.out.below hb)
            replace bel := belowTo bel hb (by exact bel.size)
            clear hb
            clear cQ0 fQ zQ cA0 cA1 cA2 cA3 cA4 cA5 fA zA cX0 cX1 cX2 cX3 cX4 fX zX
            obtain ⟨cQ0, fQ, zQ⟩ := own1 oQ
            obtain ⟨cA0, cA1, cA2, cA3, cA4, cA5, fA, zA⟩ := own6a oA
            obtain ⟨cX0, cX1, cX2, cX3, cX4, fX, zX⟩ := own5r oX
            obtain ⟨pp, capp, rfl⟩ := slr_form l.length sP rfl
            clear sP
            go_wp2_with fail
            go_roundw
            case rel => exact ⟨i + 1, qs, _, by omega, by go_num, HV.out, SU.out.below (belowNew _ _), NU.out, SQ.out.below (belowNew _ _), oQ.alloc _, bel.alloc bel.size _⟩
            case measure => simp [intOf]; omega
      · have HL0 := Lib.hid (Nat.pos_of_ne_zero hn)
        have k1 : decide (0 < qs.length) = true := decide_eq_true HL0.out
        have k2 : (0 : Int) < (qs.length : Int) := by have := HL0.out; omega
        obtain ⟨x, hx⟩ : ∃ x, qs[0]? = some x := ⟨_, List.getElem?_eq_getElem HL0.out⟩
        have ne := ne_rd x x true (eqR_iff.2 rfl)
        have HX := Lib.hid hx
        clear hn hx
        go_wp2_with fail
        refine (head_yes (.slice pq qs.length capq) qs x _ (SQ.out.below (belowNew _ _)) HV.out HX.out).mono ?_
        rintro e w5 ⟨rfl, hb⟩
        replace oQ := (oQ.alloc _).below hb
        replace SU := Lib.hid ((SU.out.below (belowNew _ _)).below hb)
        replace SQ := Lib.hid ((SQ.out.below (belowNew _ _)).below hb)
        have oA : Own w5 wr.heap.size [.bool a.d, .int .i64 a.r.o, .int .i64 a.r.n, .int .i64 a.r.k, .int .i64 a.r.v, .int .i64 a.r.a] 39 := (own_at _ _ rfl).below hb
        replace bel := belowTo (bel.alloc (by have := bel.size; simp; omega) _) hb (by have := bel.size; simp; omega)
        clear hb
        clear cQ0 fQ zQ
        obtain ⟨cQ0, fQ, zQ⟩ := own1 oQ
        obtain ⟨cA0, cA1, cA2, cA3, cA4, cA5, fA, zA⟩ := own6a oA
        go_wp2_with fail
        have oX : Own (w5.alloc (Obj.cells #[.int .i64 x.o, .int .i64 x.n, .int .i64 x.k, .int .i64 x.v, .int .i64 x.a] 26)) w5.heap.size [.int .i64 x.o, .int .i64 x.n, .int .i64 x.k, .int .i64 x.v, .int .i64 x.a] 26 := own_at _ _ rfl
        have ltXQ : w1.heap.size < w5.heap.size := zQ
        have ltXA : wr.heap.size < w5.heap.size := zA
        replace oQ := oQ.alloc (Obj.cells #[.int .i64 x.o, .int .i64 x.n, .int .i64 x.k, .int .i64 x.v, .int .i64 x.a] 26)
        replace oA := oA.alloc (Obj.cells #[.int .i64 x.o, .int .i64 x.n, .int .i64 x.k, .int .i64 x.v, .int .i64 x.a] 26)
        replace SU := Lib.hid (SU.out.below (belowNew w5 (Obj.cells #[.int .i64 x.o, .int .i64 x.n, .int .i64 x.k, .int .i64 x.v, .int .i64 x.a] 26)))
        replace SQ := Lib.hid (SQ.out.below (belowNew w5 (Obj.cells #[.int .i64 x.o, .int .i64 x.n, .int .i64 x.k, .int .i64 x.v, .int .i64 x.a] 26)))
        replace bel := bel.alloc bel.size (Obj.cells #[.int .i64 x.o, .int .i64 x.n, .int .i64 x.k, .int .i64 x.v, .int .i64 x.a] 26)
        clear cQ0 fQ zQ cA0 cA1 cA2 cA3 cA4 cA5 fA zA
        generalize w5.alloc (Obj.cells #[.int .i64 x.o, .int .i64 x.n, .int .i64 x.k, .int .i64 x.v, .int .i64 x.a] 26) = w6 at oQ oA oX SU SQ bel ⊢
        obtain ⟨cQ0, fQ, zQ⟩ := own1 oQ
        obtain ⟨cA0, cA1, cA2, cA3, cA4, cA5, fA, zA⟩ := own6a oA
        obtain ⟨cX0, cX1, cX2, cX3, cX4, fX, zX⟩ := own5r oX
        obtain ⟨p3, cap3, e3, _, _, parts3⟩ := SU.out
        cases e3
        obtain ⟨x', b2, off2, hx', rfl, hbl2, g0, g1, g2, g3, g4⟩ := SlR.at parts3 (Below.refl _ _) (i := 0) HL0.out
        obtain rfl : x = x' := by have := HX.out; rw [hx'] at this; exact (Option.some.inj this).symm
        simp only [Nat.zero_mul, Nat.add_zero] at g0 g1 g2 g3 g4
        clear hx' parts3
        go_quiet (fail)
        rename_i nq
        replace oQ := oQ.drewN nq
        replace oA := oA.drewN nq
        replace oX := oX.drewN nq
        replace SU := Lib.hid (SU.out.below (belowN (n := nq) (Below.refl _ _)))
        replace SQ := Lib.hid (SQ.out.below (belowN (n := nq) (Below.refl _ _)))
        replace bel := belowN (n := nq) bel
        clear cQ0 fQ zQ cA0 cA1 cA2 cA3 cA4 cA5 fA zA cX0 cX1 cX2 cX3 cX4 fX zX g0 g1 g2 g3 g4
        generalize w6.drewN nq = w8 at oQ oA oX SU SQ bel ⊢
        obtain ⟨cQ0, fQ, zQ⟩ := own1 oQ
        obtain ⟨cA0, cA1, cA2, cA3, cA4, cA5, fA, zA⟩ := own6a oA
        obtain ⟨cX0, cX1, cX2, cX3, cX4, fX, zX⟩ := own5r oX
        cases hd : a.d with
        | true =>
          rw [hd] at cA0 oA
          have HDR := Lib.hid (drop_one HV.out HX.out)
          go_wp2_with fail
          refine (drop_lit (.slice pq qs.length capq) qs x.o x.n (qs.drop 1) _ SQ.out HDR.out).mono ?_
          rintro e w9 ⟨vd, rfl, sD, _, hb⟩
          replace oQ := oQ.below hb
          replace oA := oA.below hb
          replace oX := oX.below hb
          replace SU := Lib.hid (SU.out.below hb)
          replace SQ := Lib.hid (SQ.out.below hb)
          replace bel := belowTo bel hb (by exact bel.size)
          clear hb
          clear cQ0 fQ zQ cA0 cA1 cA2 cA3 cA4 cA5 fA zA cX0 cX1 cX2 cX3 cX4 fX zX
          obtain ⟨cQ0, fQ, zQ⟩ := own1 oQ
          obtain ⟨cA0, cA1, cA2, cA3, cA4, cA5, fA, zA⟩ := own6a oA
          obtain ⟨cX0, cX1, cX2, cX3, cX4, fX, zX⟩ := own5r oX
          have SD := Lib.hid sD
          obtain ⟨pd, capd, rfl⟩ := slr_form (qs.length - 1) sD (by simp)
          clear sD
          have l1 : (1 : Int) ≤ (qs.length : Int) := by omega
          have l2 : (qs.length : Int) ≤ (capu : Int) := by omega
          by_cases hc1 : capu = 1
          · subst hc1
            go_wp2_with fail
            go_roundw
            case rel => exact ⟨i + 1, qs.drop 1, _, by omega, by go_num, by rw [← HDR.out]; exact vd_drop HV.out, slr_zero _ _ _ (List.drop_of_length_le (by omega)), (fun n cap e => by cases e), by have := slr_setq SD.out oQ (fun k i e => by cases e) (.slice pd (qs.length - 1) capd); rwa [show qs.length - 1 = 0 by omega] at this, oQ.set 0 _, belowSet bel _ _ _ HW1.out⟩
            case measure => simp [intOf]; omega
          · go_wp2_with fail
            go_roundw
            case rel => exact ⟨i + 1, qs.drop 1, _, by omega, by go_num, by rw [← HDR.out]; exact vd_drop HV.out, slr_setq (SU.out.back (k := 1)) oQ (fun k i e => by cases e) _, (fun n cap e => by cases e), slr_setq SD.out oQ (fun k i e => by cases e) _, oQ.set 0 _, belowSet bel _ _ _ HW1.out⟩
            case measure => simp [intOf]; omega
        | false =>
          rw [hd] at cA0 oA
          by_cases hE : putE qs a.r me = 0
          · have HE := Lib.hid (show putE qs a.r me = 0 ∧ putL qs a.r me = qs ++ [a.r] from ⟨hE, by rw [putL, if_pos hE]⟩)
            have HP := Lib.hid (vd_put hE)
            clear hE
            go_wp2_with fail
            refine (put_lit (.slice pq qs.length capq) qs a.r me 0 (qs ++ [a.r]) _ SQ.out HE.out).mono ?_
            rintro e w9 ⟨vp, rfl, sP, _, hb⟩
            replace oQ := oQ.below hb
            replace oA := oA.below hb
            replace oX := oX.below hb
            replace SU := Lib.hid (SU.out.below hb)
            replace SQ := Lib.hid (SQ.out.below hb)
            replace bel := belowTo bel hb (by exact bel.size)
            clear hb
            clear cQ0 fQ zQ cA0 cA1 cA2 cA3 cA4 cA5 fA zA cX0 cX1 cX2 cX3 cX4 fX zX
            obtain ⟨cQ0, fQ, zQ⟩ := own1 oQ
            obtain ⟨cA0, cA1, cA2, cA3, cA4, cA5, fA, zA⟩ := own6a oA
            obtain ⟨cX0, cX1, cX2, cX3, cX4, fX, zX⟩ := own5r oX
            have SP := Lib.hid sP
            obtain ⟨pp, capp, rfl⟩ := slr_form (qs.length + 1) sP (by simp)
            clear sP
            go_wp2_with fail
            replace SU := Lib.hid ((slr_setq SU.out oQ (fun k i e => by cases e) (.slice pp (qs.length + 1) capp)).below (belowNew _ (Obj.cells #[.slice pp (qs.length + 1) capp] 24)))
            replace SP := Lib.hid ((slr_setq SP.out oQ (fun k i e => by cases e) (.slice pp (qs.length + 1) capp)).below (belowNew _ (Obj.cells #[.slice pp (qs.length + 1) capp] 24)))
            replace oA := (oA.other (a := ⟨w1.heap.size, 0, none⟩) (by simp; omega) (.slice pp (qs.length + 1) capp)).alloc (Obj.cells #[.slice pp (qs.length + 1) capp] 24)
            replace oQ := (oQ.set 0 (.slice pp (qs.length + 1) capp)).alloc (Obj.cells #[.slice pp (qs.length + 1) capp] 24)
            replace bel := (belowSet bel w1.heap.size 0 (.slice pp (qs.length + 1) capp) HW1.out).alloc (by have := bel.size; simp; omega) (Obj.cells #[.slice pp (qs.length + 1) capp] 24)
            clear SQ oX cQ0 fQ zQ cA0 cA1 cA2 cA3 cA4 cA5 fA zA cX0 cX1 cX2 cX3 cX4 fX zX
            generalize (w9.setCell ⟨w1.heap.size, 0, none⟩ (.slice pp (qs.length + 1) capp)).alloc (Obj.cells #[.slice pp (qs.length + 1) capp] 24) = w11 at oQ oA SU SP bel ⊢
            change Own w11 w1.heap.size [(.slice pp (qs.length + 1) capp)] 24 at oQ
            obtain ⟨cQ0, fQ, zQ⟩ := own1 oQ
            obtain ⟨cA0, cA1, cA2, cA3, cA4, cA5, fA, zA⟩ := own6a oA
            have bel8 : Below w11.heap.size w11 (w11.alloc (Obj.cells #[.int .i64 a.r.o, .int .i64 a.r.n, .int .i64 a.r.k, .int .i64 a.r.v, .int .i64 a.r.a] 26)).drew := ((Below.refl _ w11).alloc (Nat.le_refl _) _).drew
            have OL := Lib.hid ((SU.out.below bel8).olds)
            have HN := Lib.hid SU.out.none_len
            have CN := Lib.hid (cell_alloc_cells w11 #[.int .i64 a.r.o, .int .i64 a.r.n, .int .i64 a.r.k, .int .i64 a.r.v, .int .i64 a.r.a] 26)
            obtain ⟨i0, hi0, hz, hs0, hb0⟩ := info_parts info_rd
            have i1 : (0:Int) ≤ (qs.length : Int) := by omega
            have i2 : (qs.length : Int) ≤ (capu : Int) := by omega
            have OQ := Lib.hid (oQ.below bel8)
            have SPZ := Lib.hid (SP.out.below bel8)
            have BA := Lib.hid (belowTo bel bel8 bel.size)
            clear bel8 oQ oA SU SP bel
            go_region_law (refine step_append_grows rfl (.tmp 72) (.tmp 75) 22 rfl 26 i0 _ 5 40 (by kernel_rfl) hi0 hz hs0 hb0 rfl (by decide) (some ⟨b2, off2, none⟩) qs.length qs.length (flat qs) (by simp [Act.eval]) (by simp) (flat_len qs) OL.out ⟨w11.heap.size, 0, none⟩ 1 1 a.r.cells (by simp [Act.eval]) rfl (fun j u h => by rw [Go.WideShapes.add_plain, Nat.zero_add]; exact CN.out j u (by simpa [Rd.cells] using h)) (by simp [Rd.cells, Value.oneCell']) (by omega) (by unfold maxLen; omega) (by omega) ?_; intro v' w' hown hgrow; obtain ⟨g, gcap, rfl⟩ := Joins.ownsRow_form hown (by omega); have HO := Lib.hid (slr_of_own (rs := qs ++ [a.r]) (by simp) (own_app (rs := qs) (r := a.r) hown)); have HB := Lib.hid (belowTo BA.out (below_of_grown hgrow) BA.out.size); have OQ2 := Lib.hid (OQ.out.below (below_of_grown hgrow)); have SP2 := Lib.hid (SPZ.out.below (below_of_grown hgrow)); clear hown hgrow)
            all_goals go_wp2_with fail
            all_goals go_roundw
            all_goals (first | exact ⟨i + 1, qs ++ [a.r], _, by omega, by go_num, HP.out.2.2.2.2.2.2, HO.out.1, HO.out.2, SP2.out, OQ2.out, HB.out⟩ | (simp [intOf]; omega))
          · obtain ⟨E, hE2⟩ : ∃ E, putE qs a.r me = E := ⟨_, rfl⟩
            obtain ⟨l, hl2⟩ : ∃ l, putL qs a.r me = l := ⟨_, rfl⟩
            have ee : (E == 0) = false := by simp; omega
            have HE := Lib.hid (And.intro hE2 hl2)
            clear hE hE2 hl2
            go_wp2_with fail
            refine (put_lit (.slice pq qs.length capq) qs a.r me E l _ SQ.out HE.out).mono ?_
            rintro e w9 ⟨vp, rfl, sP, _, hb⟩
            replace oQ := oQ.below hb
            replace oA := oA.below hb
            replace oX := oX.below hb
            replace SU := Lib.hid (SU.out.below hb)
            replace SQ := Lib.hid (SQ.out.below hb)
            replace bel := belowTo bel hb (by exact bel.size)
            clear hb
            clear cQ0 fQ zQ cA0 cA1 cA2 cA3 cA4 cA5 fA zA cX0 cX1 cX2 cX3 cX4 fX zX
            obtain ⟨cQ0, fQ, zQ⟩ := own1 oQ
            obtain ⟨cA0, cA1, cA2, cA3, cA4, cA5, fA, zA⟩ := own6a oA
            obtain ⟨cX0, cX1, cX2, cX3, cX4, fX, zX⟩ := own5r oX
            obtain ⟨pp, capp, rfl⟩ := slr_form l.length sP rfl
            clear sP
            go_wp2_with fail
            go_roundw
            case rel => exact ⟨i + 1, qs, _, by omega, by go_num, HV.out, SU.out.below (belowNew _ _), NU.out, SQ.out.below (belowNew _ _), oQ.alloc _, bel.alloc bel.size _⟩
            case measure => simp [intOf]; omega
    · have HSM := Lib.hid (same_iff.2 (rfl : qs = qs))
      clear partsu
      go_wp2_with fail
      refine (fsame_lit _ _ qs qs true _ SQ.out SU.out HSM.out).mono ?_
      rintro e w5 ⟨rfl, hb⟩
      replace oQ := oQ.below hb
      replace SU := Lib.hid (SU.out.below hb)
      replace SQ := Lib.hid (SQ.out.below hb)
      replace bel := belowTo bel hb (by exact bel.size)
      clear hb
      clear cQ0 fQ zQ
      obtain ⟨cQ0, fQ, zQ⟩ := own1 oQ
      go_wp2
      go_ret
      exact ⟨by first | rfl | (simp; done), bel⟩

theorem ac_of {cs : List Value} (h : okCells [none, some .i64, some .i64, some .i64, some .i64, some .i64] cs) : ∃ a : Ac, cs = a.cells ∧ True := by
  simp only [okCells] at h
  obtain ⟨d, _, rfl, o, _, rfl, _, n, _, rfl, _, k, _, rfl, _, v, _, rfl, _, a, _, rfl, _, rfl⟩ := h
  exact ⟨⟨d, ⟨o, n, k, v, a⟩⟩, rfl, trivial⟩
set_option linter.unusedVariables false in
theorem queueFirst_walk (v : Value) (acts : List Ac) (me : Int) (w : World) (sl : SlV w v 6 (acts.map Ac.cells)) (q : ∀ a ∈ acts, True) (g0 : IntKind.i64.has me) :
    Calls Try.prog 4 #[v, .int .i64 me] w fun e w' => e = .returned (.bool true) ∧ Below w.heap.size w w' := by
  by_cases hl : acts.length ≤ 100
  · exact qf_main v acts me w sl hl
  · exact qf_long v acts me w sl (by omega)

end Go.Proofs.Ytlfdbmndikdhdaa

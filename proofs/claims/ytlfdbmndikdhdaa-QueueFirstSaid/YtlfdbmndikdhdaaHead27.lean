/- The walk of head() of the laws of chapter 27. -/
import Derived.Test.YtlfdbmndikdhdaaQueue27
import Derived.Deep.RegionHeld3
import Derived.Deep.DeepCutAuto
namespace Go.Proofs.Ytlfdbmndikdhdaa
open Go.RowKit

theorem slr_form {w : World} {v : Value} {rs : List Rd} (n : Nat) (h : SlR w v rs) (hn : rs.length = n) : ∃ p cap, v = .slice p n cap := by
  obtain ⟨p, cap, h1, _⟩ := h
  exact ⟨p, cap, by rw [h1, hn]⟩
theorem cell_newq {w : World} {b o : Nat} {O : Obj} (h : b < w.heap.size) : (w.alloc O).cell? ⟨b, o, none⟩ = w.cell? ⟨b, o, none⟩ := (belowNew w O).cell (p := ⟨b, o, none⟩) h
theorem size_newq {w : World} {b : Nat} {O : Obj} (h : b < w.heap.size) : b < (w.alloc O).heap.size := Nat.lt_of_lt_of_le h (belowNew w O).size
theorem cell_setq {w : World} {b o n : Nat} {v : Value} (h : b < n) : (w.setCell ⟨n, 0, none⟩ v).cell? ⟨b, o, none⟩ = w.cell? ⟨b, o, none⟩ := by
  rcases Nat.lt_or_ge n w.heap.size with hn | hn
  · exact ((Below.refl n w).setCell (p := ⟨n, 0, none⟩) (Nat.le_refl _) v).cell (p := ⟨b, o, none⟩) h
  · exact ((Below.refl n w).setCell (p := ⟨n, 0, none⟩) (Nat.le_refl _) v).cell (p := ⟨b, o, none⟩) h
theorem full_lit (v : Value) (rs : List Rd) (x : Bool) (w : World) (sl : SlR w v rs) (h : (vdB rs && decide (14 ≤ rs.length)) = x) :
    Calls Try.prog 18 #[.agg #[v]] w fun e w' => e = .returned (.bool x) ∧ Below w.heap.size w w' := by
  have := full_any v rs w sl
  rwa [h] at this
theorem slr_setq {w : World} {n : Nat} {x : Value} {t : TypeId} {v : Value} {rs : List Rd} (h : SlR w v rs) (o : Own w n [x] t) (hx : ∀ k i, x ≠ .int k i) (y : Value) : SlR (w.setCell ⟨n, 0, none⟩ y) v rs := by
  obtain ⟨p, cap, h1, h2, h3, h4⟩ := h
  refine ⟨p, cap, h1, h2, h3, fun i r hi => ?_⟩
  obtain ⟨b, off, e, hlt, hc⟩ := h4 i r hi
  have hne : b ≠ n := by
    intro hbn
    subst hbn
    have h0 := hc 0 _ rfl
    simp only [World.cell?, show w.heap[b]? = _ from o] at h0
    have h1 : ([x] : List Value)[off + i * 5 + 0]? = some (.int .i64 r.o) := by simpa using h0
    cases hk : off + i * 5 + 0 with
    | zero => rw [hk] at h1; exact hx _ _ (by simpa using h1)
    | succ k => rw [hk] at h1; simp at h1
  have hh := Below.heap_setCell w ⟨n, 0, none⟩ y b hne
  exact ⟨b, off, e, by simpa using hlt, fun j z hz => by rw [← hc j z hz]; exact World.cell?_of_block (a := ⟨b, _, none⟩) hh⟩
theorem own_lastd {w w' : World} {cs : Array Value} {t : TypeId} (hb : Below (w.alloc (.cells cs t)).drew.heap.size (w.alloc (.cells cs t)).drew w') : Own w' w.heap.size cs.toList t := ((own_new w cs t).drew).below hb
theorem own_last {w w' : World} {cs : Array Value} {t : TypeId} (hb : Below (w.alloc (.cells cs t)).heap.size (w.alloc (.cells cs t)) w') : Own w' w.heap.size cs.toList t := (own_new w cs t).below hb
theorem hp1 : putE [] ⟨2, 1, 0, 0, 0⟩ 2 = 0 ∧ putL [] ⟨2, 1, 0, 0, 0⟩ 2 = [⟨2, 1, 0, 0, 0⟩] := ⟨by rfl, by rfl⟩
theorem hp2 : putE [⟨2, 1, 0, 0, 0⟩] ⟨2, 2, 0, 0, 0⟩ 2 = 0 ∧ putL [⟨2, 1, 0, 0, 0⟩] ⟨2, 2, 0, 0, 0⟩ 2 = [⟨2, 1, 0, 0, 0⟩, ⟨2, 2, 0, 0, 0⟩] := ⟨by rfl, by rfl⟩
theorem hp3 : putE [⟨2, 2, 0, 0, 0⟩] ⟨2, 2, 0, 0, 0⟩ 1 = 5 ∧ putL [⟨2, 2, 0, 0, 0⟩] ⟨2, 2, 0, 0, 0⟩ 1 = [] := ⟨by rfl, by rfl⟩
theorem hp4 : putE [⟨2, 2, 0, 0, 0⟩] ⟨2, 0, 0, 0, 0⟩ 1 = 1 ∧ putL [⟨2, 2, 0, 0, 0⟩] ⟨2, 0, 0, 0, 0⟩ 1 = [] := ⟨by rfl, by rfl⟩
theorem hd1 : dropL [⟨2, 1, 0, 0, 0⟩, ⟨2, 2, 0, 0, 0⟩] 2 1 = [⟨2, 2, 0, 0, 0⟩] := by rfl
theorem hd2 : dropL [⟨2, 2, 0, 0, 0⟩] 2 2 = [] := by rfl
theorem hv12 : vdB [⟨2, 1, 0, 0, 0⟩, ⟨2, 2, 0, 0, 0⟩] = true := by rfl
theorem hv2 : vdB [⟨2, 2, 0, 0, 0⟩] = true := by rfl
theorem hv0 : vdB [] = true := by rfl

set_option linter.unusedVariables false in
set_option maxRecDepth 100000 in
set_option maxHeartbeats 2000000 in
theorem head_true (w : World) : Calls Try.prog 9 #[] w fun e w' => e = .returned (.bool true) ∧ Below w.heap.size w w' := by
  go_enter Try.func9, Try.ntmps9
  go_wp2_with fail
  refine (reading_any 2 1 _).mono ?_
  rintro e w1 ⟨rfl, hb⟩
  have bel := belowTo (Below.refl w.heap.size w) hb (by simp)
  clear hb 
  go_wp2_with fail
  refine (put_lit (.slice none 0 0) [] ⟨2, 1, 0, 0, 0⟩ 2 0 [⟨2, 1, 0, 0, 0⟩] _ (slr_nil _) hp1).mono ?_
  rintro e w2 ⟨va, rfl, sA, _, hb⟩
  replace bel := belowTo bel hb (by exact bel.size)
  clear hb 
  obtain ⟨pa, ca, rfl⟩ := slr_form 1 sA rfl
  have SA := Lib.hid sA
  clear sA
  go_wp2_with fail
  replace SA := Lib.hid (SA.out.below (belowNew w2 (.cells #[.slice pa 1 ca] 24)))
  have oA : Own (w2.alloc (Obj.cells #[.slice pa 1 ca] 24)) w2.heap.size [.slice pa 1 ca] 24 := own_at _ _ rfl
  replace bel := bel.alloc bel.size (Obj.cells #[.slice pa 1 ca] 24)
  generalize w2.alloc (Obj.cells #[.slice pa 1 ca] 24) = w3 at oA bel SA ⊢
  obtain ⟨cA0, fA, zA⟩ := own1 oA
  go_cut [3, 4] (fun s1 s2 wx => ∃ (bB : Nat) (pb : Option Addr) (cb : Nat), s1 = .pointer (some ⟨bB, 0, none⟩) ∧ s2 = .int .i64 0 ∧ Own wx bB [.slice pb 2 cb] 24 ∧ SlR wx (.slice pb 2 cb) [⟨2, 1, 0, 0, 0⟩, ⟨2, 2, 0, 0, 0⟩] ∧ Below w3.heap.size w3 wx ∧ w3.heap.size ≤ bB)
  case first =>
    have oAd := oA.drew
    have SAd := Lib.hid (SA.out.below (Below.refl _ w3).drew)
    have BD := Lib.hid (Below.refl w3.heap.size w3).drew
    have dA0 : w3.drew.cell? ⟨w2.heap.size, 0, none⟩ = some (.slice pa 1 ca) := cA0
    have dz : w2.heap.size < w3.drew.heap.size := zA
    go_region_held3 (fun w' => w'.cell? ⟨w2.heap.size, 0, none⟩ = some (.slice pa 1 ca) ∧ w2.heap.size < w'.heap.size)
      (((try dsimp only); (repeat' apply And.intro) <;> first | assumption | (rw [cell_newq (by assumption)]; assumption) | (change (World.alloc _ _).cell? _ = _; rw [cell_newq (by assumption)]; assumption) | exact size_newq (by assumption) | (rw [cell_setq (by first | assumption | (simp; omega))]; first | assumption | (rw [cell_newq (by assumption)]; assumption)) | (simp; omega)))
      (first | (go_at_call 23; refine (reading_any 2 2 _).mono ?_; rintro e w4 ⟨rfl, hb4⟩; have hA4 := (by first | exact oAd.below hb4 | exact ((oA.alloc _).drew).below hb4 : Own w4 (w2.heap.size) [.slice pa 1 ca] 24); have SA4 := Lib.hid (by first | exact SAd.out.below hb4 | exact (SA.out.below (belowNew _ _).drew).below hb4 : SlR w4 (.slice pa 1 ca) [⟨2, 1, 0, 0, 0⟩]); have B4 := Lib.hid (by first | exact belowTo BD.out hb4 BD.out.size | exact belowTo (belowNew _ _).drew hb4 (belowNew _ _).size : Below w3.heap.size w3 w4); obtain ⟨cA40, fA4, zA4⟩ := own1 hA4; (try (have hN4 := own_lastd hb4; obtain ⟨cN40, fN4, zN4⟩ := own1 hN4))) | (go_at_call 11; refine (put_lit (.slice pa 1 ca) [⟨2, 1, 0, 0, 0⟩] ⟨2, 2, 0, 0, 0⟩ 2 0 [⟨2, 1, 0, 0, 0⟩, ⟨2, 2, 0, 0, 0⟩] _ (by first | exact SA4.out | exact SA4.out.below (belowNew _ _)) hp2).mono ?_; rintro e w5 ⟨vb, rfl, sB, _, hb5⟩; obtain ⟨pZ, cZ, rfl⟩ := slr_form 2 sB rfl; have hA5 := (by first | exact hA4.below hb5 | exact (hA4.alloc _).below hb5 : Own w5 (w2.heap.size) [.slice pa 1 ca] 24); have SA5 := Lib.hid (by first | exact SA4.out.below hb5 | exact (SA4.out.below (belowNew _ _)).below hb5 : SlR w5 (.slice pa 1 ca) [⟨2, 1, 0, 0, 0⟩]); have B5 := Lib.hid (by first | exact belowTo B4.out hb5 B4.out.size | exact belowTo (B4.out.alloc B4.out.size _) hb5 (Nat.le_trans B4.out.size (belowNew _ _).size) : Below w3.heap.size w3 w5); have SB5 := Lib.hid sB; obtain ⟨cA50, fA5, zA5⟩ := own1 hA5; (try (have hN5 := hN4.below hb5; obtain ⟨cN50, fN5, zN5⟩ := own1 hN5)); (try (have hN5 := own_last hb5; obtain ⟨cN50, fN5, zN5⟩ := own1 hN5))))
    all_goals (go_wp2_with fail; go_meet)
    all_goals (first | exact ⟨_, rfl, rfl, B5.out.alloc B5.out.size _⟩ | exact ⟨_, rfl, rfl, belowSet B5.out _ _ _ B4.out.size⟩ | exact ⟨_, rfl, rfl, belowSet B5.out _ _ _ (Nat.le_refl _)⟩ | exact ⟨_, _, _, rfl, rfl, own_at _ _ rfl, SB5.out.below (belowNew _ _), B5.out.alloc B5.out.size _, B5.out.size⟩ | exact ⟨_, _, _, rfl, rfl, hN5.set 0 _, slr_setq SB5.out hN5 (fun k i e => by cases e) _, belowSet B5.out _ _ _ B4.out.size, B4.out.size⟩ | exact ⟨_, _, _, rfl, rfl, hN5.set 0 _, slr_setq SB5.out hN5 (fun k i e => by cases e) _, belowSet B5.out _ _ _ (Nat.le_refl _), Nat.le_refl _⟩)
  case rest =>
    obtain ⟨bB, pb, cb, rfl, rfl, oB, sB, hx, hB⟩ := hcut
    replace bel := belowTo bel hx bel.size
    have SB := Lib.hid sB
    clear sB hx cA0 fA zA oA SA
    obtain ⟨cB0, fB, zB⟩ := own1 oB
    go_wp2_with fail
    refine (head_yes (.slice pb 2 cb) [⟨2, 1, 0, 0, 0⟩, ⟨2, 2, 0, 0, 0⟩] ⟨2, 1, 0, 0, 0⟩ _ SB.out hv12 rfl).mono ?_
    rintro e w6 ⟨rfl, hb⟩; replace SB := Lib.hid (SB.out.below hb)
    replace oB := oB.below hb
    replace bel := belowTo bel hb (by exact bel.size)
    clear hb cB0 fB zB
    obtain ⟨cB0, fB, zB⟩ := own1 oB
    go_wp2_with fail
    replace SB := Lib.hid (SB.out.below (belowNew w6 (.cells #[.int .i64 2, .int .i64 1, .int .i64 0, .int .i64 0, .int .i64 0] 26)))
    have oX : Own (w6.alloc (Obj.cells #[.int .i64 2, .int .i64 1, .int .i64 0, .int .i64 0, .int .i64 0] 26)) w6.heap.size [.int .i64 2, .int .i64 1, .int .i64 0, .int .i64 0, .int .i64 0] 26 := own_at _ _ rfl
    replace oB := oB.alloc (Obj.cells #[.int .i64 2, .int .i64 1, .int .i64 0, .int .i64 0, .int .i64 0] 26)
    replace bel := bel.alloc bel.size (Obj.cells #[.int .i64 2, .int .i64 1, .int .i64 0, .int .i64 0, .int .i64 0] 26)
    clear cB0 fB zB
    generalize w6.alloc (Obj.cells #[.int .i64 2, .int .i64 1, .int .i64 0, .int .i64 0, .int .i64 0] 26) = w7 at oB oX bel SB ⊢
    obtain ⟨cB0, fB, zB⟩ := own1 oB
    obtain ⟨cX0, cX1, cX2, cX3, cX4, fX, zX⟩ := own5r oX
    go_wp2_with fail
    refine (drop_lit (.slice pb 2 cb) [⟨2, 1, 0, 0, 0⟩, ⟨2, 2, 0, 0, 0⟩] 2 1 [⟨2, 2, 0, 0, 0⟩] _ SB.out hd1).mono ?_
    rintro e w8 ⟨vc, rfl, sC, _, hb⟩; obtain ⟨pc, cc, rfl⟩ := slr_form 1 sC rfl; have SC := Lib.hid sC; clear sC; replace SB := Lib.hid (SB.out.below hb)
    replace oB := oB.below hb
    replace oX := oX.below hb
    replace bel := belowTo bel hb (by exact bel.size)
    clear hb cB0 fB zB cX0 cX1 cX2 cX3 cX4 fX zX
    obtain ⟨cB0, fB, zB⟩ := own1 oB
    obtain ⟨cX0, cX1, cX2, cX3, cX4, fX, zX⟩ := own5r oX
    go_wp2_with fail
    replace SB := Lib.hid (SB.out.below (belowNew w8 (.cells #[.slice pc 1 cc] 24)))
    replace SC := Lib.hid (SC.out.below (belowNew w8 (.cells #[.slice pc 1 cc] 24)))
    have oC : Own (w8.alloc (Obj.cells #[.slice pc 1 cc] 24)) w8.heap.size [.slice pc 1 cc] 24 := own_at _ _ rfl
    replace oB := oB.alloc (Obj.cells #[.slice pc 1 cc] 24)
    replace oX := oX.alloc (Obj.cells #[.slice pc 1 cc] 24)
    replace bel := bel.alloc bel.size (Obj.cells #[.slice pc 1 cc] 24)
    clear cB0 fB zB cX0 cX1 cX2 cX3 cX4 fX zX
    generalize w8.alloc (Obj.cells #[.slice pc 1 cc] 24) = w9 at oB oX oC bel SB SC ⊢
    obtain ⟨cB0, fB, zB⟩ := own1 oB
    obtain ⟨cX0, cX1, cX2, cX3, cX4, fX, zX⟩ := own5r oX
    obtain ⟨cC0, fC, zC⟩ := own1 oC
    go_wp2_with fail
    refine (head_yes (.slice pc 1 cc) [⟨2, 2, 0, 0, 0⟩] ⟨2, 2, 0, 0, 0⟩ _ SC.out hv2 rfl).mono ?_
    rintro e w10 ⟨rfl, hb⟩; replace SB := Lib.hid (SB.out.below hb); replace SC := Lib.hid (SC.out.below hb)
    replace oB := oB.below hb
    replace oX := oX.below hb
    replace oC := oC.below hb
    replace bel := belowTo bel hb (by exact bel.size)
    clear hb cB0 fB zB cX0 cX1 cX2 cX3 cX4 fX zX cC0 fC zC
    obtain ⟨cB0, fB, zB⟩ := own1 oB
    obtain ⟨cX0, cX1, cX2, cX3, cX4, fX, zX⟩ := own5r oX
    obtain ⟨cC0, fC, zC⟩ := own1 oC
    go_wp2_with fail
    replace SB := Lib.hid (SB.out.below (belowNew w10 (.cells #[.int .i64 2, .int .i64 2, .int .i64 0, .int .i64 0, .int .i64 0] 26)))
    replace SC := Lib.hid (SC.out.below (belowNew w10 (.cells #[.int .i64 2, .int .i64 2, .int .i64 0, .int .i64 0, .int .i64 0] 26)))
    have oY : Own (w10.alloc (Obj.cells #[.int .i64 2, .int .i64 2, .int .i64 0, .int .i64 0, .int .i64 0] 26)) w10.heap.size [.int .i64 2, .int .i64 2, .int .i64 0, .int .i64 0, .int .i64 0] 26 := own_at _ _ rfl
    replace oB := oB.alloc (Obj.cells #[.int .i64 2, .int .i64 2, .int .i64 0, .int .i64 0, .int .i64 0] 26)
    replace oX := oX.alloc (Obj.cells #[.int .i64 2, .int .i64 2, .int .i64 0, .int .i64 0, .int .i64 0] 26)
    replace oC := oC.alloc (Obj.cells #[.int .i64 2, .int .i64 2, .int .i64 0, .int .i64 0, .int .i64 0] 26)
    replace bel := bel.alloc bel.size (Obj.cells #[.int .i64 2, .int .i64 2, .int .i64 0, .int .i64 0, .int .i64 0] 26)
    clear cB0 fB zB cX0 cX1 cX2 cX3 cX4 fX zX cC0 fC zC
    generalize w10.alloc (Obj.cells #[.int .i64 2, .int .i64 2, .int .i64 0, .int .i64 0, .int .i64 0] 26) = w11 at oB oX oC oY bel SB SC ⊢
    obtain ⟨cB0, fB, zB⟩ := own1 oB
    obtain ⟨cX0, cX1, cX2, cX3, cX4, fX, zX⟩ := own5r oX
    obtain ⟨cC0, fC, zC⟩ := own1 oC
    obtain ⟨cY0, cY1, cY2, cY3, cY4, fY, zY⟩ := own5r oY
    go_wp2_with fail
    go_cut [10, 11] (fun s1 s2 wx => ∃ bZ : Nat, s1 = .pointer (some ⟨bZ, 0, none⟩) ∧ s2 = .int .i64 5 ∧ Below w11.heap.size w11 wx)
    case first =>
      have oAd := oC.drew
      have SAd := Lib.hid (SC.out.below (Below.refl _ w11).drew)
      have BD := Lib.hid (Below.refl w11.heap.size w11).drew
      have dA0 : w11.drew.cell? ⟨w8.heap.size, 0, none⟩ = some (.slice pc 1 cc) := cC0
      have dz : w8.heap.size < w11.drew.heap.size := zC
      go_region_held3 (fun w' => w'.cell? ⟨w8.heap.size, 0, none⟩ = some (.slice pc 1 cc) ∧ w8.heap.size < w'.heap.size)
        (((try dsimp only); (repeat' apply And.intro) <;> first | assumption | (rw [cell_newq (by assumption)]; assumption) | (change (World.alloc _ _).cell? _ = _; rw [cell_newq (by assumption)]; assumption) | exact size_newq (by assumption) | (rw [cell_setq (by first | assumption | (simp; omega))]; first | assumption | (rw [cell_newq (by assumption)]; assumption)) | (simp; omega)))
        (first | (go_at_call 23; refine (reading_any 2 2 _).mono ?_; rintro e w4 ⟨rfl, hb4⟩; have hA4 := (by first | exact oAd.below hb4 | exact ((oC.alloc _).drew).below hb4 : Own w4 (w8.heap.size) [.slice pc 1 cc] 24); have SA4 := Lib.hid (by first | exact SAd.out.below hb4 | exact (SC.out.below (belowNew _ _).drew).below hb4 : SlR w4 (.slice pc 1 cc) [⟨2, 2, 0, 0, 0⟩]); have B4 := Lib.hid (by first | exact belowTo BD.out hb4 BD.out.size | exact belowTo (belowNew _ _).drew hb4 (belowNew _ _).size : Below w11.heap.size w11 w4); obtain ⟨cA40, fA4, zA4⟩ := own1 hA4; (try (have hN4 := own_lastd hb4; obtain ⟨cN40, fN4, zN4⟩ := own1 hN4))) | (go_at_call 11; refine (put_lit (.slice pc 1 cc) [⟨2, 2, 0, 0, 0⟩] ⟨2, 2, 0, 0, 0⟩ 1 5 [] _ (by first | exact SA4.out | exact SA4.out.below (belowNew _ _)) hp3).mono ?_; rintro e w5 ⟨vb, rfl, sB, _, hb5⟩; obtain ⟨pZ, cZ, rfl⟩ := slr_form 0 sB rfl; have hA5 := (by first | exact hA4.below hb5 | exact (hA4.alloc _).below hb5 : Own w5 (w8.heap.size) [.slice pc 1 cc] 24); have SA5 := Lib.hid (by first | exact SA4.out.below hb5 | exact (SA4.out.below (belowNew _ _)).below hb5 : SlR w5 (.slice pc 1 cc) [⟨2, 2, 0, 0, 0⟩]); have B5 := Lib.hid (by first | exact belowTo B4.out hb5 B4.out.size | exact belowTo (B4.out.alloc B4.out.size _) hb5 (Nat.le_trans B4.out.size (belowNew _ _).size) : Below w11.heap.size w11 w5); have SB5 := Lib.hid sB; obtain ⟨cA50, fA5, zA5⟩ := own1 hA5; (try (have hN5 := hN4.below hb5; obtain ⟨cN50, fN5, zN5⟩ := own1 hN5)); (try (have hN5 := own_last hb5; obtain ⟨cN50, fN5, zN5⟩ := own1 hN5))))
      all_goals (go_wp2_with fail; go_meet)
      all_goals (first | exact ⟨_, rfl, rfl, B5.out.alloc B5.out.size _⟩ | exact ⟨_, rfl, rfl, belowSet B5.out _ _ _ B4.out.size⟩ | exact ⟨_, rfl, rfl, belowSet B5.out _ _ _ (Nat.le_refl _)⟩ | exact ⟨_, _, _, rfl, rfl, own_at _ _ rfl, SB5.out.below (belowNew _ _), B5.out.alloc B5.out.size _, B5.out.size⟩ | exact ⟨_, _, _, rfl, rfl, hN5.set 0 _, slr_setq SB5.out hN5 (fun k i e => by cases e) _, belowSet B5.out _ _ _ B4.out.size, B4.out.size⟩ | exact ⟨_, _, _, rfl, rfl, hN5.set 0 _, slr_setq SB5.out hN5 (fun k i e => by cases e) _, belowSet B5.out _ _ _ (Nat.le_refl _), Nat.le_refl _⟩)
    case rest =>
      obtain ⟨bZw12, rfl, rfl, hx⟩ := hcut
      clear cB0 fB zB cX0 cX1 cX2 cX3 cX4 fX zX cC0 fC zC cY0 cY1 cY2 cY3 cY4 fY zY
      replace oB := oB.below hx
      replace oX := oX.below hx
      replace oC := oC.below hx
      replace oY := oY.below hx
      replace SB := Lib.hid (SB.out.below hx)
      replace SC := Lib.hid (SC.out.below hx)
      replace bel := belowTo bel hx bel.size
      clear hx
      generalize wc = w12 at *
      obtain ⟨cB0, fB, zB⟩ := own1 oB
      obtain ⟨cX0, cX1, cX2, cX3, cX4, fX, zX⟩ := own5r oX
      obtain ⟨cC0, fC, zC⟩ := own1 oC
      obtain ⟨cY0, cY1, cY2, cY3, cY4, fY, zY⟩ := own5r oY
      go_wp2_with fail
      go_cut [12, 13] (fun s1 s2 wx => ∃ bZ : Nat, s1 = .pointer (some ⟨bZ, 0, none⟩) ∧ s2 = .int .i64 1 ∧ Below w12.heap.size w12 wx)
      case first =>
        have oAd := oC.drew
        have SAd := Lib.hid (SC.out.below (Below.refl _ w12).drew)
        have BD := Lib.hid (Below.refl w12.heap.size w12).drew
        have dA0 : w12.drew.cell? ⟨w8.heap.size, 0, none⟩ = some (.slice pc 1 cc) := cC0
        have dz : w8.heap.size < w12.drew.heap.size := zC
        go_region_held3 (fun w' => w'.cell? ⟨w8.heap.size, 0, none⟩ = some (.slice pc 1 cc) ∧ w8.heap.size < w'.heap.size)
          (((try dsimp only); (repeat' apply And.intro) <;> first | assumption | (rw [cell_newq (by assumption)]; assumption) | (change (World.alloc _ _).cell? _ = _; rw [cell_newq (by assumption)]; assumption) | exact size_newq (by assumption) | (rw [cell_setq (by first | assumption | (simp; omega))]; first | assumption | (rw [cell_newq (by assumption)]; assumption)) | (simp; omega)))
          (first | (go_at_call 23; refine (reading_any 2 0 _).mono ?_; rintro e w4 ⟨rfl, hb4⟩; have hA4 := (by first | exact oAd.below hb4 | exact ((oC.alloc _).drew).below hb4 : Own w4 (w8.heap.size) [.slice pc 1 cc] 24); have SA4 := Lib.hid (by first | exact SAd.out.below hb4 | exact (SC.out.below (belowNew _ _).drew).below hb4 : SlR w4 (.slice pc 1 cc) [⟨2, 2, 0, 0, 0⟩]); have B4 := Lib.hid (by first | exact belowTo BD.out hb4 BD.out.size | exact belowTo (belowNew _ _).drew hb4 (belowNew _ _).size : Below w12.heap.size w12 w4); obtain ⟨cA40, fA4, zA4⟩ := own1 hA4; (try (have hN4 := own_lastd hb4; obtain ⟨cN40, fN4, zN4⟩ := own1 hN4))) | (go_at_call 11; refine (put_lit (.slice pc 1 cc) [⟨2, 2, 0, 0, 0⟩] ⟨2, 0, 0, 0, 0⟩ 1 1 [] _ (by first | exact SA4.out | exact SA4.out.below (belowNew _ _)) hp4).mono ?_; rintro e w5 ⟨vb, rfl, sB, _, hb5⟩; obtain ⟨pZ, cZ, rfl⟩ := slr_form 0 sB rfl; have hA5 := (by first | exact hA4.below hb5 | exact (hA4.alloc _).below hb5 : Own w5 (w8.heap.size) [.slice pc 1 cc] 24); have SA5 := Lib.hid (by first | exact SA4.out.below hb5 | exact (SA4.out.below (belowNew _ _)).below hb5 : SlR w5 (.slice pc 1 cc) [⟨2, 2, 0, 0, 0⟩]); have B5 := Lib.hid (by first | exact belowTo B4.out hb5 B4.out.size | exact belowTo (B4.out.alloc B4.out.size _) hb5 (Nat.le_trans B4.out.size (belowNew _ _).size) : Below w12.heap.size w12 w5); have SB5 := Lib.hid sB; obtain ⟨cA50, fA5, zA5⟩ := own1 hA5; (try (have hN5 := hN4.below hb5; obtain ⟨cN50, fN5, zN5⟩ := own1 hN5)); (try (have hN5 := own_last hb5; obtain ⟨cN50, fN5, zN5⟩ := own1 hN5))))
        all_goals (go_wp2_with fail; go_meet)
        all_goals (first | exact ⟨_, rfl, rfl, B5.out.alloc B5.out.size _⟩ | exact ⟨_, rfl, rfl, belowSet B5.out _ _ _ B4.out.size⟩ | exact ⟨_, rfl, rfl, belowSet B5.out _ _ _ (Nat.le_refl _)⟩ | exact ⟨_, _, _, rfl, rfl, own_at _ _ rfl, SB5.out.below (belowNew _ _), B5.out.alloc B5.out.size _, B5.out.size⟩ | exact ⟨_, _, _, rfl, rfl, hN5.set 0 _, slr_setq SB5.out hN5 (fun k i e => by cases e) _, belowSet B5.out _ _ _ B4.out.size, B4.out.size⟩ | exact ⟨_, _, _, rfl, rfl, hN5.set 0 _, slr_setq SB5.out hN5 (fun k i e => by cases e) _, belowSet B5.out _ _ _ (Nat.le_refl _), Nat.le_refl _⟩)
      case rest =>
        obtain ⟨bZw13, rfl, rfl, hx⟩ := hcut
        clear cB0 fB zB cX0 cX1 cX2 cX3 cX4 fX zX cC0 fC zC cY0 cY1 cY2 cY3 cY4 fY zY
        replace oB := oB.below hx
        replace oX := oX.below hx
        replace oC := oC.below hx
        replace oY := oY.below hx
        replace SB := Lib.hid (SB.out.below hx)
        replace SC := Lib.hid (SC.out.below hx)
        replace bel := belowTo bel hx bel.size
        clear hx
        generalize wc = w13 at *
        obtain ⟨cB0, fB, zB⟩ := own1 oB
        obtain ⟨cX0, cX1, cX2, cX3, cX4, fX, zX⟩ := own5r oX
        obtain ⟨cC0, fC, zC⟩ := own1 oC
        obtain ⟨cY0, cY1, cY2, cY3, cY4, fY, zY⟩ := own5r oY
        go_wp2_with fail
        refine (drop_lit (.slice pc 1 cc) [⟨2, 2, 0, 0, 0⟩] 2 2 [] _ SC.out hd2).mono ?_
        rintro e w14 ⟨vd, rfl, sD, _, hb⟩; obtain ⟨pd, cd, rfl⟩ := slr_form 0 sD rfl; have SD := Lib.hid sD; clear sD; replace SB := Lib.hid (SB.out.below hb)
        replace oB := oB.below hb
        replace oX := oX.below hb
        replace oC := oC.below hb
        replace oY := oY.below hb
        replace bel := belowTo bel hb (by exact bel.size)
        clear hb cB0 fB zB cX0 cX1 cX2 cX3 cX4 fX zX cC0 fC zC cY0 cY1 cY2 cY3 cY4 fY zY
        obtain ⟨cB0, fB, zB⟩ := own1 oB
        obtain ⟨cX0, cX1, cX2, cX3, cX4, fX, zX⟩ := own5r oX
        obtain ⟨cC0, fC, zC⟩ := own1 oC
        obtain ⟨cY0, cY1, cY2, cY3, cY4, fY, zY⟩ := own5r oY
        go_wp2_with fail
        refine (head_none (.slice pd 0 cd) [] _ SD.out hv0 rfl).mono ?_
        rintro e w15 ⟨rfl, hb⟩; replace SB := Lib.hid (SB.out.below hb)
        replace oB := oB.below hb
        replace oX := oX.below hb
        replace oC := oC.below hb
        replace oY := oY.below hb
        replace bel := belowTo bel hb (by exact bel.size)
        clear hb cB0 fB zB cX0 cX1 cX2 cX3 cX4 fX zX cC0 fC zC cY0 cY1 cY2 cY3 cY4 fY zY
        obtain ⟨cB0, fB, zB⟩ := own1 oB
        obtain ⟨cX0, cX1, cX2, cX3, cX4, fX, zX⟩ := own5r oX
        obtain ⟨cC0, fC, zC⟩ := own1 oC
        obtain ⟨cY0, cY1, cY2, cY3, cY4, fY, zY⟩ := own5r oY
        go_wp2_with fail
        replace SB := Lib.hid (SB.out.below (belowNew w15 (.cells #[.int .i64 0, .int .i64 0, .int .i64 0, .int .i64 0, .int .i64 0] 26)))
        have oZ : Own (w15.alloc (Obj.cells #[.int .i64 0, .int .i64 0, .int .i64 0, .int .i64 0, .int .i64 0] 26)) w15.heap.size [.int .i64 0, .int .i64 0, .int .i64 0, .int .i64 0, .int .i64 0] 26 := own_at _ _ rfl
        replace oB := oB.alloc (Obj.cells #[.int .i64 0, .int .i64 0, .int .i64 0, .int .i64 0, .int .i64 0] 26)
        replace oX := oX.alloc (Obj.cells #[.int .i64 0, .int .i64 0, .int .i64 0, .int .i64 0, .int .i64 0] 26)
        replace oC := oC.alloc (Obj.cells #[.int .i64 0, .int .i64 0, .int .i64 0, .int .i64 0, .int .i64 0] 26)
        replace oY := oY.alloc (Obj.cells #[.int .i64 0, .int .i64 0, .int .i64 0, .int .i64 0, .int .i64 0] 26)
        replace bel := bel.alloc bel.size (Obj.cells #[.int .i64 0, .int .i64 0, .int .i64 0, .int .i64 0, .int .i64 0] 26)
        clear cB0 fB zB cX0 cX1 cX2 cX3 cX4 fX zX cC0 fC zC cY0 cY1 cY2 cY3 cY4 fY zY
        generalize w15.alloc (Obj.cells #[.int .i64 0, .int .i64 0, .int .i64 0, .int .i64 0, .int .i64 0] 26) = w16 at oB oX oC oY oZ bel SB ⊢
        obtain ⟨cB0, fB, zB⟩ := own1 oB
        obtain ⟨cX0, cX1, cX2, cX3, cX4, fX, zX⟩ := own5r oX
        obtain ⟨cC0, fC, zC⟩ := own1 oC
        obtain ⟨cY0, cY1, cY2, cY3, cY4, fY, zY⟩ := own5r oY
        obtain ⟨cZ0, cZ1, cZ2, cZ3, cZ4, fZ, zZ⟩ := own5r oZ
        have e1 := eq_rd ⟨2, 1, 0, 0, 0⟩ ⟨2, 1, 0, 0, 0⟩ true rfl
        have e2 := eq_rd ⟨2, 2, 0, 0, 0⟩ ⟨2, 2, 0, 0, 0⟩ true rfl
        dsimp only at e1 e2
        go_wp2_with fail
        have pB0 := fun x : Past w16 => (oB.past x).cell (i := 0) rfl
        have pX0 := fun x : Past w16 => (oX.past x).cell (i := 0) rfl
        have pX1 := fun x : Past w16 => (oX.past x).cell (i := 1) rfl
        have pX2 := fun x : Past w16 => (oX.past x).cell (i := 2) rfl
        have pX3 := fun x : Past w16 => (oX.past x).cell (i := 3) rfl
        have pX4 := fun x : Past w16 => (oX.past x).cell (i := 4) rfl
        have pC0 := fun x : Past w16 => (oC.past x).cell (i := 0) rfl
        have pY0 := fun x : Past w16 => (oY.past x).cell (i := 0) rfl
        have pY1 := fun x : Past w16 => (oY.past x).cell (i := 1) rfl
        have pY2 := fun x : Past w16 => (oY.past x).cell (i := 2) rfl
        have pY3 := fun x : Past w16 => (oY.past x).cell (i := 3) rfl
        have pY4 := fun x : Past w16 => (oY.past x).cell (i := 4) rfl
        have pZ0 := fun x : Past w16 => (oZ.past x).cell (i := 0) rfl
        have pZ1 := fun x : Past w16 => (oZ.past x).cell (i := 1) rfl
        have pZ2 := fun x : Past w16 => (oZ.past x).cell (i := 2) rfl
        have pZ3 := fun x : Past w16 => (oZ.past x).cell (i := 3) rfl
        have pZ4 := fun x : Past w16 => (oZ.past x).cell (i := 4) rfl
        refine wp_region_past (by kernel_rfl) (by kernel_rfl) ?_
        repeat (go_big_quiet_step ((first | (go_at_call 23; exact calls_past (reading_any 2 1 _)) | (go_at_call 23; exact calls_past (reading_any 2 2 _)) | (go_at_call 18; exact calls_past (full_lit (.slice pb 2 cb) [⟨2, 1, 0, 0, 0⟩, ⟨2, 2, 0, 0, 0⟩] false _ (past_sl SB.out) rfl)))))
        refine wpQuiet_nil ?_
        rintro _ ⟨x, rfl⟩
        replace bel : Below w.heap.size w (past w16 x) := bel.trans (x.h.mono bel.size)
        clear pB0
        clear pX0 pX1 pX2 pX3 pX4
        clear pC0
        clear pY0 pY1 pY2 pY3 pY4
        clear pZ0 pZ1 pZ2 pZ3 pZ4
        clear cB0 fB zB cX0 cX1 cX2 cX3 cX4 fX zX cC0 fC zC cY0 cY1 cY2 cY3 cY4 fY zY cZ0 cZ1 cZ2 cZ3 cZ4 fZ zZ
        replace oB := oB.past x
        replace oX := oX.past x
        replace oC := oC.past x
        replace oY := oY.past x
        replace oZ := oZ.past x
        generalize past w16 x = w17 at oB oX oC oY oZ bel ⊢
        obtain ⟨cB0, fB, zB⟩ := own1 oB
        obtain ⟨cX0, cX1, cX2, cX3, cX4, fX, zX⟩ := own5r oX
        obtain ⟨cC0, fC, zC⟩ := own1 oC
        obtain ⟨cY0, cY1, cY2, cY3, cY4, fY, zY⟩ := own5r oY
        obtain ⟨cZ0, cZ1, cZ2, cZ3, cZ4, fZ, zZ⟩ := own5r oZ
        go_wp2
        go_ret
        exact ⟨rfl, bel⟩
end Go.Proofs.Ytlfdbmndikdhdaa

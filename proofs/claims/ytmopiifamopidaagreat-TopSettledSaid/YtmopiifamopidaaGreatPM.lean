/- What Ask returns. No condition but those named. -/
import Derived.Test.YtmopiifamopidaaGreatPE
import Derived.Test.YtmopiifamopidaaGreatPD
import Derived.Outline
import Derived.Test.YtmopiifamopidaaGreatPL
import Derived.Test.YtmopiifamopidaaGreatPG
import Derived.Shelf.SlSortCmp.SmallK
import Derived.Shelf.Small.Bits
import Derived.Test.YtmopiifamopidaaGreatProg
import Derived.Test.YtmopiifamopidaaGreatPC
import Derived.Deep.CutRange
set_option linter.unusedVariables false
set_option linter.unusedSimpArgs false
section
namespace Go.Proofs.YtmopiifamopidaaGreat
open Go.RowKit
set_option maxRecDepth 100000 in
set_option maxHeartbeats 2000000 in
theorem ask2_any (b1 b2 bp bt bn : Nat) (p : Int) (P : Int → Int → Bool) (d : Ak) (w : World) (h1 : b1 < w.heap.size) (h2 : b2 < w.heap.size) (m1 : w.cell? ⟨b1, 0, none⟩ = some (.int .i64 p)) (m2 : w.cell? ⟨b2, 0, none⟩ = some (.func (.func 34) #[] #[.pointer (some ⟨bp, 0, none⟩), .pointer (some ⟨bt, 0, none⟩), .pointer (some ⟨bn, 0, none⟩)]))
  (hP : ∀ (s o : Int) (wx : World), Below w.heap.size w wx → Calls Tryz.prog 34 #[.agg #[.int .i64 s, .int .i64 o], .pointer (some ⟨bp, 0, none⟩), .pointer (some ⟨bt, 0, none⟩), .pointer (some ⟨bn, 0, none⟩)] wx fun e w' => e = .returned (.bool (P s o)) ∧ Below wx.heap.size wx w') :
  Calls Tryz.prog 37 #[.agg #[.int .i64 d.s, .int .i64 d.o, .int .i64 d.p], .pointer (some ⟨b1, 0, none⟩), .pointer (some ⟨b2, 0, none⟩)] w fun e w' => e = .returned (.bool (d.p == p && P d.s d.o)) ∧ Below w.heap.size w w' := by
 have BX := Lib.hid (belowNew w (Obj.cells #[.int .i64 d.s, .int .i64 d.o, .int .i64 d.p] 81))
 have n1 := (BX.out.cell (p := ⟨b1, 0, none⟩) h1).trans m1
 have n2 := (BX.out.cell (p := ⟨b2, 0, none⟩) h2).trans m2
 have HP := Lib.hid hP
 clear m1 m2 hP
 cases hg : (d.p == p) with
 | false =>
  go_enter Tryz.func37, Tryz.ntmps37
  go_wp2_with fail
  all_goals (go_ret; exact ⟨ret_bool (by simp), BX.out⟩)
 | true =>
  go_enter Tryz.func37, Tryz.ntmps37
  go_wp2_with fail
  refine (HP.out d.s d.o _ BX.out).mono ?_
  rintro e w1 ⟨rfl, hb⟩
  have B1 := Lib.hid (belowTo BX.out hb BX.out.size)
  clear hb
  go_wp2_with fail
  all_goals (go_ret; exact ⟨ret_bool (by simp), B1.out⟩)
set_option maxRecDepth 100000 in
set_option maxHeartbeats 2000000 in
theorem onlyo_q (v : Value) (l : List Ak) (b1 b2 : Nat) (q : Ak → Bool) (w : World) (sl : SlA w v l) (h100 : l.length ≤ 100) (hq : ∀ (d : Ak) (wx : World), Below w.heap.size w wx → Calls Tryz.prog 37 #[.agg #[.int .i64 d.s, .int .i64 d.o, .int .i64 d.p], .pointer (some ⟨b1, 0, none⟩), .pointer (some ⟨b2, 0, none⟩)] wx fun e w' => e = .returned (.bool (q d)) ∧ Below wx.heap.size wx w') : Calls Tryz.prog 36 #[v, .func (.func 37) #[] #[.pointer (some ⟨b1, 0, none⟩), .pointer (some ⟨b2, 0, none⟩)]] w fun e w' => OwnA w (l.filter q) e w' := by
 obtain ⟨p, cap, e0, hlc, hcm, hpn⟩ := sl.form l.length rfl
 subst e0
 have SL := Lib.hid sl
 unfold maxLen at hcm
 clear hpn sl
 obtain ⟨i0, hi, hz, hs0, hb0⟩ := info_parts info_a
 have IF := Lib.hid (And.intro hi (And.intro hz (And.intro hs0 hb0)))
 clear hi hz hs0 hb0
 have HQ := Lib.hid hq
 clear hq
 go_enter Tryz.func36, Tryz.ntmps36
 go_wp2_with fail
 go_loopw [5, 10] (fun out ii wz => ∃ (i : Nat) (qs : List Ak), i ≤ l.length ∧ ii = .int .i64 i ∧ qs = (l.take i).filter q ∧ wz.ownsRow w.heap.size 81 3 out qs.length (flatT akL qs) ∧ Below w.heap.size w wz) (fun _ i _ => l.length - (intOf i).toNat)
 case atStart => exact ⟨0, [], by omega, rfl, rfl, World.ownsRow_nil _ _ _ _, Below.refl _ _⟩
 case round =>
  obtain ⟨i, qs, hi, rfl, hq, hown, bel⟩ := hrel
  have hql : qs.length ≤ 100 := by rw [hq]; have := filt_leB q l i; omega
  have HQS := Lib.hid hq
  have HOWN := Lib.hid hown
  have BE := Lib.hid bel
  clear hq hown bel
  have j0 : (0 : Int) ≤ (i : Int) := Int.natCast_nonneg _
  by_cases hlt : i < l.length
  ·obtain ⟨d, b, off, hd, rfl, hbl, _, d0, d1, d2⟩ := SL.out.atA BE.out hlt
   have j1 : (i : Int) < (l.length : Int) := by omega
   have HD := Lib.hid (take_filtB (p := q) hd)
   clear hd
   have B1 := Lib.hid (BE.out.alloc BE.out.size (.cells #[.int .i64 d.s, .int .i64 d.o, .int .i64 d.p] 81))
   cases hn : (q d) with
   | false =>
    have HN := Lib.hid hn
    clear hn
    go_wp2_with fail
    refine (HQ.out d _ B1.out).mono ?_
    rintro e w1 ⟨rfl, hbb⟩
    rw [HN.out]
    have B2 := Lib.hid (belowTo B1.out hbb B1.out.size)
    have H1 := Lib.hid (ownsRow_belowD (HOWN.out.alloc (.cells #[.int .i64 d.s, .int .i64 d.o, .int .i64 d.p] 81)) hbb)
    have oE := Lib.hid ((own_at (w := wr) [.int .i64 d.s, .int .i64 d.o, .int .i64 d.p] 81 rfl).below hbb)
    obtain ⟨x0, x1, x2, fE, zE⟩ := own3 oE.out
    clear hbb
    go_wp2_with fail
    go_roundw
    case rel => exact ⟨i + 1, qs, by omega, by go_num, by rw [HD.out, HQS.out]; simp only [HN.out]; simp, H1.out, B2.out⟩
    case measure => simp [intOf]; omega
   | true =>
    have HN := Lib.hid hn
    clear hn
    go_wp2_with fail
    refine (HQ.out d _ B1.out).mono ?_
    rintro e w1 ⟨rfl, hbb⟩
    rw [HN.out]
    have B2 := Lib.hid (belowTo B1.out hbb B1.out.size)
    have H1 := Lib.hid (ownsRow_belowD (HOWN.out.alloc (.cells #[.int .i64 d.s, .int .i64 d.o, .int .i64 d.p] 81)) hbb)
    have oE := Lib.hid ((own_at (w := wr) [.int .i64 d.s, .int .i64 d.o, .int .i64 d.p] 81 rfl).below hbb)
    obtain ⟨x0, x1, x2, fE, zE⟩ := own3 oE.out
    clear hbb
    go_wp2_with (at_builtin; refine wpList_append_own _ rfl _ _ 41 rfl w.heap.size 81 i0 _ 3 24 (by kernel_rfl) IF.out.1 IF.out.2.1 IF.out.2.2.1 IF.out.2.2.2 rfl (by decide) _ qs.length (flatT akL qs) rfl (H1.out.alloc _) _ 1 1 (akL.f d) rfl rfl (newsT (L := akL) w1 d 81) (akL.one _) ?qc4 ?qc5 ?qc6 ?_)
    case qc4 => unfold maxLen; omega
    case qc5 => omega
    case qc6 => have := B2.out.size; simp; omega
    intro v2 w2 hown hgrow hnil
    have B3 := Lib.hid ((B2.out.alloc B2.out.size _).grown hgrow (by have := B2.out.size; simp; omega) (fun k hk => (H1.out.lt k hk).1))
    have H2 := Lib.hid hown
    clear hown hgrow hnil
    go_wp2_with fail
    go_roundw
    case rel => exact ⟨i + 1, qs ++ [d], by omega, by go_num, by rw [HD.out, HQS.out]; simp only [HN.out]; simp, by have := H2.out; rw [flatT_append, flatT_one]; simpa using this, B3.out⟩
    case measure => simp [intOf]; omega
  ·have HQ2 := Lib.hid (show qs = l.filter q by have h := HQS.out; rw [List.take_of_length_le (by omega)] at h; exact h)
   go_wp2_with fail
   go_ret
   exact ⟨_, rfl, by rw [← HQ2.out]; exact HOWN.out, BE.out⟩
end Go.Proofs.YtmopiifamopidaaGreat
end
section
namespace Go.Proofs.YtmopiifamopidaaGreat
open Go.RowKit
attribute [local go_sem] Oper.semAt_some
structure KpT (b1 bs : Nat) (A B : World) : Prop where
 k1 : ∀ cs t, Own A b1 cs t → Own B b1 cs t
 k2 : ∀ cs t, Own A bs cs t → Own B bs cs t
 sz : A.heap.size ≤ B.heap.size
theorem KpT.refl (b1 bs : Nat) (W : World) : KpT b1 bs W W := ⟨fun _ _ h => h, fun _ _ h => h, Nat.le_refl _⟩
theorem KpT.trans {b1 bs : Nat} {A B C : World} (h : KpT b1 bs A B) (k : KpT b1 bs B C) : KpT b1 bs A C := ⟨fun cs t o => k.k1 cs t (h.k1 cs t o), fun cs t o => k.k2 cs t (h.k2 cs t o), Nat.le_trans h.sz k.sz⟩
theorem KpT.below {b1 bs : Nat} {A B : World} (h : Below A.heap.size A B) : KpT b1 bs A B := ⟨fun _ _ o => o.below h, fun _ _ o => o.below h, h.size⟩
theorem own_put {A : World} {l b : Nat} {o o' : Obj} {cs : List Value} {t : TypeId} (h : A.heap[l]? = some o) (hc : o.isCells = false) (k : Own A b cs t) : Own (A.putObj l o') b cs t := by
 have hne : b ≠ l := by
  rintro rfl
  have e : some _ = some _ := k.symm.trans h
  injection e with e
  subst e
  cases hc
 exact (World.putObj_heap_other hne).trans k
theorem KpT.put {b1 bs : Nat} (W : World) (l : Nat) (o o' : Obj) (h : W.heap[l]? = some o) (hc : o.isCells = false) : KpT b1 bs W (W.putObj l o') :=
 ⟨fun _ _ k => own_put h hc k, fun _ _ k => own_put h hc k, by rw [World.putObj_size]; exact Nat.le_refl _⟩
def triL (D me f : Int) : List (Int × Int) := (List.range (16 * D).toNat).map (triC D me f)
theorem triL_at {D me f : Int} {k : Nat} (_ : k < (16 * D).toNat) : (List.range (k + 1)).map (triC D me f) = (List.range k).map (triC D me f) ++ [triC D me f k] := by
 rw [List.range_succ, List.map_append]; rfl
theorem triL_pre {D me f : Int} {k : Nat} (h : k ≤ (16 * D).toNat) : (List.range k).map (triC D me f) <+: triL D me f := by
 obtain ⟨m, hm⟩ : ∃ m, (16 * D).toNat = k + m := ⟨(16 * D).toNat - k, by omega⟩
 unfold triL
 rw [hm, List.range_add, List.map_append]
 exact ⟨_, rfl⟩
set_option maxRecDepth 100000 in
set_option maxHeartbeats 2000000 in
theorem tri1_in (n l b1 bs : Nat) (N D me f : Int) (sp : Option Addr) (sn sc : Nat) (hD : 1 ≤ D ∧ D ≤ 60) (hme : 0 ≤ me ∧ me ≤ 1000) (hf : 0 ≤ f ∧ f ≤ 1000000) (J Jx : List (Int × Int) → World → Prop) (W : World)
  (hJ : AbidesFrom W.heap.size J) (hY : ∀ pre (x : Int × Int) W1, J pre W1 → pre.length < (16 * D).toNat → YieldAt Fence.wide (n - 1) Tryz.prog l #[.agg #[.int .i64 x.1, .int .i64 x.2]] W1 fun e W' =>
   (e = .returned (.bool true) ∧ J (pre ++ [x]) W' ∧ KpT b1 bs W1 W') ∨ (e = .returned (.bool false) ∧ Jx (pre ++ [x]) W'))
  (o1 : Own W b1 [.pointer (some ⟨bs, 0, none⟩)] 82) (os : Own W bs [.int .i64 N, .int .i64 D, .int .i64 me, .slice sp sn sc, .int .i64 f] 93) (h0 : J [] W) (hn : 1 ≤ n) :
  CallsIn Fence.wide n Tryz.prog 78 #[.func (.yield l) #[] #[], .pointer (some ⟨b1, 0, none⟩)] W fun e W' => (∃ v, e = .returned v) ∧
   ((∃ xs, xs = triL D me f ∧ J xs W') ∨ (∃ pre, pre <+: triL D me f ∧ Jx pre W')) := by
 have HJ := Lib.hid hJ
 have HY := Lib.hid hY
 have J0 := Lib.hid h0
 have O1 := Lib.hid o1
 have OS := Lib.hid os
 obtain ⟨c1, _, z1⟩ := own1 o1
 obtain ⟨s0, s1, s2, s3, s4, _, zS⟩ := own5 os
 clear hJ hY o1 os h0
 obtain ⟨D0, D1⟩ := hD
 obtain ⟨m0, m1⟩ := hme
 obtain ⟨f0, f1⟩ := hf
 have w1 : IntKind.i64.wrap (16 * D) = 16 * D := IntWalk.i64_in _ (by omega)
 have w2 : IntKind.i64.wrap (17 * me) = 17 * me := IntWalk.i64_in _ (by omega)
 have w3 : IntKind.i64.wrap (5 * f) = 5 * f := IntWalk.i64_in _ (by omega)
 have w4 : IntKind.i64.wrap (17 * me + 5 * f) = 17 * me + 5 * f := IntWalk.i64_in _ (by omega)
 have q1 : (16 * D == 0) = false := by simp; omega
 have q2 : (D == 0) = false := by simp; omega
 have q3 : ¬ 16 * D = 0 := by omega
 have q4 : ¬ D = 0 := by omega
 refine callsIn_of_wp Tryz.func78 rfl trivial ?_ rfl
 simp only [Tryz.ntmps78, List.size_toArray, List.length_cons, List.length_nil, Nat.reduceAdd, Nat.reduceSub, Array.replicate_succ, Array.replicate_zero, List.push_toArray, List.append_toArray, List.nil_append, List.cons_append]
 gi_wp2
 clear c1 z1 s0 s1 s2 s3 s4 zS
 gi_loopw [13] (fun ii wr => ∃ (k : Nat), ii = .int .i64 k ∧ (k : Int) ≤ 16 * D ∧ J ((List.range k).map (triC D me f)) wr ∧ Own wr b1 [.pointer (some ⟨bs, 0, none⟩)] 82 ∧ Own wr bs [.int .i64 N, .int .i64 D, .int .i64 me, .slice sp sn sc, .int .i64 f] 93 ∧ W.heap.size ≤ wr.heap.size) (fun i _ => (16 * D).toNat - (intOf i).toNat)
 case atStart => exact ⟨0, rfl, by omega, J0.out, O1.out, OS.out, Nat.le_refl _⟩
 case round =>
  clear J0 O1 OS
  obtain ⟨k, rfl, hk, hJs, o1, os, hsz⟩ := hrel
  have J0 := Lib.hid hJs
  have O1 := Lib.hid o1
  have OS := Lib.hid os
  have k0 : (0 : Int) ≤ (k : Int) := Int.natCast_nonneg _
  obtain ⟨c1, _, z1⟩ := own1 o1
  obtain ⟨s0, s1, s2, s3, s4, _, zS⟩ := own5 os
  clear hJs o1 os
  by_cases hlt : (k : Int) < 16 * D
  ·have w5 : IntKind.i64.wrap (17 * me + 5 * f + k) = 17 * me + 5 * f + k := IntWalk.i64_in _ (by omega)
   gi_wp2
   refine wpIn_wide.2 ?_
   go_quiet (fail)
   have e1 := Int.emod_nonneg (17 * me + 5 * f + k) (b := 16 * D) (by omega)
   have e2 := Int.emod_lt_of_pos (17 * me + 5 * f + k) (b := 16 * D) (by omega)
   have w6 : IntKind.i64.wrap (((17 * me + 5 * f + (k : Int)) % (16 * D)).tdiv D) = (17 * me + 5 * f + (k : Int)) % (16 * D) / D := by
    rw [Int.tdiv_eq_ediv_of_nonneg e1]
    have e3 := Int.ediv_nonneg e1 (b := D) (by omega)
    have e4 := Int.ediv_le_self D e1
    exact IntWalk.i64_in _ (by omega)
   have w8 : (17 * me + 5 * f + (k : Int)) % (16 * D) % D = (17 * me + 5 * f + (k : Int)) % D := Int.emod_emod_of_dvd _ (Int.dvd_mul_left 16 D)
   have w7 : ((17 * me + 5 * f + (k : Int)) % (16 * D)).tmod D = (17 * me + 5 * f + (k : Int)) % D := (Int.tmod_eq_emod_of_nonneg e1).trans w8
   clear c1 z1 s0 s1 s2 s3 s4 zS
   have JJ := Lib.hid (HJ.out ((List.range k).map (triC D me f)) wr (wr.drewN nq) none J0.out ⟨rfl, rfl, rfl, Nat.le_refl _, fun _ _ _ => rfl⟩ (fun r e => by cases e))
   have O1q := Lib.hid (show Own (wr.drewN nq) b1 [.pointer (some ⟨bs, 0, none⟩)] 82 from O1.out)
   have OSq := Lib.hid (show Own (wr.drewN nq) bs [.int .i64 N, .int .i64 D, .int .i64 me, .slice sp sn sc, .int .i64 f] 93 from OS.out)
   have hsq : W.heap.size ≤ (wr.drewN nq).heap.size := hsz
   clear J0 O1 OS hsz
   generalize wr.drewN nq = W3 at JJ O1q OSq hsq ⊢
   obtain ⟨c1, _, z1⟩ := own1 O1q.out
   obtain ⟨s0, s1, s2, s3, s4, _, zS⟩ := own5 OSq.out
   have JD := Lib.hid (HJ.out ((List.range k).map (triC D me f)) W3 W3.drew none JJ.out ⟨rfl, rfl, rfl, Nat.le_refl _, fun _ _ _ => rfl⟩ (fun r e => by cases e))
   obtain ⟨fn, tmps, assign, body, hy, hR⟩ := HY.out ((List.range k).map (triC D me f)) (triC D me f k) W3.drew JD.out (by simp; omega)
   replace hR : RoundIn Fence.wide (n - 1) Tryz.prog l fn tmps assign body W3.drew fun e W' => ∃ r, e = .returned (.bool r) ∧ ((r = true ∧ J (((List.range k).map (triC D me f)) ++ [triC D me f k]) W' ∧ KpT b1 bs W3.drew W') ∨ (r = false ∧ Jx (((List.range k).map (triC D me f)) ++ [triC D me f k]) W')) := hR.mono fun e W' h => by
    rcases h with ⟨h, h2⟩ | ⟨h, h2⟩
    ·exact ⟨true, h, .inl ⟨rfl, h2⟩⟩
    ·exact ⟨false, h, .inr ⟨rfl, h2⟩⟩
   have HRR := Lib.hid hR
   clear hR
   dsimp only [triC] at hy
   rw [w8] at hy
   clear w8
   gi_wp2
   refine region_S 18 #[false, false, false, false, false, false, false, false, false, false, false, false, false, false, false, false, false, false] (by kernel_rfl) (by kernel_rfl) (fun w' => w'.cell? ⟨b1, 0, none⟩ = some (.pointer (some ⟨bs, 0, none⟩)) ∧ w'.cell? ⟨bs, 1, none⟩ = some (.int .i64 D)) 16 _ (fun _ _ h => h) (fun _ => trivial) (by kernel_rfl) ?x1s (fun hHeld hClo => ?x1r)
   case x1s => exact ⟨c1, s1⟩
   refine wpS_take (i := 0) (some 31) 40 (v := ?x2v) (fun _ => trivial) (by kernel_rfl) rfl (by kernel_rfl) (by kernel_rfl) (by kernel_rfl) (by kernel_rfl) rfl (Or.inl ⟨by rfl, ?x2y⟩) hHeld hClo ?x2r
   case x2y => (intro w hSw; (try dsimp only at hSw); go_simp; try with_reducible rfl)
   (intro hN; clear hClo; have hClo := hN; clear hN)
   try simp only [Act.put, List.setIfInBounds_toArray, List.set_cons_zero, List.set_cons_succ]
   refine wpS_take (i := 1) (some 32) 40 (v := ?x3v) (fun _ => trivial) (by kernel_rfl) rfl (by kernel_rfl) (by kernel_rfl) (by kernel_rfl) (by kernel_rfl) rfl (Or.inl ⟨by rfl, ?x3y⟩) hHeld hClo ?x3r
   case x3y => (intro w hSw; (try dsimp only at hSw); go_simp; try with_reducible rfl)
   (intro hN; clear hClo; have hClo := hN; clear hN)
   try simp only [Act.put, List.setIfInBounds_toArray, List.set_cons_zero, List.set_cons_succ]
   refine wpS_take (i := 2) (some 33) 40 (v := ?x4v) (fun _ => trivial) (by kernel_rfl) rfl (by kernel_rfl) (by kernel_rfl) (by kernel_rfl) (by kernel_rfl) rfl (Or.inl ⟨by rfl, ?x4y⟩) hHeld hClo ?x4r
   case x4y => (intro w hSw; (try dsimp only at hSw); go_simp; try with_reducible rfl)
   (intro hN; clear hClo; have hClo := hN; clear hN)
   try simp only [Act.put, List.setIfInBounds_toArray, List.set_cons_zero, List.set_cons_succ]
   refine wpS_take (i := 3) (some 34) 40 (v := ?x5v) (fun _ => trivial) (by kernel_rfl) rfl (by kernel_rfl) (by kernel_rfl) (by kernel_rfl) (by kernel_rfl) rfl (Or.inl ⟨by rfl, ?x5y⟩) hHeld hClo ?x5r
   case x5y => (intro w hSw; (try dsimp only at hSw); go_simp; try with_reducible rfl)
   (intro hN; clear hClo; have hClo := hN; clear hN)
   try simp only [Act.put, List.setIfInBounds_toArray, List.set_cons_zero, List.set_cons_succ]
   refine wpS_take (i := 4) (some 35) 40 (v := ?x6v) (fun _ => trivial) (by kernel_rfl) rfl (by kernel_rfl) (by kernel_rfl) (by kernel_rfl) (by kernel_rfl) rfl (Or.inl ⟨by rfl, ?x6y⟩) hHeld hClo ?x6r
   case x6y => (intro w hSw; (try dsimp only at hSw); go_simp; try with_reducible rfl)
   (intro hN; clear hClo; have hClo := hN; clear hN)
   try simp only [Act.put, List.setIfInBounds_toArray, List.set_cons_zero, List.set_cons_succ]
   refine wpS_take (i := 5) (some 36) 40 (v := ?x7v) (fun _ => trivial) (by kernel_rfl) rfl (by kernel_rfl) (by kernel_rfl) (by kernel_rfl) (by kernel_rfl) rfl (Or.inl ⟨by rfl, ?x7y⟩) hHeld hClo ?x7r
   case x7y => (intro w hSw; (try dsimp only at hSw); go_simp; try with_reducible rfl)
   (intro hN; clear hClo; have hClo := hN; clear hN)
   try simp only [Act.put, List.setIfInBounds_toArray, List.set_cons_zero, List.set_cons_succ]
   refine wpS_take (i := 6) (some 37) 40 (v := ?x8v) (fun _ => trivial) (by kernel_rfl) rfl (by kernel_rfl) (by kernel_rfl) (by kernel_rfl) (by kernel_rfl) rfl (Or.inl ⟨by rfl, ?x8y⟩) hHeld hClo ?x8r
   case x8y => (intro w hSw; (try dsimp only at hSw); go_simp; try with_reducible rfl)
   (intro hN; clear hClo; have hClo := hN; clear hN)
   try simp only [Act.put, List.setIfInBounds_toArray, List.set_cons_zero, List.set_cons_succ]
   refine wpS_take (i := 7) (some 38) 40 (v := ?x9v) (fun _ => trivial) (by kernel_rfl) rfl (by kernel_rfl) (by kernel_rfl) (by kernel_rfl) (by kernel_rfl) rfl (Or.inl ⟨by rfl, ?x9y⟩) hHeld hClo ?x9r
   case x9y => (intro w hSw; (try dsimp only at hSw); go_simp; try with_reducible rfl)
   (intro hN; clear hClo; have hClo := hN; clear hN)
   try simp only [Act.put, List.setIfInBounds_toArray, List.set_cons_zero, List.set_cons_succ]
   refine wpS_take (i := 8) (some 39) 40 (v := ?x10v) (fun _ => trivial) (by kernel_rfl) rfl (by kernel_rfl) (by kernel_rfl) (by kernel_rfl) (by kernel_rfl) rfl (Or.inl ⟨by rfl, ?x10y⟩) hHeld hClo ?x10r
   case x10y => (intro w hSw; (try dsimp only at hSw); go_simp; try with_reducible rfl)
   (intro hN; clear hClo; have hClo := hN; clear hN)
   try simp only [Act.put, List.setIfInBounds_toArray, List.set_cons_zero, List.set_cons_succ]
   refine wpS_take (i := 9) (some 40) 40 (v := ?x11v) (fun _ => trivial) (by kernel_rfl) rfl (by kernel_rfl) (by kernel_rfl) (by kernel_rfl) (by kernel_rfl) rfl (Or.inl ⟨by rfl, ?x11y⟩) hHeld hClo ?x11r
   case x11y => (intro w hSw; (try dsimp only at hSw); go_simp; try with_reducible rfl)
   (intro hN; clear hClo; have hClo := hN; clear hN)
   try simp only [Act.put, List.setIfInBounds_toArray, List.set_cons_zero, List.set_cons_succ]
   refine wpS_take (i := 10) (some 41) 40 (v := ?x12v) (fun _ => trivial) (by kernel_rfl) rfl (by kernel_rfl) (by kernel_rfl) (by kernel_rfl) (by kernel_rfl) rfl (Or.inl ⟨by rfl, ?x12y⟩) hHeld hClo ?x12r
   case x12y => (intro w hSw; (try dsimp only at hSw); go_simp; try with_reducible rfl)
   (intro hN; clear hClo; have hClo := hN; clear hN)
   try simp only [Act.put, List.setIfInBounds_toArray, List.set_cons_zero, List.set_cons_succ]
   refine wpS_take (i := 11) (some 42) 40 (v := ?x13v) (fun _ => trivial) (by kernel_rfl) rfl (by kernel_rfl) (by kernel_rfl) (by kernel_rfl) (by kernel_rfl) rfl (Or.inl ⟨by rfl, ?x13y⟩) hHeld hClo ?x13r
   case x13y => (intro w hSw; (try dsimp only at hSw); go_simp; try with_reducible rfl)
   (intro hN; clear hClo; have hClo := hN; clear hN)
   try simp only [Act.put, List.setIfInBounds_toArray, List.set_cons_zero, List.set_cons_succ]
   refine wpS_take (i := 12) (some 43) 40 (v := ?x14v) (fun _ => trivial) (by kernel_rfl) rfl (by kernel_rfl) (by kernel_rfl) (by kernel_rfl) (by kernel_rfl) rfl (Or.inl ⟨by rfl, ?x14y⟩) hHeld hClo ?x14r
   case x14y => (intro w hSw; (try dsimp only at hSw); go_simp; try with_reducible rfl)
   (intro hN; clear hClo; have hClo := hN; clear hN)
   try simp only [Act.put, List.setIfInBounds_toArray, List.set_cons_zero, List.set_cons_succ]
   refine wpS_take (i := 13) (some 44) 40 (v := ?x15v) (fun _ => trivial) (by kernel_rfl) rfl (by kernel_rfl) (by kernel_rfl) (by kernel_rfl) (by kernel_rfl) rfl (Or.inl ⟨by rfl, ?x15y⟩) hHeld hClo ?x15r
   case x15y => (intro w hSw; (try dsimp only at hSw); go_simp; try with_reducible rfl)
   (intro hN; clear hClo; have hClo := hN; clear hN)
   try simp only [Act.put, List.setIfInBounds_toArray, List.set_cons_zero, List.set_cons_succ]
   refine wpS_take (i := 14) (some 45) 40 (v := ?x16v) (fun _ => trivial) (by kernel_rfl) rfl (by kernel_rfl) (by kernel_rfl) (by kernel_rfl) (by kernel_rfl) rfl (Or.inl ⟨by rfl, ?x16y⟩) hHeld hClo ?x16r
   case x16y => (intro w hSw; (try dsimp only at hSw); go_simp; try with_reducible rfl)
   (intro hN; clear hClo; have hClo := hN; clear hN)
   try simp only [Act.put, List.setIfInBounds_toArray, List.set_cons_zero, List.set_cons_succ]
   refine wpS_take (i := 15) (some 46) 40 (v := ?x17v) (fun _ => trivial) (by kernel_rfl) rfl (by kernel_rfl) (by kernel_rfl) (by kernel_rfl) (by kernel_rfl) rfl (Or.inl ⟨by rfl, ?x17y⟩) hHeld hClo ?x17r
   case x17y => (intro w hSw; (try dsimp only at hSw); go_simp; try with_reducible rfl)
   (intro hN; clear hClo; have hClo := hN; clear hN)
   try simp only [Act.put, List.setIfInBounds_toArray, List.set_cons_zero, List.set_cons_succ]
   refine wpS_one (i := 16) (by kernel_rfl) rfl hClo (fun K hK => ?_)
   rw [if_pos (by rfl)]
   go_simp
   refine HRR.out.mono ?_
   rintro e W4 ⟨r, rfl, hr⟩
   replace hr := Lib.hid hr
   clear c1 z1 s0 s1 s2 s3 s4 zS hy HRR
   dsimp only
   refine hK _ _ (fun e => absurd (e.symm.trans (by kernel_rfl : _ = true)) (by decide)) ?_
   clear hK K
   intro hHeld
   (intro hN; clear hClo; have hClo := hN; clear hN)
   try simp only [Act.put, List.setIfInBounds_toArray, List.set_cons_zero, List.set_cons_succ]
   refine wpS_one (i := 17) (by kernel_rfl) rfl hClo (fun K hK => ?_)
   rw [if_pos (by rfl)]
   go_simp
   refine hK _ _ (fun e => absurd (e.symm.trans (by kernel_rfl : _ = true)) (by decide)) ?_
   clear hK K
   intro hHeld
   (intro hN; clear hClo; have hClo := hN; clear hN)
   try simp only [Act.put, List.setIfInBounds_toArray, List.set_cons_zero, List.set_cons_succ]
   refine wpS_done (by kernel_rfl) ?_ _
   replace hr := hr.out
   clear hHeld hClo
   rcases hr with ⟨rfl, hJ4, hk4⟩ | ⟨rfl, hJx⟩
   ·have O14 := hk4.k1 _ _ (show Own W3.drew b1 [.pointer (some ⟨bs, 0, none⟩)] 82 from O1q.out)
    have OS4 := hk4.k2 _ _ (show Own W3.drew bs [.int .i64 N, .int .i64 D, .int .i64 me, .slice sp sn sc, .int .i64 f] 93 from OSq.out)
    have hs4 : W.heap.size ≤ W4.heap.size := Nat.le_trans hsq hk4.sz
    gi_wp2
    go_roundw
    case rel => exact ⟨k + 1, by go_num, by omega, by rw [triL_at (by omega)]; exact hJ4, O14, OS4, hs4⟩
    case measure => simp [intOf]; omega
   ·gi_wp2
    refine bodyPost_ret (results_none rfl _ _ _) rfl ?_
    exact ⟨⟨_, rfl⟩, .inr ⟨_, by rw [← triL_at (by omega)]; exact triL_pre (by omega), hJx⟩⟩
  ·obtain ⟨m, hm⟩ : ∃ m : Nat, (16 * D).toNat = m := ⟨_, rfl⟩
   have hkm : k = (16 * D).toNat := by omega
   have JE := Lib.hid (show J (triL D me f) wr from by unfold triL; rw [← hkm]; exact J0.out)
   clear hm hkm
   gi_wp2
   go_end0
   exact ⟨⟨_, rfl⟩, .inl JE.out⟩
  theorem tri_stops (n b1 bs : Nat) (N D me f : Int) (sp : Option Addr) (sn sc : Nat) (hD : 1 ≤ D ∧ D ≤ 60) (hme : 0 ≤ me ∧ me ≤ 1000) (hf : 0 ≤ f ∧ f ≤ 1000000) (w : World) (o1 : Own w b1 [.pointer (some ⟨bs, 0, none⟩)] 82) (os : Own w bs [.int .i64 N, .int .i64 D, .int .i64 me, .slice sp sn sc, .int .i64 f] 93) (hn : 1 ≤ n) :
    SeqStopsK Fence.wide n Tryz.prog 78 #[.pointer (some ⟨b1, 0, none⟩)] (fun x : Int × Int => #[.agg #[.int .i64 x.1, .int .i64 x.2]]) (KpT b1 bs) (fun xs => xs = triL D me f) (fun pre => pre <+: triL D me f) (16 * D).toNat w := by
   intro l J Jx W hW hJ _ hY h0
   exact tri1_in n l b1 bs N D me f sp sn sc hD hme hf J Jx W hJ hY (o1.below hW) (os.below hW) h0 hn
end Go.Proofs.YtmopiifamopidaaGreat
end
section
namespace Go.Proofs.YtmopiifamopidaaGreat
open Go.RowKit
theorem storeNewF {ops : Array Oper} {rest : List Oper} {op : Oper} {a : Act} {w : World} {Q : Exit → Act → World → Prop} (ty : TypeId) (v c : Value) (b : Nat) (t : TypeId) (hw : Region.wanted op (yielded ops a.tmps) = true)
  (hs : ∃ x y : Operand, op.op = .store ty x y ∧ a.eval x = .pointer (some ⟨b, 0, none⟩) ∧ a.eval y = v) (hb : b = w.heap.size) (hi : (Tryz.prog.info? ty).map (·.size) = some 1) (h1 : v.oneCell' = true)
  (h : wpList Tryz.prog ops Q rest (a.put op.dst undef) (w.alloc (.cells #[v] t))) : wpList Tryz.prog ops Q (op :: rest) a (w.alloc (.cells #[c] t)) := by
 obtain ⟨x, y, e, hx, hy⟩ := hs
 subst hb
 refine BigFrame.wpList_want hw fun K hK => ?_
 have hcv : v.cells = #[v] := by cases v <;> first | rfl | cases h1
 have heq : ∀ A, storeVar ty A v = storeVar ty A (.agg #[v]) := fun A => by unfold storeVar; rw [hcv]; rfl
 have h8 := own_there (own_at (w := w) [c] t rfl)
 unfold Oper.wp execOp
 simp only [e, hx, hy, Instr.storeAt, Instr.sureAddr, Sem.run_bind, Sem.run_pure, Result.andThen_ok, heq, run_storeVar_mid (P := Tryz.prog) (w.alloc (.cells #[c] t)) w.heap.size 0 ty #[v] (by simpa using h8) (by simpa using hi) (all_oneCell_toArray (by simpa using h1))]
 have h9 := alloc_setCells (t := t) [v] [c] [] w rfl
 simp only [List.nil_append, List.length_nil] at h9
 have h10 := hK (a.put op.dst undef) (w.alloc (.cells #[v] t)) h
 rw [← h9] at h10
 exact h10
end Go.Proofs.YtmopiifamopidaaGreat
end
section
namespace Go.Proofs
open Go.Shelf
def Tryz.sortL_ren : Go.Shelf.Ren := ⟨fun | 6 => 41 | 15 => 81 | 14 => 80 | 28 => 110 | 29 => 111 | 20 => 102 | 21 => 103 | 22 => 104 | 23 => 105 | 24 => 106 | 25 => 107 | 26 => 108 | 27 => 109 | 46 => 116 | 47 => 117 | 48 => 118 | 49 => 119 | 50 => 120 | 57 => 121 | n => n, fun | 22 => 41 | 24 => 81 | 25 => 119 | 3 => 3 | 39 => 151 | 0 => 0 | 53 => 183 | 55 => 64 | 4 => 4 | 46 => 176 | 45 => 175 | 50 => 180 | 5 => 5 | 9 => 9 | 66 => 189 | 70 => 193 | 76 => 195 | 77 => 196 | n => n, fun | n => n⟩
theorem Tryz.sortL : Go.Proofs.SlLaysF0.n6 Tryz.prog Tryz.sortL_ren := {
 mixed := by kernel_rfl
 f6 := ⟨Tryz.f41.name, by decide, Tryz.func41.trans (congrArg some (by kernel_rfl))⟩
 f14 := ⟨Tryz.f80.name, by decide, Tryz.func80.trans (congrArg some (by kernel_rfl))⟩
 f15 := Tryz.func81.trans (congrArg some (by kernel_rfl))
 f20 := ⟨Tryz.f102.name, by decide, Tryz.func102.trans (congrArg some (by kernel_rfl))⟩
 f21 := ⟨Tryz.f103.name, by decide, Tryz.func103.trans (congrArg some (by kernel_rfl))⟩
 f22 := ⟨Tryz.f104.name, by decide, Tryz.func104.trans (congrArg some (by kernel_rfl))⟩
 f23 := ⟨Tryz.f105.name, by decide, Tryz.func105.trans (congrArg some (by kernel_rfl))⟩
 f24 := ⟨Tryz.f106.name, by decide, Tryz.func106.trans (congrArg some (by kernel_rfl))⟩
 f25 := ⟨Tryz.f107.name, by decide, Tryz.func107.trans (congrArg some (by kernel_rfl))⟩
 f26 := ⟨Tryz.f108.name, by decide, Tryz.func108.trans (congrArg some (by kernel_rfl))⟩
 f27 := ⟨Tryz.f109.name, by decide, Tryz.func109.trans (congrArg some (by kernel_rfl))⟩
 f28 := Tryz.func110.trans (congrArg some (by kernel_rfl))
 f29 := Tryz.func111.trans (congrArg some (by kernel_rfl))
 f46 := ⟨Tryz.f116.name, by decide, Tryz.func116.trans (congrArg some (by kernel_rfl))⟩
 f47 := Tryz.func117.trans (congrArg some (by kernel_rfl))
 f48 := Tryz.func118.trans (congrArg some (by kernel_rfl))
 f49 := ⟨Tryz.f119.name, by decide, Tryz.func119.trans (congrArg some (by kernel_rfl))⟩
 f50 := ⟨Tryz.f120.name, by decide, Tryz.func120.trans (congrArg some (by kernel_rfl))⟩
 f57 := ⟨Tryz.f121.name, by decide, Tryz.func121.trans (congrArg some (by kernel_rfl))⟩
 t0 := Tryz.underlying0
 a0 := Tryz.isAgg0
 z0 := Tryz.sizeOf0
 v0 := Tryz.zeroValue0
 t3 := Tryz.underlying3
 a3 := Tryz.isAgg3
 z3 := Tryz.sizeOf3
 v3 := Tryz.zeroValue3
 t4 := Tryz.underlying4
 a4 := Tryz.isAgg4
 z4 := Tryz.sizeOf4
 v4 := Tryz.zeroValue4
 t5 := Tryz.underlying5
 a5 := Tryz.isAgg5
 z5 := Tryz.sizeOf5
 v5 := Tryz.zeroValue5
 t9 := Tryz.underlying9
 a9 := Tryz.isAgg9
 z9 := Tryz.sizeOf9
 v9 := Tryz.zeroValue9
 t22 := Tryz.underlying41
 a22 := Tryz.isAgg41
 z22 := Tryz.sizeOf41
 v22 := Tryz.zeroValue41
 t25 := Tryz.underlying119
 a25 := Tryz.isAgg119
 z25 := Tryz.sizeOf119
 v25 := Tryz.zeroValue119
 t39 := Tryz.underlying151
 a39 := Tryz.isAgg151
 z39 := Tryz.sizeOf151
 v39 := Tryz.zeroValue151
 t45 := Tryz.underlying175
 a45 := Tryz.isAgg175
 z45 := Tryz.sizeOf175
 v45 := Tryz.zeroValue175
 t46 := Tryz.underlying176
 a46 := Tryz.isAgg176
 z46 := Tryz.sizeOf176
 v46 := Tryz.zeroValue176
 t50 := Tryz.underlying180
 a50 := Tryz.isAgg180
 z50 := Tryz.sizeOf180
 v50 := Tryz.zeroValue180
 t53 := Tryz.underlying183
 a53 := Tryz.isAgg183
 z53 := Tryz.sizeOf183
 v53 := Tryz.zeroValue183
 t55 := Tryz.underlying64
 a55 := Tryz.isAgg64
 z55 := Tryz.sizeOf64
 v55 := Tryz.zeroValue64
 t66 := Tryz.underlying189
 a66 := Tryz.isAgg189
 z66 := Tryz.sizeOf189
 v66 := Tryz.zeroValue189
 t70 := Tryz.underlying193
 a70 := Tryz.isAgg193
 z70 := Tryz.sizeOf193
 v70 := Tryz.zeroValue193
 t76 := Tryz.underlying195
 a76 := Tryz.isAgg195
 z76 := Tryz.sizeOf195
 v76 := Tryz.zeroValue195
 t77 := Tryz.underlying196
 a77 := Tryz.isAgg196
 z77 := Tryz.sizeOf196
 v77 := Tryz.zeroValue196 }
def Tryz.bitsLen_ren : Go.Shelf.Ren := ⟨fun | 125 => 81 | 128 => 110 | 129 => 111 | n => n, fun | 46 => 151 | 3 => 3 | 51 => 183 | 53 => 64 | 4 => 4 | 5 => 5 | 9 => 9 | n => n, fun | n => n⟩
theorem Tryz.bitsLen : Go.Proofs.Lays.n125 Tryz.prog Tryz.bitsLen_ren := {
 mixed := by kernel_rfl
 f125 := Tryz.func81.trans (congrArg some (by kernel_rfl))
 f128 := Tryz.func110.trans (congrArg some (by kernel_rfl))
 f129 := Tryz.func111.trans (congrArg some (by kernel_rfl))
 t3 := Tryz.underlying3
 a3 := Tryz.isAgg3
 z3 := Tryz.sizeOf3
 v3 := Tryz.zeroValue3
 t4 := Tryz.underlying4
 a4 := Tryz.isAgg4
 z4 := Tryz.sizeOf4
 v4 := Tryz.zeroValue4
 t5 := Tryz.underlying5
 a5 := Tryz.isAgg5
 z5 := Tryz.sizeOf5
 v5 := Tryz.zeroValue5
 t9 := Tryz.underlying9
 a9 := Tryz.isAgg9
 z9 := Tryz.sizeOf9
 v9 := Tryz.zeroValue9
 t46 := Tryz.underlying151
 a46 := Tryz.isAgg151
 z46 := Tryz.sizeOf151
 v46 := Tryz.zeroValue151
 t51 := Tryz.underlying183
 a51 := Tryz.isAgg183
 z51 := Tryz.sizeOf183
 v51 := Tryz.zeroValue183
 t53 := Tryz.underlying64
 a53 := Tryz.isAgg64
 z53 := Tryz.sizeOf64
 v53 := Tryz.zeroValue64 }
end Go.Proofs
end
section
namespace Go.Proofs.YtmopiifamopidaaGreat
open Go.RowKit Go.Sort Go.Shelf
abbrev AkB := {a : Ak // 0 ≤ a.s ∧ a.s ≤ 60}
instance akbInh : Inhabited AkB := ⟨⟨⟨0, 0, 0⟩, by decide⟩⟩
def encB (x : AkB) : List Value := akL.f x.1
def cfB (x y : AkB) : Int := x.1.s - y.1.s
theorem cfB_swo : SWO (ltOf cfB) := by
 constructor
 ·intro x; unfold ltOf cfB; simp
 ·intro x y z h1 h2; unfold ltOf cfB at *; simp only [decide_eq_true_eq] at *; omega
 ·intro x y z h1 h2; unfold ltOf cfB at *; simp only [decide_eq_false_iff_not] at *; omega
set_option maxRecDepth 100000 in
set_option maxHeartbeats 2000000 in
theorem ask4_exact (a b : Ak) (w : World) (ha : 0 ≤ a.s ∧ a.s ≤ 60) (hb : 0 ≤ b.s ∧ b.s ≤ 60) : Calls Tryz.prog 42 #[.agg #[.int .i64 a.s, .int .i64 a.o, .int .i64 a.p], .agg #[.int .i64 b.s, .int .i64 b.o, .int .i64 b.p]] w fun e w' => e = .returned (.int .i64 (a.s - b.s)) ∧ w' = (w.alloc (.cells #[.int .i64 a.s, .int .i64 a.o, .int .i64 a.p] 81)).alloc (.cells #[.int .i64 b.s, .int .i64 b.o, .int .i64 b.p] 81) := by
 obtain ⟨a0, a1⟩ := ha
 obtain ⟨b0, b1⟩ := hb
 go_enter Tryz.func42, Tryz.ntmps42
 go_wp2_with fail
 go_ret
 exact ⟨rfl, rfl⟩
theorem alloc2_grow (w : World) (A B : Obj) : (w.alloc A).alloc B = grow (w.drewN 0) #[A, B] := by
 unfold grow World.alloc World.drewN
 congr 1
theorem cmpB (g off n : Nat) (w : World) : CmpLays Tryz.prog 42 #[] encB 3 cfB g off n w := fun _ _ _ _ x y =>
 (ask4_exact x.1 y.1 _ x.2 y.2).mono fun _ _ ⟨he, hw⟩ => ⟨he, 0, _, hw.trans (alloc2_grow _ _ _)⟩
theorem sortW_other {w : World} {g n k : Nat} {d : Array AkB} {os : Array Obj} (hk : k < w.heap.size) (hne : k ≠ g) : (sortWorldK encB 3 w g 0 n d os).heap[k]? = w.heap[k]? := by
 unfold sortWorldK grow
 show (_ ++ os)[k]? = _
 rw [Array.getElem?_append_left (by show k < (putRowK encB 3 _ g 0 d).heap.size; rw [size_putRowK]; exact hk)]
 unfold putRowK putRow mapBlock
 simp only [Array.getElem?_modify]
 rw [if_neg (fun e => hne e.symm)]; rfl
theorem sortW_row {w : World} {g n : Nat} {d : Array AkB} {os : Array Obj} {cur : Array Value} {t : TypeId} (hg : w.heap[g]? = some (.cells cur t (0, 0))) : (sortWorldK encB 3 w g 0 n d os).heap[g]? = some (.cells (putCells id 0 (Go.Sort.flatK encB 3 d) cur) t (0, 0)) := by
 have hk : g < w.heap.size := (Array.getElem?_eq_some_iff.1 hg).1
 unfold sortWorldK grow
 show (_ ++ os)[g]? = _
 rw [Array.getElem?_append_left (by show g < (putRowK encB 3 _ g 0 d).heap.size; rw [size_putRowK]; exact hk)]
 unfold putRowK putRow mapBlock
 simp only [Array.getElem?_modify, if_true]
 show Option.map _ (w.heap[g]?) = _
 rw [hg]; rfl
theorem flatB_at {d : Array AkB} {j : Nat} (h : j < d.size * 3) : (flatT akL (d.toList.map (·.1)))[j]? = some ((Go.Sort.flatK encB 3 d)[j]!) := by
 rw [get_flatK encB 3 d j h]
 have h1 : j / 3 < d.size := by omega
 have h2 : (d.toList.map (·.1))[j / 3]? = some (d[j / 3]!).1 := by
  rw [List.getElem?_map, getElem!_pos d (j / 3) h1]; simp [h1]
 have h3 : j % 3 < (encB (d[j / 3]!)).length := by
  show j % 3 < 3; omega
 have h4 := flatT_at (L := akL) (j := j % 3) (x := (encB d[j / 3]!)[j % 3]!) h2 (by
  rw [getElem!_pos (encB d[j / 3]!) (j % 3) h3]; exact List.getElem?_eq_getElem h3)
 rw [← h4]
 congr 1
 show j = j / 3 * 3 + j % 3
 omega
theorem sort_any (l : List Ak) (g cap B : Nat) (w : World) (hrow : w.ownsRow B 81 3 (.slice (some ⟨g, 0, none⟩) l.length cap) l.length (flatT akL l)) (h12 : l.length ≤ 12) (hs : ∀ a ∈ l, 0 ≤ a.s ∧ a.s ≤ 60) (hn : (l.map Ak.s).Nodup) :
  Calls Tryz.prog 41 #[.slice (some ⟨g, 0, none⟩) l.length cap, .func (.func 42) #[] #[]] w fun e w' => e = .returned (.tuple #[]) ∧ w'.ownsRow B 81 3 (.slice (some ⟨g, 0, none⟩) l.length cap) l.length (flatT akL (srtA l)) ∧ w.grownBy w' (some g) := by
 obtain ⟨d, hd⟩ : ∃ d : Array AkB, d.toList.map (·.1) = l := ⟨(l.attach.map fun a => (⟨a.1, hs a.1 a.2⟩ : AkB)).toArray, by simp⟩
 have hds : d.size = l.length := by rw [← hd]; simp
 obtain ⟨hlen, hr⟩ := hrow
 rcases hr with ⟨h0, _⟩ | ⟨g', cap', cur, e0, hB, hg, hle, hcap, hsz, htk⟩
 ·cases h0
 ·simp only [Value.slice.injEq, Option.some.injEq, Addr.mk.injEq, and_true, true_and] at e0
  obtain ⟨rfl, rfl⟩ := e0
  have hgl : g < w.heap.size := (Array.getElem?_eq_some_iff.1 hg).1
  have hH : HoldsK encB 3 w g 0 d := fun j hj => by
   rw [Go.Sort.size_flatK] at hj
   have h1 := flatB_at hj
   rw [hd, ← htk, List.getElem?_take_of_lt (by rw [← hds]; exact hj)] at h1
   refine ⟨?_, by simp [World.frozen?, hg]⟩
   rw [Nat.zero_add]
   simp only [World.cell?, hg, id]
   simpa using h1
  have hlenC : ∀ (n : Nat) (W : World), n ≤ 12 → Calls Tryz.prog (Tryz.sortL_ren.f 15) #[.int .u64 n] W fun e w' => (∃ l : Int, e = .returned (.int .i64 l)) ∧ w' = W := fun n W h =>
   (Any.bits_Len Tryz.bitsLen n W (by omega) (by omega)).mono fun _ _ ⟨he, hw⟩ => ⟨⟨_, he⟩, hw⟩
  have hcon := AnyQ.slices_SortFunc_small_sorted Tryz.sortL 3 (fun _ => by kernel_rfl) (fun _ => by kernel_rfl) encB (fun x => akL.len x.1) (fun x => akL.one x.1) cfB 42 #[] cfB_swo g 0 cap d w (enters_of Tryz.func42 (by kernel_rfl) rfl) (cmpB g 0 d.size w) hH hgl (by omega) hlenC
  rw [hds] at hcon
  refine hcon.mono ?_
  rintro e w' ⟨rfl, d', n, os, hp, hso, rfl⟩
  have hd's : d'.size = l.length := by rw [hp.1, hds]
  have hx : d'.extract 0 l.length = d' := by rw [← hd's]; simp
  have hx2 : d.extract 0 l.length = d := by rw [← hds]; simp
  have hperm : (d'.toList.map (·.1)).Perm l := by
   have h9 := hp.2.2
   rw [hx, hx2] at h9
   rw [← hd]; exact h9.map _
  obtain ⟨t1, t2⟩ := srtA_spec hn
  have hsr : Srt Ak.s (d'.toList.map (·.1)) := by
   have hnd : ((d'.toList.map (·.1)).map Ak.s).Nodup := (hperm.map Ak.s).nodup_iff.2 hn
   rw [Srt, List.pairwise_iff_getElem]
   intro i j hi hj hij
   simp only [List.length_map, Array.length_toList] at hi hj
   have h9 := hso i j (Nat.zero_le _) hij (by omega)
   rw [getElem!_pos d' i hi, getElem!_pos d' j hj] at h9
   unfold ltOf cfB at h9
   simp only [decide_eq_false_iff_not] at h9
   have hne := List.pairwise_iff_getElem.1 hnd i j (by simpa using hi) (by simpa using hj) hij
   simp only [List.getElem_map, Array.getElem_toList] at hne
   simp only [List.getElem_map, Array.getElem_toList]
   omega
  have he : d'.toList.map (·.1) = srtA l := srt_ext hsr t1 fun x => by rw [t2, hperm.mem_iff]
  refine ⟨rfl, ⟨by rw [flatT_len, srtA_len]; rfl, Or.inr ⟨g, cap, putCells id 0 (Go.Sort.flatK encB 3 d') cur, rfl, hB, sortW_row hg, hle, hcap, by simp [putCells, hsz], ?_⟩⟩, ⟨rfl, rfl, rfl, size_sortWorldK_c encB 3 w g 0 n d' os, fun k hk hne => sortW_other hk (fun e => hne (by rw [e]))⟩⟩
  rw [← he]
  apply List.ext_getElem?
  intro j
  rcases Nat.lt_or_ge j (l.length * 3) with hj | hj
  ·rw [List.getElem?_take_of_lt hj, flatB_at (by rw [hd's]; exact hj)]
   have hjc : j < cur.size := by rw [hsz]; exact Nat.lt_of_lt_of_le hj (Nat.mul_le_mul_right 3 hle)
   simp only [putCells, Array.getElem?_toList, Array.getElem?_mapIdx, Array.getElem?_eq_getElem hjc, Option.map_some, Go.Sort.size_flatK]
   rw [if_pos ⟨Nat.zero_le _, by rw [hd's]; omega⟩]
   rfl
  ·rw [List.getElem?_take_eq_none hj, List.getElem?_eq_none (by rw [flatT_len]; simp only [List.length_map, Array.length_toList, hd's]; exact hj)]
set_option maxRecDepth 100000 in
set_option maxHeartbeats 2000000 in
theorem isort_nil (w : World) : Calls Tryz.prog 102 #[.slice none 0 0, .int .i64 0, .int .i64 0, .func (.func 42) #[] #[]] w fun e w' => e = .returned (.tuple #[]) ∧ w' = w := by
 go_enter Tryz.func102, Tryz.ntmps102
 go_wp2_with fail
 refine wp_loop_rounds 1 ?_
 rw [rounds_succ]
 go_wp2_with fail
 (try simp only [Exit.inBlock, Exit.then])
 first | (refine bodyPost_end (results_none rfl _ _ _) rfl ?_; exact ⟨rfl, rfl⟩) | (refine bodyPost_ret (results_none rfl _ _ _) rfl ?_; exact ⟨rfl, rfl⟩)
set_option maxRecDepth 100000 in
set_option maxHeartbeats 2000000 in
theorem pdq_nil (x : Int) (w : World) : Calls Tryz.prog 80 #[.slice none 0 0, .int .i64 0, .int .i64 0, .int .i64 x, .func (.func 42) #[] #[]] w fun e w' => e = .returned (.tuple #[]) ∧ w' = w := by
 go_enter Tryz.func80, Tryz.ntmps80
 go_wp2_with fail
 refine wp_loop_rounds 1 ?_
 rw [rounds_succ]
 go_wp2_with fail
 refine (isort_nil _).mono ?_
 rintro e w' ⟨rfl, rfl⟩
 go_wp2_with fail
 (try simp only [Exit.inBlock, Exit.then])
 first | (refine bodyPost_end (results_none rfl _ _ _) rfl ?_; exact ⟨rfl, rfl⟩) | (refine bodyPost_ret (results_none rfl _ _ _) rfl ?_; exact ⟨rfl, rfl⟩)
set_option maxRecDepth 100000 in
set_option maxHeartbeats 2000000 in
theorem sort_nil (w : World) : Calls Tryz.prog 41 #[.slice none 0 0, .func (.func 42) #[] #[]] w fun e w' => e = .returned (.tuple #[]) ∧ w' = w := by
 have hb := fun W => Any.bits_Len Tryz.bitsLen 0 W (by omega) (by omega)
 have HB := Lib.hid hb
 clear hb
 go_enter Tryz.func41, Tryz.ntmps41
 go_wp2_with fail
 refine (HB.out _).mono ?_
 rintro e w1 ⟨rfl, rfl⟩
 go_wp2_with fail
 refine (pdq_nil _ _).mono ?_
 rintro e w' ⟨rfl, rfl⟩
 go_wp2_with fail
 first | (refine bodyPost_end (results_none rfl _ _ _) rfl ?_; exact ⟨rfl, rfl⟩) | (refine bodyPost_ret (results_none rfl _ _ _) rfl ?_; exact ⟨rfl, rfl⟩)
end Go.Proofs.YtmopiifamopidaaGreat
end
section
namespace Go.Proofs.YtmopiifamopidaaGreat
open Go.RowKit
attribute [local go_sem] Oper.semAt_some
theorem row_cap {w : World} {B k n c : Nat} {p : Option Addr} {t : TypeId} {xs : List Value} (h : w.ownsRow B t k (.slice p n c) n xs) : n ≤ c ∧ c ≤ maxLen := by
 rcases h.2 with ⟨h1, h2⟩ | ⟨g, cap, cur, h1, _, _, h4, h5, _⟩
 ·injection h1 with e1 e2 e3
  subst h2 e3
  exact ⟨Nat.le_refl _, Nat.zero_le _⟩
 ·injection h1 with e1 e2 e3
  subst e3
  exact ⟨h4, h5⟩
theorem tri_any (bs : Nat) (w : World) : Calls Tryz.prog 38 #[.pointer (some ⟨bs, 0, none⟩)] w fun e w' => e = .returned (.func (.func 78) #[] #[.pointer (some ⟨w.heap.size, 0, none⟩)]) ∧ w' = w.alloc (.cells #[.pointer (some ⟨bs, 0, none⟩)] 82) := by
 go_enter Tryz.func38, Tryz.ntmps38
 go_wp2
 all_goals (go_ret; exact ⟨rfl, rfl⟩)
theorem flatT_take {α : Type} {L : Lay α} : ∀ (l : List α) (j : Nat), (flatT L l).take (j * L.k) = flatT L (l.take j)
 | [], j => by simp [flatT]
 | a :: l, 0 => by simp [flatT]
 | a :: l, j + 1 => by
  have ih := flatT_take (L := L) l j
  show ((L.f a) ++ flatT L l).take ((j + 1) * L.k) = L.f a ++ flatT L (l.take j)
  rw [List.take_append, L.len, ← ih, Nat.succ_mul, List.take_of_length_le (by rw [L.len]; omega), Nat.add_sub_cancel]
theorem row_front {α : Type} {L : Lay α} {w : World} {B n c j : Nat} {p : Option Addr} {t : TypeId} {l : List α} (h : w.ownsRow B t L.k (.slice p n c) n (flatT L l)) (hj : j ≤ n) (hn : n = l.length) : w.ownsRow B t L.k (.slice p j c) (l.take j).length (flatT L (l.take j)) := by
 have hl : (l.take j).length = j := by rw [List.length_take]; omega
 rw [hl]
 refine ⟨by rw [flatT_len, hl], ?_⟩
 rcases h.2 with ⟨h1, h2⟩ | ⟨g, cap, cur, h1, h2, h3, h4, h5, h6, h7⟩
 ·injection h1 with e1 e2 e3
  subst e1 e3
  obtain rfl : j = 0 := by omega
  exact Or.inl ⟨rfl, rfl⟩
 ·injection h1 with e1 e2 e3
  subst e1 e3
  refine Or.inr ⟨g, _, cur, rfl, h2, h3, by omega, h5, h6, ?_⟩
  rw [← flatT_take, ← h7, List.take_take, Nat.min_eq_left (Nat.mul_le_mul_right _ hj)]
theorem row_keptN {w w' : World} {row : Option Nat} {B k n : Nat} {t : TypeId} {v : Value} {xs : List Value} (h : w.ownsRow B t k v n xs) (hg : w.grownBy w' row) (hr : ∀ r, row = some r → ∃ o : Obj, w.heap[r]? = some o ∧ o.isCells = false) : w'.ownsRow B t k v n xs :=
 h.kept hg (by
  rcases row_shape h with rfl | ⟨g, cap, cur, rfl, hq⟩
  ·exact Or.inl rfl
  ·right
   intro e
   simp [Value.ownBlock] at e
   obtain ⟨o, ho, hc⟩ := hr g e.symm
   rw [hq] at ho
   cases ho
   cases hc)
theorem row_ne {w : World} {B k n b : Nat} {t t' : TypeId} {v : Value} {xs cs : List Value} (h : w.ownsRow B t k v n xs) (o : Own w b cs t') (hne : t ≠ t') : ∀ r, v.ownBlock = some r → r ≠ b := by
 rcases row_shape h with rfl | ⟨g, cap, cur, rfl, hq⟩
 ·intro r e; simp [Value.ownBlock] at e
 ·rintro r e rfl
  simp [Value.ownBlock] at e
  subst e
  have e := hq.symm.trans o
  injection e with e
  injection e with e1 e2
  exact hne e2
theorem KpT.grown {b1 bs : Nat} {A B : World} {row : Option Nat} (hg : A.grownBy B row) (h1 : ∀ r, row = some r → r ≠ b1 ∧ r ≠ bs) : KpT b1 bs A B :=
 ⟨fun _ _ o => (hg.block b1 o.lt (fun e => (h1 _ e.symm).1 rfl)).trans o, fun _ _ o => (hg.block bs o.lt (fun e => (h1 _ e.symm).2 rfl)).trans o, hg.size⟩
theorem KpT.set {b1 bs bQ : Nat} {A : World} (h1 : b1 ≠ bQ) (h2 : bs ≠ bQ) (i : Nat) (v : Value) : KpT b1 bs A (A.setCell ⟨bQ, i, none⟩ v) :=
 ⟨fun _ _ o => o.other (a := ⟨bQ, i, none⟩) h1 v, fun _ _ o => o.other (a := ⟨bQ, i, none⟩) h2 v, by simp⟩
theorem keeps_grown {B0 B k n : Nat} {t : TypeId} {v : Value} {xs : List Value} {A C : World} (hg : A.grownBy C v.ownBlock) (hr : A.ownsRow B t k v n xs) : KeepsFrom B0 A C := ⟨hg.size, fun k' o _ h1 h2 => (hg.block k' (Array.getElem?_eq_some_iff.1 h1).1 (fun e => by
 rcases row_shape hr with rfl | ⟨g, cap, cur, rfl, hq⟩
 ·simp [Value.ownBlock] at e
 ·simp [Value.ownBlock] at e
  subst e
  rw [hq] at h1
  cases h1
  cases h2)).trans h1⟩
theorem keeps_set {B0 bQ : Nat} {A : World} (h : bQ < B0) (i : Nat) (v : Value) : KeepsFrom B0 A (A.setCell ⟨bQ, i, none⟩ v) := ⟨by simp, fun k _ hk h1 _ => (Below.heap_setCell A ⟨bQ, i, none⟩ v k (by simp; omega)).trans h1⟩
def AskI (w5 : World) (n8 bQ bU bs : Nat) (many : Int) (out : List Ak) (wz : World) : Prop := ∃ (pq : Option Addr) (cq : Nat), Below w5.heap.size w5 wz ∧ Own wz bQ [.slice pq out.length cq] 41 ∧ wz.ownsRow w5.heap.size 81 3 (.slice pq out.length cq) out.length (flatT akL out) ∧ Own wz bU [.pointer (some ⟨bs, 0, none⟩)] 82 ∧ (out.length : Int) ≤ many ∧ n8 ≤ wz.heap.size
theorem AskI.below {w5 : World} {n8 bQ bU bs : Nat} {many : Int} {out : List Ak} {A B : World} (h : AskI w5 n8 bQ bU bs many out A) (k : Below A.heap.size A B) : AskI w5 n8 bQ bU bs many out B := by
 obtain ⟨pq, cq, h1, h2, h3, h4, h5, h6⟩ := h
 exact ⟨pq, cq, h1.trans (k.mono h1.size), h2.below k, h3.below k, h4.below k, h5, Nat.le_trans h6 k.size⟩
theorem AskI.kept {w5 : World} {n8 bQ bU bs : Nat} {many : Int} {out : List Ak} {A B : World} {row : Option Nat} (h : AskI w5 n8 bQ bU bs many out A) (hn : w5.heap.size ≤ n8) (hg : A.grownBy B row) (hr : ∀ r, row = some r → n8 ≤ r ∧ ∃ o : Obj, A.heap[r]? = some o ∧ o.isCells = false) : AskI w5 n8 bQ bU bs many out B := by
 obtain ⟨pq, cq, h1, h2, h3, h4, h5, h6⟩ := h
 have hr' : ∀ r, row = some r → ∃ o : Obj, A.heap[r]? = some o ∧ o.isCells = false := fun r e => (hr r e).2
 exact ⟨pq, cq, h1.grown hg h1.size (fun k e => by have := (hr k e).1; omega), own_keptN h2 hg hr', row_keptN h3 hg hr', own_keptN h4 hg hr', h5, Nat.le_trans h6 hg.size⟩
theorem sort_both (l : List Ak) (pq : Option Addr) (cap B : Nat) (w : World) (hrow : w.ownsRow B 81 3 (.slice pq l.length cap) l.length (flatT akL l)) (h12 : l.length ≤ 12) (hs : ∀ a ∈ l, 0 ≤ a.s ∧ a.s ≤ 60) (hn : (l.map Ak.s).Nodup) :
  Calls Tryz.prog 41 #[.slice pq l.length cap, .func (.func 42) #[] #[]] w fun e w' => e = .returned (.tuple #[]) ∧ w'.ownsRow B 81 3 (.slice pq l.length cap) l.length (flatT akL (srtA l)) ∧ w.grownBy w' (Value.ownBlock (.slice pq l.length cap)) := by
 rcases row_shape hrow with h | ⟨g, c, cur, h, _⟩
 ·injection h with e1 e2 e3
  subst e1 e3
  obtain rfl := List.eq_nil_of_length_eq_zero e2
  refine (sort_nil w).mono ?_
  rintro e w' ⟨rfl, rfl⟩
  exact ⟨rfl, hrow, ⟨rfl, rfl, rfl, Nat.le_refl _, fun _ _ _ => rfl⟩⟩
 ·injection h with e1 e2 e3
  subst e1
  exact sort_any l g cap B w hrow h12 hs hn
theorem askS_stay {me : Int} {S : List Nb} {us : List Us} {gs : List Gr} {n : Nb} {p many : Int} {l : List Ak} (h : many ≤ (l.length : Int)) : ∀ cs : List (Int × Int), cs.foldl (askS me S us gs n p many) l = l
 | [] => rfl
 | c :: cs => by
  rw [List.foldl_cons, show askS me S us gs n p many l c = l by unfold askS; rw [if_pos h]]
  exact askS_stay h cs
theorem row_put {A : World} {l B k n : Nat} {o o' : Obj} {t : TypeId} {v : Value} {xs : List Value} (h : A.heap[l]? = some o) (hc : o.isCells = false) (r : A.ownsRow B t k v n xs) : (A.putObj l o').ownsRow B t k v n xs := by
 refine ⟨r.1, ?_⟩
 rcases r.2 with h2 | ⟨g, cap, cur, h1, h2, h3, h4⟩
 ·exact Or.inl h2
 ·refine Or.inr ⟨g, cap, cur, h1, h2, (World.putObj_heap_other ?_).trans h3, h4⟩
  rintro rfl
  rw [h] at h3
  cases h3
  cases hc
theorem ask_peer {N D me p : Int} {ns : List Nb} {n : Nb} (h : (0 ≤ me ∧ me < N) ∧ ∀ n ∈ ns, 0 ≤ n.fm ∧ n.fm < N) (hf : fndF p (sidL N D ns) = some n) : 0 ≤ p ∧ p < N := by
 obtain ⟨h1, h2⟩ := fnd_mem hf
 obtain ⟨m, hm, rfl⟩ := List.mem_map.1 h1
 have := h.2 m hm
 rw [← h2]; exact this
theorem tri_own (bs : Nat) (w : World) : Calls Tryz.prog 38 #[.pointer (some ⟨bs, 0, none⟩)] w fun e w' => ∃ b, e = .returned (.func (.func 78) #[] #[.pointer (some ⟨b, 0, none⟩)]) ∧ Own w' b [.pointer (some ⟨bs, 0, none⟩)] 82 ∧ w.heap.size ≤ b ∧ Below w.heap.size w w' := by
 refine (tri_any bs w).mono ?_
 rintro e w' ⟨rfl, rfl⟩
 exact ⟨_, rfl, own_at _ _ rfl, Nat.le_refl _, belowNew _ _⟩
set_option maxRecDepth 100000 in
set_option maxHeartbeats 2000000 in
theorem ask_bad (vu vg va : Value) (us : List Us) (gs : List Gr) (ks : List Ak) (N D me f : Int) (p many : Int) (v : Value) (l : List Nr) (w : World) (su : SlU w vu us) (sg : SlG w vg gs) (sa : SlA w va ks) (u70 : us.length ≤ 70) (g70 : gs.length ≤ 70) (k70 : ks.length ≤ 70) (sl : SlN w v l) (ho : NsOk w l) (h1000 : l.length ≤ 1000) (hfew : ∀ r ∈ l, r.b.us.length ≤ 100 ∧ r.b.gs.length ≤ 100 ∧ r.b.ks.length ≤ 100) (f0 : 0 ≤ f) (f1 : f ≤ 1000000) (y1 : many ≤ 12) (hs : sideB N D ⟨us, gs, ks⟩ me (l.map Nr.b) f = false) : Calls Tryz.prog 14 #[.agg #[.int .i64 N, .int .i64 D], .agg #[vu, vg, va], .int .i64 me, v, .int .i64 p, .int .i64 many, .int .i64 f] w (TblP w us gs ks) := by
 obtain ⟨pu, cu, e0, hlu, hcu, _⟩ := su.form us.length rfl
 subst e0
 obtain ⟨pg, cg, e0, hlg, hcg, _⟩ := sg.form gs.length rfl
 subst e0
 obtain ⟨pa, ca, e0, hla, hca, _⟩ := sa.form ks.length rfl
 subst e0
 have SU := Lib.hid su
 have SG := Lib.hid sg
 have SA := Lib.hid sa
 clear su sg sa
 have iu0 : (0 : Int) ≤ (us.length : Int) := Int.natCast_nonneg _
 have ig0 : (0 : Int) ≤ (gs.length : Int) := Int.natCast_nonneg _
 have ia0 : (0 : Int) ≤ (ks.length : Int) := Int.natCast_nonneg _
 have iu : (us.length : Int) ≤ 70 := by omega
 have ig : (gs.length : Int) ≤ 70 := by omega
 have ia : (ks.length : Int) ≤ 70 := by omega
 have HO := Lib.hid ho
 have HS := Lib.hid hs
 clear ho hs
 obtain ⟨pn, cap, e0, hlc, hcm, hpn⟩ := sl.form l.length rfl
 subst e0
 have SL := Lib.hid sl
 unfold maxLen at hcm
 clear hpn sl
 go_enter Tryz.func14, Tryz.ntmps14
 go_wp2_with fail
 refine (new_any _ _ _ us gs ks N D me f _ l _ (SU.out.below ((((((Below.refl _ _).alloc (by exact Nat.le_refl _) _).alloc (by simp) _).alloc (by simp; omega) _).alloc (by simp; omega) _).alloc (by simp; omega) _)) (SG.out.below ((((((Below.refl _ _).alloc (by exact Nat.le_refl _) _).alloc (by simp) _).alloc (by simp; omega) _).alloc (by simp; omega) _).alloc (by simp; omega) _)) (SA.out.below ((((((Below.refl _ _).alloc (by exact Nat.le_refl _) _).alloc (by simp) _).alloc (by simp; omega) _).alloc (by simp; omega) _).alloc (by simp; omega) _)) u70 g70 k70 (SL.out.below ((((((Below.refl _ _).alloc (by exact Nat.le_refl _) _).alloc (by simp) _).alloc (by simp; omega) _).alloc (by simp; omega) _).alloc (by simp; omega) _)) (HO.out.below ((((((Below.refl _ _).alloc (by exact Nat.le_refl _) _).alloc (by simp) _).alloc (by simp; omega) _).alloc (by simp; omega) _).alloc (by simp; omega) _)) h1000 hfew false HS.out).mono ?_
 rintro e w1 ⟨rfl, hb⟩
 have oL : Own w1 w.heap.size [.int .i64 N, .int .i64 D] 31 := (((((own_at _ _ rfl).alloc _).alloc _).alloc _).alloc _).below hb
 have oT : Own w1 (w.heap.size + 1) [.slice pu us.length cu, .slice pg gs.length cg, .slice pa ks.length ca] 43 := ((((own_at _ _ (by simp)).alloc _).alloc _).alloc _).below hb
 have oP : Own w1 (w.heap.size + 1 + 1) [.int .i64 p] 3 := (((own_at _ _ (by simp)).alloc _).alloc _).below hb
 have oM : Own w1 (w.heap.size + 1 + 1 + 1) [.int .i64 many] 3 := ((own_at _ _ (by simp)).alloc _).below hb
 have oR : Own w1 (w.heap.size + 1 + 1 + 1 + 1) [.slice none 0 0, .slice none 0 0, .slice none 0 0] 43 := (own_at _ _ (by simp)).below hb
 have bel := belowTo ((((((Below.refl w.heap.size w).alloc (by simp) _).alloc (by simp) _).alloc (by simp; omega) _).alloc (by simp; omega) _).alloc (by simp; omega) _) hb (by simp; omega)
 clear hb
 obtain ⟨cL0, cL1, fL, zL⟩ := own2 oL
 obtain ⟨cT0, cT1, cT2, fT, zT⟩ := own3 oT
 obtain ⟨cP0, fP, zP⟩ := own1 oP
 obtain ⟨cM0, fM, zM⟩ := own1 oM
 obtain ⟨cR0, cR1, cR2, fR, zR⟩ := own3 oR
 go_wp2_with fail
 replace oL := (((oL.other (by first | (simp; done) | (simp; omega) | omega | (dsimp only; omega)) (a := ⟨w.heap.size + 1 + 1 + 1 + 1, 0, none⟩) (.slice pu us.length cu)).other (by first | (simp; done) | (simp; omega) | omega | (dsimp only; omega)) (a := ⟨w.heap.size + 1 + 1 + 1 + 1, 1, none⟩) (.slice pg gs.length cg)).other (by first | (simp; done) | (simp; omega) | omega | (dsimp only; omega)) (a := ⟨w.heap.size + 1 + 1 + 1 + 1, 2, none⟩) (.slice pa ks.length ca))
 replace oT := (((oT.other (by first | (simp; done) | (simp; omega) | omega | (dsimp only; omega)) (a := ⟨w.heap.size + 1 + 1 + 1 + 1, 0, none⟩) (.slice pu us.length cu)).other (by first | (simp; done) | (simp; omega) | omega | (dsimp only; omega)) (a := ⟨w.heap.size + 1 + 1 + 1 + 1, 1, none⟩) (.slice pg gs.length cg)).other (by first | (simp; done) | (simp; omega) | omega | (dsimp only; omega)) (a := ⟨w.heap.size + 1 + 1 + 1 + 1, 2, none⟩) (.slice pa ks.length ca))
 replace oP := (((oP.other (by first | (simp; done) | (simp; omega) | omega | (dsimp only; omega)) (a := ⟨w.heap.size + 1 + 1 + 1 + 1, 0, none⟩) (.slice pu us.length cu)).other (by first | (simp; done) | (simp; omega) | omega | (dsimp only; omega)) (a := ⟨w.heap.size + 1 + 1 + 1 + 1, 1, none⟩) (.slice pg gs.length cg)).other (by first | (simp; done) | (simp; omega) | omega | (dsimp only; omega)) (a := ⟨w.heap.size + 1 + 1 + 1 + 1, 2, none⟩) (.slice pa ks.length ca))
 replace oM := (((oM.other (by first | (simp; done) | (simp; omega) | omega | (dsimp only; omega)) (a := ⟨w.heap.size + 1 + 1 + 1 + 1, 0, none⟩) (.slice pu us.length cu)).other (by first | (simp; done) | (simp; omega) | omega | (dsimp only; omega)) (a := ⟨w.heap.size + 1 + 1 + 1 + 1, 1, none⟩) (.slice pg gs.length cg)).other (by first | (simp; done) | (simp; omega) | omega | (dsimp only; omega)) (a := ⟨w.heap.size + 1 + 1 + 1 + 1, 2, none⟩) (.slice pa ks.length ca))
 replace bel := (((bel.setCell (p := ⟨w.heap.size + 1 + 1 + 1 + 1, 0, none⟩) (by first | (simp; done) | (simp; omega) | omega | (dsimp only; omega)) (.slice pu us.length cu)).setCell (p := ⟨w.heap.size + 1 + 1 + 1 + 1, 1, none⟩) (by first | (simp; done) | (simp; omega) | omega | (dsimp only; omega)) (.slice pg gs.length cg)).setCell (p := ⟨w.heap.size + 1 + 1 + 1 + 1, 2, none⟩) (by first | (simp; done) | (simp; omega) | omega | (dsimp only; omega)) (.slice pa ks.length ca))
 replace oR : Own _ (w.heap.size + 1 + 1 + 1 + 1) [.slice pu us.length cu, .slice pg gs.length cg, .slice pa ks.length ca] 43 := (((oR.set 0 (.slice pu us.length cu)).set 1 (.slice pg gs.length cg)).set 2 (.slice pa ks.length ca))
 clear cL0 cL1 fL zL cT0 cT1 cT2 fT zT cP0 fP zP cM0 fM zM cR0 cR1 cR2 fR zR
 generalize (((w1.setCell ⟨w.heap.size + 1 + 1 + 1 + 1, 0, none⟩ (.slice pu us.length cu)).setCell ⟨w.heap.size + 1 + 1 + 1 + 1, 1, none⟩ (.slice pg gs.length cg)).setCell ⟨w.heap.size + 1 + 1 + 1 + 1, 2, none⟩ (.slice pa ks.length ca)) = w2 at oL oT oP oM oR bel ⊢
 obtain ⟨cL0, cL1, fL, zL⟩ := own2 oL
 obtain ⟨cT0, cT1, cT2, fT, zT⟩ := own3 oT
 obtain ⟨cP0, fP, zP⟩ := own1 oP
 obtain ⟨cM0, fM, zM⟩ := own1 oM
 obtain ⟨cR0, cR1, cR2, fR, zR⟩ := own3 oR
 refine bodyPost_ret (v := .agg #[.slice pu us.length cu, .slice pg gs.length cg, .slice pa ks.length ca]) (by simp [results, Tryz.results14, go_sem, *]) rfl ⟨_, _, _, rfl, SU.out.below (bel.alloc bel.size _), SG.out.below (bel.alloc bel.size _), SA.out.below (bel.alloc bel.size _), (bel.alloc bel.size _)⟩
set_option maxRecDepth 100000 in
set_option maxHeartbeats 2000000 in
theorem ask_many (vu vg va : Value) (us : List Us) (gs : List Gr) (ks : List Ak) (N D me f : Int) (p many : Int) (v : Value) (l : List Nr) (w : World) (su : SlU w vu us) (sg : SlG w vg gs) (sa : SlA w va ks) (u70 : us.length ≤ 70) (g70 : gs.length ≤ 70) (k70 : ks.length ≤ 70) (sl : SlN w v l) (ho : NsOk w l) (h1000 : l.length ≤ 1000) (hfew : ∀ r ∈ l, r.b.us.length ≤ 100 ∧ r.b.gs.length ≤ 100 ∧ r.b.ks.length ≤ 100) (f0 : 0 ≤ f) (f1 : f ≤ 1000000) (y1 : many ≤ 12) (hs : sideB N D ⟨us, gs, ks⟩ me (l.map Nr.b) f = true) (hm : inB many 24 = false) : Calls Tryz.prog 14 #[.agg #[.int .i64 N, .int .i64 D], .agg #[vu, vg, va], .int .i64 me, v, .int .i64 p, .int .i64 many, .int .i64 f] w (TblP w us gs ks) := by
 obtain ⟨pu, cu, e0, hlu, hcu, _⟩ := su.form us.length rfl
 subst e0
 obtain ⟨pg, cg, e0, hlg, hcg, _⟩ := sg.form gs.length rfl
 subst e0
 obtain ⟨pa, ca, e0, hla, hca, _⟩ := sa.form ks.length rfl
 subst e0
 have SU := Lib.hid su
 have SG := Lib.hid sg
 have SA := Lib.hid sa
 clear su sg sa
 have iu0 : (0 : Int) ≤ (us.length : Int) := Int.natCast_nonneg _
 have ig0 : (0 : Int) ≤ (gs.length : Int) := Int.natCast_nonneg _
 have ia0 : (0 : Int) ≤ (ks.length : Int) := Int.natCast_nonneg _
 have iu : (us.length : Int) ≤ 70 := by omega
 have ig : (gs.length : Int) ≤ 70 := by omega
 have ia : (ks.length : Int) ≤ 70 := by omega
 have HO := Lib.hid ho
 have HS := Lib.hid hs
 clear ho hs
 have HM := Lib.hid hm
 clear hm
 obtain ⟨pn, cap, e0, hlc, hcm, hpn⟩ := sl.form l.length rfl
 subst e0
 have SL := Lib.hid sl
 unfold maxLen at hcm
 clear hpn sl
 go_enter Tryz.func14, Tryz.ntmps14
 go_wp2_with fail
 refine (new_any _ _ _ us gs ks N D me f _ l _ (SU.out.below ((((((Below.refl _ _).alloc (by exact Nat.le_refl _) _).alloc (by simp) _).alloc (by simp; omega) _).alloc (by simp; omega) _).alloc (by simp; omega) _)) (SG.out.below ((((((Below.refl _ _).alloc (by exact Nat.le_refl _) _).alloc (by simp) _).alloc (by simp; omega) _).alloc (by simp; omega) _).alloc (by simp; omega) _)) (SA.out.below ((((((Below.refl _ _).alloc (by exact Nat.le_refl _) _).alloc (by simp) _).alloc (by simp; omega) _).alloc (by simp; omega) _).alloc (by simp; omega) _)) u70 g70 k70 (SL.out.below ((((((Below.refl _ _).alloc (by exact Nat.le_refl _) _).alloc (by simp) _).alloc (by simp; omega) _).alloc (by simp; omega) _).alloc (by simp; omega) _)) (HO.out.below ((((((Below.refl _ _).alloc (by exact Nat.le_refl _) _).alloc (by simp) _).alloc (by simp; omega) _).alloc (by simp; omega) _).alloc (by simp; omega) _)) h1000 hfew true HS.out).mono ?_
 rintro e w1 ⟨bs, ⟨sp, sn, sc⟩, S, rfl, os, s1, o1, hS, hbs, hb⟩
 dsimp only at os s1
 have e2 := s1.len_eq
 subst e2
 have oL : Own w1 w.heap.size [.int .i64 N, .int .i64 D] 31 := (((((own_at _ _ rfl).alloc _).alloc _).alloc _).alloc _).below hb
 have oT : Own w1 (w.heap.size + 1) [.slice pu us.length cu, .slice pg gs.length cg, .slice pa ks.length ca] 43 := ((((own_at _ _ (by simp)).alloc _).alloc _).alloc _).below hb
 have oP : Own w1 (w.heap.size + 1 + 1) [.int .i64 p] 3 := (((own_at _ _ (by simp)).alloc _).alloc _).below hb
 have oM : Own w1 (w.heap.size + 1 + 1 + 1) [.int .i64 many] 3 := ((own_at _ _ (by simp)).alloc _).below hb
 have oR : Own w1 (w.heap.size + 1 + 1 + 1 + 1) [.slice none 0 0, .slice none 0 0, .slice none 0 0] 43 := (own_at _ _ (by simp)).below hb
 have bel := belowTo ((((((Below.refl w.heap.size w).alloc (by simp) _).alloc (by simp) _).alloc (by simp; omega) _).alloc (by simp; omega) _).alloc (by simp; omega) _) hb (by simp; omega)
 clear hb
 obtain ⟨cL0, cL1, fL, zL⟩ := own2 oL
 obtain ⟨cT0, cT1, cT2, fT, zT⟩ := own3 oT
 obtain ⟨cP0, fP, zP⟩ := own1 oP
 obtain ⟨cM0, fM, zM⟩ := own1 oM
 obtain ⟨cR0, cR1, cR2, fR, zR⟩ := own3 oR
 simp only [World.size_alloc] at hbs
 have oS := os
 clear os
 have HSM := Lib.hid hS
 clear hS
 obtain ⟨cS0, cS1, cS2, cS3, cS4, fS, zS⟩ := own5 oS
 have SS := Lib.hid s1
 have OO := Lib.hid o1
 clear s1 o1
 have hSl : S.length ≤ 1000 := by have h9 := congrArg List.length HSM.out; simp only [sidL, List.length_map] at h9; omega
 have ltBR : w.heap.size + 1 + 1 + 1 + 1 < w1.heap.size := zR
 have ltBS : bs < w1.heap.size := zS
 go_wp2_with fail
 refine (in_lit many 24 false _ HM.out).mono ?_
 rintro e w2 ⟨rfl, hb⟩
 replace oL := (oL.alloc _).below hb
 replace oT := (oT.alloc _).below hb
 replace oP := (oP.alloc _).below hb
 replace oM := (oM.alloc _).below hb
 replace oR := (oR.alloc _).below hb
 replace oS := (oS.alloc _).below hb
 replace SS := Lib.hid ((SS.out.below (belowNew _ _)).below hb)
 replace OO := Lib.hid ((OO.out.below (belowNew _ _)).below hb)
 have oB : Own w2 w1.heap.size [.pointer (some ⟨bs, 0, none⟩)] 82 := (own_at _ _ rfl).below hb
 replace bel := belowTo (bel.alloc (by have := bel.size; first | (simp; done) | (simp; omega)) _) hb (by have := bel.size; first | (simp; done) | (simp; omega))
 clear hb
 clear cL0 cL1 fL zL cT0 cT1 cT2 fT zT cP0 fP zP cM0 fM zM cR0 cR1 cR2 fR zR cS0 cS1 cS2 cS3 cS4 fS zS
 obtain ⟨cL0, cL1, fL, zL⟩ := own2 oL
 obtain ⟨cT0, cT1, cT2, fT, zT⟩ := own3 oT
 obtain ⟨cP0, fP, zP⟩ := own1 oP
 obtain ⟨cM0, fM, zM⟩ := own1 oM
 obtain ⟨cR0, cR1, cR2, fR, zR⟩ := own3 oR
 obtain ⟨cS0, cS1, cS2, cS3, cS4, fS, zS⟩ := own5 oS
 obtain ⟨cB0, fB, zB⟩ := own1 oB
 go_wp2_with fail
 replace SS := Lib.hid (((Belo.refl _ _ w2).set3 (.slice pu us.length cu) (.slice pg gs.length cg) (.slice pa ks.length ca)).sln SS.out oR)
 replace OO := Lib.hid (((Belo.refl _ _ w2).set3 (.slice pu us.length cu) (.slice pg gs.length cg) (.slice pa ks.length ca)).nsok OO.out oR)
 replace oL := (((oL.other (by first | (simp; done) | (simp; omega) | omega | (dsimp only; omega)) (a := ⟨w.heap.size + 1 + 1 + 1 + 1, 0, none⟩) (.slice pu us.length cu)).other (by first | (simp; done) | (simp; omega) | omega | (dsimp only; omega)) (a := ⟨w.heap.size + 1 + 1 + 1 + 1, 1, none⟩) (.slice pg gs.length cg)).other (by first | (simp; done) | (simp; omega) | omega | (dsimp only; omega)) (a := ⟨w.heap.size + 1 + 1 + 1 + 1, 2, none⟩) (.slice pa ks.length ca))
 replace oT := (((oT.other (by first | (simp; done) | (simp; omega) | omega | (dsimp only; omega)) (a := ⟨w.heap.size + 1 + 1 + 1 + 1, 0, none⟩) (.slice pu us.length cu)).other (by first | (simp; done) | (simp; omega) | omega | (dsimp only; omega)) (a := ⟨w.heap.size + 1 + 1 + 1 + 1, 1, none⟩) (.slice pg gs.length cg)).other (by first | (simp; done) | (simp; omega) | omega | (dsimp only; omega)) (a := ⟨w.heap.size + 1 + 1 + 1 + 1, 2, none⟩) (.slice pa ks.length ca))
 replace oP := (((oP.other (by first | (simp; done) | (simp; omega) | omega | (dsimp only; omega)) (a := ⟨w.heap.size + 1 + 1 + 1 + 1, 0, none⟩) (.slice pu us.length cu)).other (by first | (simp; done) | (simp; omega) | omega | (dsimp only; omega)) (a := ⟨w.heap.size + 1 + 1 + 1 + 1, 1, none⟩) (.slice pg gs.length cg)).other (by first | (simp; done) | (simp; omega) | omega | (dsimp only; omega)) (a := ⟨w.heap.size + 1 + 1 + 1 + 1, 2, none⟩) (.slice pa ks.length ca))
 replace oM := (((oM.other (by first | (simp; done) | (simp; omega) | omega | (dsimp only; omega)) (a := ⟨w.heap.size + 1 + 1 + 1 + 1, 0, none⟩) (.slice pu us.length cu)).other (by first | (simp; done) | (simp; omega) | omega | (dsimp only; omega)) (a := ⟨w.heap.size + 1 + 1 + 1 + 1, 1, none⟩) (.slice pg gs.length cg)).other (by first | (simp; done) | (simp; omega) | omega | (dsimp only; omega)) (a := ⟨w.heap.size + 1 + 1 + 1 + 1, 2, none⟩) (.slice pa ks.length ca))
 replace oS := (((oS.other (by first | (simp; done) | (simp; omega) | omega | (dsimp only; omega)) (a := ⟨w.heap.size + 1 + 1 + 1 + 1, 0, none⟩) (.slice pu us.length cu)).other (by first | (simp; done) | (simp; omega) | omega | (dsimp only; omega)) (a := ⟨w.heap.size + 1 + 1 + 1 + 1, 1, none⟩) (.slice pg gs.length cg)).other (by first | (simp; done) | (simp; omega) | omega | (dsimp only; omega)) (a := ⟨w.heap.size + 1 + 1 + 1 + 1, 2, none⟩) (.slice pa ks.length ca))
 replace oB := (((oB.other (by first | (simp; done) | (simp; omega) | omega | (dsimp only; omega)) (a := ⟨w.heap.size + 1 + 1 + 1 + 1, 0, none⟩) (.slice pu us.length cu)).other (by first | (simp; done) | (simp; omega) | omega | (dsimp only; omega)) (a := ⟨w.heap.size + 1 + 1 + 1 + 1, 1, none⟩) (.slice pg gs.length cg)).other (by first | (simp; done) | (simp; omega) | omega | (dsimp only; omega)) (a := ⟨w.heap.size + 1 + 1 + 1 + 1, 2, none⟩) (.slice pa ks.length ca))
 replace bel := (((bel.setCell (p := ⟨w.heap.size + 1 + 1 + 1 + 1, 0, none⟩) (by first | (simp; done) | (simp; omega) | omega | (dsimp only; omega)) (.slice pu us.length cu)).setCell (p := ⟨w.heap.size + 1 + 1 + 1 + 1, 1, none⟩) (by first | (simp; done) | (simp; omega) | omega | (dsimp only; omega)) (.slice pg gs.length cg)).setCell (p := ⟨w.heap.size + 1 + 1 + 1 + 1, 2, none⟩) (by first | (simp; done) | (simp; omega) | omega | (dsimp only; omega)) (.slice pa ks.length ca))
 replace oR : Own _ (w.heap.size + 1 + 1 + 1 + 1) [.slice pu us.length cu, .slice pg gs.length cg, .slice pa ks.length ca] 43 := (((oR.set 0 (.slice pu us.length cu)).set 1 (.slice pg gs.length cg)).set 2 (.slice pa ks.length ca))
 clear cL0 cL1 fL zL cT0 cT1 cT2 fT zT cP0 fP zP cM0 fM zM cR0 cR1 cR2 fR zR cS0 cS1 cS2 cS3 cS4 fS zS cB0 fB zB
 generalize (((w2.setCell ⟨w.heap.size + 1 + 1 + 1 + 1, 0, none⟩ (.slice pu us.length cu)).setCell ⟨w.heap.size + 1 + 1 + 1 + 1, 1, none⟩ (.slice pg gs.length cg)).setCell ⟨w.heap.size + 1 + 1 + 1 + 1, 2, none⟩ (.slice pa ks.length ca)) = w3 at oL oT oP oM oR oS oB SS OO bel ⊢
 obtain ⟨cL0, cL1, fL, zL⟩ := own2 oL
 obtain ⟨cT0, cT1, cT2, fT, zT⟩ := own3 oT
 obtain ⟨cP0, fP, zP⟩ := own1 oP
 obtain ⟨cM0, fM, zM⟩ := own1 oM
 obtain ⟨cR0, cR1, cR2, fR, zR⟩ := own3 oR
 obtain ⟨cS0, cS1, cS2, cS3, cS4, fS, zS⟩ := own5 oS
 obtain ⟨cB0, fB, zB⟩ := own1 oB
 refine bodyPost_ret (v := .agg #[.slice pu us.length cu, .slice pg gs.length cg, .slice pa ks.length ca]) (by simp [results, Tryz.results14, go_sem, *]) rfl ⟨_, _, _, rfl, SU.out.below bel, SG.out.below bel, SA.out.below bel, bel⟩
set_option maxRecDepth 100000 in
set_option maxHeartbeats 2000000 in
theorem ask_none (vu vg va : Value) (us : List Us) (gs : List Gr) (ks : List Ak) (N D me f : Int) (p many : Int) (v : Value) (l : List Nr) (w : World) (su : SlU w vu us) (sg : SlG w vg gs) (sa : SlA w va ks) (u70 : us.length ≤ 70) (g70 : gs.length ≤ 70) (k70 : ks.length ≤ 70) (sl : SlN w v l) (ho : NsOk w l) (h1000 : l.length ≤ 1000) (hfew : ∀ r ∈ l, r.b.us.length ≤ 100 ∧ r.b.gs.length ≤ 100 ∧ r.b.ks.length ≤ 100) (f0 : 0 ≤ f) (f1 : f ≤ 1000000) (y1 : many ≤ 12) (hs : sideB N D ⟨us, gs, ks⟩ me (l.map Nr.b) f = true) (hm : inB many 24 = true) (hfn : fndF p (sidL N D (l.map Nr.b)) = none) : Calls Tryz.prog 14 #[.agg #[.int .i64 N, .int .i64 D], .agg #[vu, vg, va], .int .i64 me, v, .int .i64 p, .int .i64 many, .int .i64 f] w (TblP w us gs []) := by
 obtain ⟨pu, cu, e0, hlu, hcu, _⟩ := su.form us.length rfl
 subst e0
 obtain ⟨pg, cg, e0, hlg, hcg, _⟩ := sg.form gs.length rfl
 subst e0
 obtain ⟨pa, ca, e0, hla, hca, _⟩ := sa.form ks.length rfl
 subst e0
 have SU := Lib.hid su
 have SG := Lib.hid sg
 have SA := Lib.hid sa
 clear su sg sa
 have iu0 : (0 : Int) ≤ (us.length : Int) := Int.natCast_nonneg _
 have ig0 : (0 : Int) ≤ (gs.length : Int) := Int.natCast_nonneg _
 have ia0 : (0 : Int) ≤ (ks.length : Int) := Int.natCast_nonneg _
 have iu : (us.length : Int) ≤ 70 := by omega
 have ig : (gs.length : Int) ≤ 70 := by omega
 have ia : (ks.length : Int) ≤ 70 := by omega
 have HO := Lib.hid ho
 have HS := Lib.hid hs
 clear ho hs
 have HM := Lib.hid hm
 clear hm
 have HFN := Lib.hid hfn
 clear hfn
 obtain ⟨pn, cap, e0, hlc, hcm, hpn⟩ := sl.form l.length rfl
 subst e0
 have SL := Lib.hid sl
 unfold maxLen at hcm
 clear hpn sl
 go_enter Tryz.func14, Tryz.ntmps14
 go_wp2_with fail
 refine (new_any _ _ _ us gs ks N D me f _ l _ (SU.out.below ((((((Below.refl _ _).alloc (by exact Nat.le_refl _) _).alloc (by simp) _).alloc (by simp; omega) _).alloc (by simp; omega) _).alloc (by simp; omega) _)) (SG.out.below ((((((Below.refl _ _).alloc (by exact Nat.le_refl _) _).alloc (by simp) _).alloc (by simp; omega) _).alloc (by simp; omega) _).alloc (by simp; omega) _)) (SA.out.below ((((((Below.refl _ _).alloc (by exact Nat.le_refl _) _).alloc (by simp) _).alloc (by simp; omega) _).alloc (by simp; omega) _).alloc (by simp; omega) _)) u70 g70 k70 (SL.out.below ((((((Below.refl _ _).alloc (by exact Nat.le_refl _) _).alloc (by simp) _).alloc (by simp; omega) _).alloc (by simp; omega) _).alloc (by simp; omega) _)) (HO.out.below ((((((Below.refl _ _).alloc (by exact Nat.le_refl _) _).alloc (by simp) _).alloc (by simp; omega) _).alloc (by simp; omega) _).alloc (by simp; omega) _)) h1000 hfew true HS.out).mono ?_
 rintro e w1 ⟨bs, ⟨sp, sn, sc⟩, S, rfl, os, s1, o1, hS, hbs, hb⟩
 dsimp only at os s1
 have e2 := s1.len_eq
 subst e2
 have oL : Own w1 w.heap.size [.int .i64 N, .int .i64 D] 31 := (((((own_at _ _ rfl).alloc _).alloc _).alloc _).alloc _).below hb
 have oT : Own w1 (w.heap.size + 1) [.slice pu us.length cu, .slice pg gs.length cg, .slice pa ks.length ca] 43 := ((((own_at _ _ (by simp)).alloc _).alloc _).alloc _).below hb
 have oP : Own w1 (w.heap.size + 1 + 1) [.int .i64 p] 3 := (((own_at _ _ (by simp)).alloc _).alloc _).below hb
 have oM : Own w1 (w.heap.size + 1 + 1 + 1) [.int .i64 many] 3 := ((own_at _ _ (by simp)).alloc _).below hb
 have oR : Own w1 (w.heap.size + 1 + 1 + 1 + 1) [.slice none 0 0, .slice none 0 0, .slice none 0 0] 43 := (own_at _ _ (by simp)).below hb
 have bel := belowTo ((((((Below.refl w.heap.size w).alloc (by simp) _).alloc (by simp) _).alloc (by simp; omega) _).alloc (by simp; omega) _).alloc (by simp; omega) _) hb (by simp; omega)
 clear hb
 obtain ⟨cL0, cL1, fL, zL⟩ := own2 oL
 obtain ⟨cT0, cT1, cT2, fT, zT⟩ := own3 oT
 obtain ⟨cP0, fP, zP⟩ := own1 oP
 obtain ⟨cM0, fM, zM⟩ := own1 oM
 obtain ⟨cR0, cR1, cR2, fR, zR⟩ := own3 oR
 simp only [World.size_alloc] at hbs
 have oS := os
 clear os
 have HSM := Lib.hid hS
 clear hS
 obtain ⟨cS0, cS1, cS2, cS3, cS4, fS, zS⟩ := own5 oS
 have SS := Lib.hid s1
 have OO := Lib.hid o1
 clear s1 o1
 have hSl : S.length ≤ 1000 := by have h9 := congrArg List.length HSM.out; simp only [sidL, List.length_map] at h9; omega
 have ltBR : w.heap.size + 1 + 1 + 1 + 1 < w1.heap.size := zR
 have ltBS : bs < w1.heap.size := zS
 go_wp2_with fail
 refine (in_lit many 24 true _ HM.out).mono ?_
 rintro e w2 ⟨rfl, hb⟩
 replace oL := (oL.alloc _).below hb
 replace oT := (oT.alloc _).below hb
 replace oP := (oP.alloc _).below hb
 replace oM := (oM.alloc _).below hb
 replace oR := (oR.alloc _).below hb
 replace oS := (oS.alloc _).below hb
 replace SS := Lib.hid ((SS.out.below (belowNew _ _)).below hb)
 replace OO := Lib.hid ((OO.out.below (belowNew _ _)).below hb)
 have oB : Own w2 w1.heap.size [.pointer (some ⟨bs, 0, none⟩)] 82 := (own_at _ _ rfl).below hb
 replace bel := belowTo (bel.alloc (by have := bel.size; first | (simp; done) | (simp; omega)) _) hb (by have := bel.size; first | (simp; done) | (simp; omega))
 clear hb
 clear cL0 cL1 fL zL cT0 cT1 cT2 fT zT cP0 fP zP cM0 fM zM cR0 cR1 cR2 fR zR cS0 cS1 cS2 cS3 cS4 fS zS
 obtain ⟨cL0, cL1, fL, zL⟩ := own2 oL
 obtain ⟨cT0, cT1, cT2, fT, zT⟩ := own3 oT
 obtain ⟨cP0, fP, zP⟩ := own1 oP
 obtain ⟨cM0, fM, zM⟩ := own1 oM
 obtain ⟨cR0, cR1, cR2, fR, zR⟩ := own3 oR
 obtain ⟨cS0, cS1, cS2, cS3, cS4, fS, zS⟩ := own5 oS
 obtain ⟨cB0, fB, zB⟩ := own1 oB
 go_wp2_with fail
 replace SS := Lib.hid (((Belo.refl _ _ w2).set 2 (.slice none 0 0)).sln SS.out oT)
 replace OO := Lib.hid (((Belo.refl _ _ w2).set 2 (.slice none 0 0)).nsok OO.out oT)
 replace oL := (oL.other (by first | (simp; done) | (simp; omega) | omega | (dsimp only; omega)) (a := ⟨w.heap.size + 1, 2, none⟩) (.slice none 0 0))
 replace oP := (oP.other (by first | (simp; done) | (simp; omega) | omega | (dsimp only; omega)) (a := ⟨w.heap.size + 1, 2, none⟩) (.slice none 0 0))
 replace oM := (oM.other (by first | (simp; done) | (simp; omega) | omega | (dsimp only; omega)) (a := ⟨w.heap.size + 1, 2, none⟩) (.slice none 0 0))
 replace oR := (oR.other (by first | (simp; done) | (simp; omega) | omega | (dsimp only; omega)) (a := ⟨w.heap.size + 1, 2, none⟩) (.slice none 0 0))
 replace oS := (oS.other (by first | (simp; done) | (simp; omega) | omega | (dsimp only; omega)) (a := ⟨w.heap.size + 1, 2, none⟩) (.slice none 0 0))
 replace oB := (oB.other (by first | (simp; done) | (simp; omega) | omega | (dsimp only; omega)) (a := ⟨w.heap.size + 1, 2, none⟩) (.slice none 0 0))
 replace bel := (bel.setCell (p := ⟨w.heap.size + 1, 2, none⟩) (by first | (simp; done) | (simp; omega) | omega | (dsimp only; omega)) (.slice none 0 0))
 replace oT : Own _ (w.heap.size + 1) [.slice pu us.length cu, .slice pg gs.length cg, .slice none 0 0] 43 := (oT.set 2 (.slice none 0 0))
 clear cL0 cL1 fL zL cT0 cT1 cT2 fT zT cP0 fP zP cM0 fM zM cR0 cR1 cR2 fR zR cS0 cS1 cS2 cS3 cS4 fS zS cB0 fB zB
 generalize (w2.setCell ⟨w.heap.size + 1, 2, none⟩ (.slice none 0 0)) = w3 at oL oT oP oM oR oS oB SS OO bel ⊢
 obtain ⟨cL0, cL1, fL, zL⟩ := own2 oL
 obtain ⟨cT0, cT1, cT2, fT, zT⟩ := own3 oT
 obtain ⟨cP0, fP, zP⟩ := own1 oP
 obtain ⟨cM0, fM, zM⟩ := own1 oM
 obtain ⟨cR0, cR1, cR2, fR, zR⟩ := own3 oR
 obtain ⟨cS0, cS1, cS2, cS3, cS4, fS, zS⟩ := own5 oS
 obtain ⟨cB0, fB, zB⟩ := own1 oB
 refine (find_none bs N D me f ⟨sp, S.length, sc⟩ S p _ oS SS.out OO.out hSl (by rw [HSM.out]; exact HFN.out)).mono ?_
 rintro e w4 ⟨rfl, hb⟩
 replace oL := oL.below hb
 replace oT := oT.below hb
 replace oP := oP.below hb
 replace oM := oM.below hb
 replace oR := oR.below hb
 replace oS := oS.below hb
 replace oB := oB.below hb
 replace SS := Lib.hid (SS.out.below hb)
 replace OO := Lib.hid (OO.out.below hb)
 replace bel := belowTo bel hb (by exact bel.size)
 clear hb
 clear cL0 cL1 fL zL cT0 cT1 cT2 fT zT cP0 fP zP cM0 fM zM cR0 cR1 cR2 fR zR cS0 cS1 cS2 cS3 cS4 fS zS cB0 fB zB
 obtain ⟨cL0, cL1, fL, zL⟩ := own2 oL
 obtain ⟨cT0, cT1, cT2, fT, zT⟩ := own3 oT
 obtain ⟨cP0, fP, zP⟩ := own1 oP
 obtain ⟨cM0, fM, zM⟩ := own1 oM
 obtain ⟨cR0, cR1, cR2, fR, zR⟩ := own3 oR
 obtain ⟨cS0, cS1, cS2, cS3, cS4, fS, zS⟩ := own5 oS
 obtain ⟨cB0, fB, zB⟩ := own1 oB
 go_wp2_with (first | ((with_reducible refine storeNewN nr0 w4.heap.size ?_ ?_ ?_ ?_); (next => exact ⟨_, _, rfl, rfl, rfl⟩); (next => rfl); (next => first | rfl | simp)) | fail)
 replace SS := Lib.hid (((Belo.refl _ _ w4).set3 (.slice pu us.length cu) (.slice pg gs.length cg) (.slice none 0 0)).sln SS.out oR)
 replace OO := Lib.hid (((Belo.refl _ _ w4).set3 (.slice pu us.length cu) (.slice pg gs.length cg) (.slice none 0 0)).nsok OO.out oR)
 replace oL := (((oL.other (by first | (simp; done) | (simp; omega) | omega | (dsimp only; omega)) (a := ⟨w.heap.size + 1 + 1 + 1 + 1, 0, none⟩) (.slice pu us.length cu)).other (by first | (simp; done) | (simp; omega) | omega | (dsimp only; omega)) (a := ⟨w.heap.size + 1 + 1 + 1 + 1, 1, none⟩) (.slice pg gs.length cg)).other (by first | (simp; done) | (simp; omega) | omega | (dsimp only; omega)) (a := ⟨w.heap.size + 1 + 1 + 1 + 1, 2, none⟩) (.slice none 0 0))
 replace oT := (((oT.other (by first | (simp; done) | (simp; omega) | omega | (dsimp only; omega)) (a := ⟨w.heap.size + 1 + 1 + 1 + 1, 0, none⟩) (.slice pu us.length cu)).other (by first | (simp; done) | (simp; omega) | omega | (dsimp only; omega)) (a := ⟨w.heap.size + 1 + 1 + 1 + 1, 1, none⟩) (.slice pg gs.length cg)).other (by first | (simp; done) | (simp; omega) | omega | (dsimp only; omega)) (a := ⟨w.heap.size + 1 + 1 + 1 + 1, 2, none⟩) (.slice none 0 0))
 replace oP := (((oP.other (by first | (simp; done) | (simp; omega) | omega | (dsimp only; omega)) (a := ⟨w.heap.size + 1 + 1 + 1 + 1, 0, none⟩) (.slice pu us.length cu)).other (by first | (simp; done) | (simp; omega) | omega | (dsimp only; omega)) (a := ⟨w.heap.size + 1 + 1 + 1 + 1, 1, none⟩) (.slice pg gs.length cg)).other (by first | (simp; done) | (simp; omega) | omega | (dsimp only; omega)) (a := ⟨w.heap.size + 1 + 1 + 1 + 1, 2, none⟩) (.slice none 0 0))
 replace oM := (((oM.other (by first | (simp; done) | (simp; omega) | omega | (dsimp only; omega)) (a := ⟨w.heap.size + 1 + 1 + 1 + 1, 0, none⟩) (.slice pu us.length cu)).other (by first | (simp; done) | (simp; omega) | omega | (dsimp only; omega)) (a := ⟨w.heap.size + 1 + 1 + 1 + 1, 1, none⟩) (.slice pg gs.length cg)).other (by first | (simp; done) | (simp; omega) | omega | (dsimp only; omega)) (a := ⟨w.heap.size + 1 + 1 + 1 + 1, 2, none⟩) (.slice none 0 0))
 replace oS := (((oS.other (by first | (simp; done) | (simp; omega) | omega | (dsimp only; omega)) (a := ⟨w.heap.size + 1 + 1 + 1 + 1, 0, none⟩) (.slice pu us.length cu)).other (by first | (simp; done) | (simp; omega) | omega | (dsimp only; omega)) (a := ⟨w.heap.size + 1 + 1 + 1 + 1, 1, none⟩) (.slice pg gs.length cg)).other (by first | (simp; done) | (simp; omega) | omega | (dsimp only; omega)) (a := ⟨w.heap.size + 1 + 1 + 1 + 1, 2, none⟩) (.slice none 0 0))
 replace oB := (((oB.other (by first | (simp; done) | (simp; omega) | omega | (dsimp only; omega)) (a := ⟨w.heap.size + 1 + 1 + 1 + 1, 0, none⟩) (.slice pu us.length cu)).other (by first | (simp; done) | (simp; omega) | omega | (dsimp only; omega)) (a := ⟨w.heap.size + 1 + 1 + 1 + 1, 1, none⟩) (.slice pg gs.length cg)).other (by first | (simp; done) | (simp; omega) | omega | (dsimp only; omega)) (a := ⟨w.heap.size + 1 + 1 + 1 + 1, 2, none⟩) (.slice none 0 0))
 replace bel := (((bel.setCell (p := ⟨w.heap.size + 1 + 1 + 1 + 1, 0, none⟩) (by first | (simp; done) | (simp; omega) | omega | (dsimp only; omega)) (.slice pu us.length cu)).setCell (p := ⟨w.heap.size + 1 + 1 + 1 + 1, 1, none⟩) (by first | (simp; done) | (simp; omega) | omega | (dsimp only; omega)) (.slice pg gs.length cg)).setCell (p := ⟨w.heap.size + 1 + 1 + 1 + 1, 2, none⟩) (by first | (simp; done) | (simp; omega) | omega | (dsimp only; omega)) (.slice none 0 0))
 replace oR : Own _ (w.heap.size + 1 + 1 + 1 + 1) [.slice pu us.length cu, .slice pg gs.length cg, .slice none 0 0] 43 := (((oR.set 0 (.slice pu us.length cu)).set 1 (.slice pg gs.length cg)).set 2 (.slice none 0 0))
 clear cL0 cL1 fL zL cT0 cT1 cT2 fT zT cP0 fP zP cM0 fM zM cR0 cR1 cR2 fR zR cS0 cS1 cS2 cS3 cS4 fS zS cB0 fB zB
 generalize (((w4.setCell ⟨w.heap.size + 1 + 1 + 1 + 1, 0, none⟩ (.slice pu us.length cu)).setCell ⟨w.heap.size + 1 + 1 + 1 + 1, 1, none⟩ (.slice pg gs.length cg)).setCell ⟨w.heap.size + 1 + 1 + 1 + 1, 2, none⟩ (.slice none 0 0)) = w5 at oL oT oP oM oR oS oB SS OO bel ⊢
 obtain ⟨cL0, cL1, fL, zL⟩ := own2 oL
 obtain ⟨cT0, cT1, cT2, fT, zT⟩ := own3 oT
 obtain ⟨cP0, fP, zP⟩ := own1 oP
 obtain ⟨cM0, fM, zM⟩ := own1 oM
 obtain ⟨cR0, cR1, cR2, fR, zR⟩ := own3 oR
 obtain ⟨cS0, cS1, cS2, cS3, cS4, fS, zS⟩ := own5 oS
 obtain ⟨cB0, fB, zB⟩ := own1 oB
 refine bodyPost_ret (v := .agg #[.slice pu us.length cu, .slice pg gs.length cg, .slice none 0 0]) (by simp [results, Tryz.results14, go_sem, *]) rfl ⟨_, _, _, rfl, SU.out.below (bel.alloc bel.size _), SG.out.below (bel.alloc bel.size _), slt_nil _, (bel.alloc bel.size _)⟩
set_option maxRecDepth 100000 in
set_option maxHeartbeats 8000000 in
theorem ask_ok (vu vg va : Value) (us : List Us) (gs : List Gr) (ks : List Ak) (N D me f : Int) (p many : Int) (v : Value) (l : List Nr) (w : World) (su : SlU w vu us) (sg : SlG w vg gs) (sa : SlA w va ks) (u70 : us.length ≤ 70) (g70 : gs.length ≤ 70) (k70 : ks.length ≤ 70) (sl : SlN w v l) (ho : NsOk w l) (h1000 : l.length ≤ 1000) (hfew : ∀ r ∈ l, r.b.us.length ≤ 100 ∧ r.b.gs.length ≤ 100 ∧ r.b.ks.length ≤ 100) (f0 : 0 ≤ f) (f1 : f ≤ 1000000) (y1 : many ≤ 12) (n : Nb) (hs : sideB N D ⟨us, gs, ks⟩ me (l.map Nr.b) f = true) (hm : inB many 24 = true) (hfn : fndF p (sidL N D (l.map Nr.b)) = some n) : Calls Tryz.prog 14 #[.agg #[.int .i64 N, .int .i64 D], .agg #[vu, vg, va], .int .i64 me, v, .int .i64 p, .int .i64 many, .int .i64 f] w (TblP w us gs (srtA (askU D me f (sidL N D (l.map Nr.b)) us gs n p many ks (16 * D).toNat))) := by
 obtain ⟨pu, cu, e0, hlu, hcu, _⟩ := su.form us.length rfl
 subst e0
 obtain ⟨pg, cg, e0, hlg, hcg, _⟩ := sg.form gs.length rfl
 subst e0
 obtain ⟨pa, ca, e0, hla, hca, _⟩ := sa.form ks.length rfl
 subst e0
 have SU := Lib.hid su
 have SG := Lib.hid sg
 have SA := Lib.hid sa
 clear su sg sa
 have iu0 : (0 : Int) ≤ (us.length : Int) := Int.natCast_nonneg _
 have ig0 : (0 : Int) ≤ (gs.length : Int) := Int.natCast_nonneg _
 have ia0 : (0 : Int) ≤ (ks.length : Int) := Int.natCast_nonneg _
 have iu : (us.length : Int) ≤ 70 := by omega
 have ig : (gs.length : Int) ≤ 70 := by omega
 have ia : (ks.length : Int) ≤ 70 := by omega
 have HO := Lib.hid ho
 have HS := Lib.hid hs
 have HVAL := Lib.hid (side_val hs)
 have HSME := Lib.hid (side_me hs)
 clear ho hs
 have HM := Lib.hid hm
 clear hm
 obtain ⟨i0, hi, hz, hs0, hb0⟩ := info_parts info_a
 have IF := Lib.hid (And.intro hi (And.intro hz (And.intro hs0 hb0)))
 clear hi hz hs0 hb0
 have HFN := Lib.hid hfn
 have HPP := Lib.hid (ask_peer HSME.out hfn)
 clear hfn
 obtain ⟨pn, cap, e0, hlc, hcm, hpn⟩ := sl.form l.length rfl
 subst e0
 have SL := Lib.hid sl
 unfold maxLen at hcm
 clear hpn sl
 refine (callsIn_wide (n := 9)).1 ?_
 refine callsIn_of_wp_marks Tryz.func14 rfl trivial ?_ rfl
 simp only [Tryz.ntmps14, List.size_toArray, List.length_cons, List.length_nil, Nat.reduceAdd, Nat.reduceSub, Array.replicate_succ, Array.replicate_zero, List.push_toArray, List.append_toArray, List.nil_append, List.cons_append]
 refine wpIn_wide.2 ?_
 go_wp2_with fail
 refine (new_any _ _ _ us gs ks N D me f _ l _ (SU.out.below ((((((Below.refl _ _).alloc (by exact Nat.le_refl _) _).alloc (by simp) _).alloc (by simp; omega) _).alloc (by simp; omega) _).alloc (by simp; omega) _)) (SG.out.below ((((((Below.refl _ _).alloc (by exact Nat.le_refl _) _).alloc (by simp) _).alloc (by simp; omega) _).alloc (by simp; omega) _).alloc (by simp; omega) _)) (SA.out.below ((((((Below.refl _ _).alloc (by exact Nat.le_refl _) _).alloc (by simp) _).alloc (by simp; omega) _).alloc (by simp; omega) _).alloc (by simp; omega) _)) u70 g70 k70 (SL.out.below ((((((Below.refl _ _).alloc (by exact Nat.le_refl _) _).alloc (by simp) _).alloc (by simp; omega) _).alloc (by simp; omega) _).alloc (by simp; omega) _)) (HO.out.below ((((((Below.refl _ _).alloc (by exact Nat.le_refl _) _).alloc (by simp) _).alloc (by simp; omega) _).alloc (by simp; omega) _).alloc (by simp; omega) _)) h1000 hfew true HS.out).mono ?_
 rintro e w1 ⟨bs, ⟨sp, sn, sc⟩, S, rfl, os, s1, o1, hS, hbs, hb⟩
 dsimp only at os s1
 have e2 := s1.len_eq
 subst e2
 have oL : Own w1 w.heap.size [.int .i64 N, .int .i64 D] 31 := (((((own_at _ _ rfl).alloc _).alloc _).alloc _).alloc _).below hb
 have oT : Own w1 (w.heap.size + 1) [.slice pu us.length cu, .slice pg gs.length cg, .slice pa ks.length ca] 43 := ((((own_at _ _ (by simp)).alloc _).alloc _).alloc _).below hb
 have oP : Own w1 (w.heap.size + 1 + 1) [.int .i64 p] 3 := (((own_at _ _ (by simp)).alloc _).alloc _).below hb
 have oM : Own w1 (w.heap.size + 1 + 1 + 1) [.int .i64 many] 3 := ((own_at _ _ (by simp)).alloc _).below hb
 have oR : Own w1 (w.heap.size + 1 + 1 + 1 + 1) [.slice none 0 0, .slice none 0 0, .slice none 0 0] 43 := (own_at _ _ (by simp)).below hb
 have bel := belowTo ((((((Below.refl w.heap.size w).alloc (by simp) _).alloc (by simp) _).alloc (by simp; omega) _).alloc (by simp; omega) _).alloc (by simp; omega) _) hb (by simp; omega)
 clear hb
 obtain ⟨cL0, cL1, fL, zL⟩ := own2 oL
 obtain ⟨cT0, cT1, cT2, fT, zT⟩ := own3 oT
 obtain ⟨cP0, fP, zP⟩ := own1 oP
 obtain ⟨cM0, fM, zM⟩ := own1 oM
 obtain ⟨cR0, cR1, cR2, fR, zR⟩ := own3 oR
 simp only [World.size_alloc] at hbs
 have oS := os
 clear os
 have HSM := Lib.hid hS
 clear hS
 obtain ⟨cS0, cS1, cS2, cS3, cS4, fS, zS⟩ := own5 oS
 have SS := Lib.hid s1
 have OO := Lib.hid o1
 clear s1 o1
 have hSl : S.length ≤ 1000 := by have h9 := congrArg List.length HSM.out; simp only [sidL, List.length_map] at h9; omega
 have ltBR : w.heap.size + 1 + 1 + 1 + 1 < w1.heap.size := zR
 have ltBS : bs < w1.heap.size := zS
 go_wp2_with fail
 refine (in_lit many 24 true _ HM.out).mono ?_
 rintro e w2 ⟨rfl, hb⟩
 replace oL := (oL.alloc _).below hb
 replace oT := (oT.alloc _).below hb
 replace oP := (oP.alloc _).below hb
 replace oM := (oM.alloc _).below hb
 replace oR := (oR.alloc _).below hb
 replace oS := (oS.alloc _).below hb
 replace SS := Lib.hid ((SS.out.below (belowNew _ _)).below hb)
 replace OO := Lib.hid ((OO.out.below (belowNew _ _)).below hb)
 have oB : Own w2 w1.heap.size [.pointer (some ⟨bs, 0, none⟩)] 82 := (own_at _ _ rfl).below hb
 replace bel := belowTo (bel.alloc (by have := bel.size; first | (simp; done) | (simp; omega)) _) hb (by have := bel.size; first | (simp; done) | (simp; omega))
 clear hb
 clear cL0 cL1 fL zL cT0 cT1 cT2 fT zT cP0 fP zP cM0 fM zM cR0 cR1 cR2 fR zR cS0 cS1 cS2 cS3 cS4 fS zS
 obtain ⟨cL0, cL1, fL, zL⟩ := own2 oL
 obtain ⟨cT0, cT1, cT2, fT, zT⟩ := own3 oT
 obtain ⟨cP0, fP, zP⟩ := own1 oP
 obtain ⟨cM0, fM, zM⟩ := own1 oM
 obtain ⟨cR0, cR1, cR2, fR, zR⟩ := own3 oR
 obtain ⟨cS0, cS1, cS2, cS3, cS4, fS, zS⟩ := own5 oS
 obtain ⟨cB0, fB, zB⟩ := own1 oB
 go_wp2_with fail
 replace SS := Lib.hid (((Belo.refl _ _ w2).set 2 (.slice none 0 0)).sln SS.out oT)
 replace OO := Lib.hid (((Belo.refl _ _ w2).set 2 (.slice none 0 0)).nsok OO.out oT)
 replace oL := (oL.other (by first | (simp; done) | (simp; omega) | omega | (dsimp only; omega)) (a := ⟨w.heap.size + 1, 2, none⟩) (.slice none 0 0))
 replace oP := (oP.other (by first | (simp; done) | (simp; omega) | omega | (dsimp only; omega)) (a := ⟨w.heap.size + 1, 2, none⟩) (.slice none 0 0))
 replace oM := (oM.other (by first | (simp; done) | (simp; omega) | omega | (dsimp only; omega)) (a := ⟨w.heap.size + 1, 2, none⟩) (.slice none 0 0))
 replace oR := (oR.other (by first | (simp; done) | (simp; omega) | omega | (dsimp only; omega)) (a := ⟨w.heap.size + 1, 2, none⟩) (.slice none 0 0))
 replace oS := (oS.other (by first | (simp; done) | (simp; omega) | omega | (dsimp only; omega)) (a := ⟨w.heap.size + 1, 2, none⟩) (.slice none 0 0))
 replace oB := (oB.other (by first | (simp; done) | (simp; omega) | omega | (dsimp only; omega)) (a := ⟨w.heap.size + 1, 2, none⟩) (.slice none 0 0))
 replace bel := (bel.setCell (p := ⟨w.heap.size + 1, 2, none⟩) (by first | (simp; done) | (simp; omega) | omega | (dsimp only; omega)) (.slice none 0 0))
 replace oT : Own _ (w.heap.size + 1) [.slice pu us.length cu, .slice pg gs.length cg, .slice none 0 0] 43 := (oT.set 2 (.slice none 0 0))
 clear cL0 cL1 fL zL cT0 cT1 cT2 fT zT cP0 fP zP cM0 fM zM cR0 cR1 cR2 fR zR cS0 cS1 cS2 cS3 cS4 fS zS cB0 fB zB
 generalize (w2.setCell ⟨w.heap.size + 1, 2, none⟩ (.slice none 0 0)) = w3 at oL oT oP oM oR oS oB SS OO bel ⊢
 obtain ⟨cL0, cL1, fL, zL⟩ := own2 oL
 obtain ⟨cT0, cT1, cT2, fT, zT⟩ := own3 oT
 obtain ⟨cP0, fP, zP⟩ := own1 oP
 obtain ⟨cM0, fM, zM⟩ := own1 oM
 obtain ⟨cR0, cR1, cR2, fR, zR⟩ := own3 oR
 obtain ⟨cS0, cS1, cS2, cS3, cS4, fS, zS⟩ := own5 oS
 obtain ⟨cB0, fB, zB⟩ := own1 oB
 refine (find_some bs N D me f ⟨sp, S.length, sc⟩ S p n _ oS SS.out OO.out hSl (by rw [HSM.out]; exact HFN.out)).mono ?_
 rintro e w4 ⟨r, rfl, rok, hrb, hb⟩
 replace oL := oL.below hb
 replace oT := oT.below hb
 replace oP := oP.below hb
 replace oM := oM.below hb
 replace oR := oR.below hb
 replace oS := oS.below hb
 replace oB := oB.below hb
 replace SS := Lib.hid (SS.out.below hb)
 replace OO := Lib.hid (OO.out.below hb)
 replace bel := belowTo bel hb (by exact bel.size)
 clear hb
 clear cL0 cL1 fL zL cT0 cT1 cT2 fT zT cP0 fP zP cM0 fM zM cR0 cR1 cR2 fR zR cS0 cS1 cS2 cS3 cS4 fS zS cB0 fB zB
 obtain ⟨cL0, cL1, fL, zL⟩ := own2 oL
 obtain ⟨cT0, cT1, cT2, fT, zT⟩ := own3 oT
 obtain ⟨cP0, fP, zP⟩ := own1 oP
 obtain ⟨cM0, fM, zM⟩ := own1 oM
 obtain ⟨cR0, cR1, cR2, fR, zR⟩ := own3 oR
 obtain ⟨cS0, cS1, cS2, cS3, cS4, fS, zS⟩ := own5 oS
 obtain ⟨cB0, fB, zB⟩ := own1 oB
 have RK := Lib.hid rok
 have HRB := Lib.hid hrb
 clear rok hrb
 go_wp2_with (first | ((with_reducible refine storeNewN r w4.heap.size ?_ ?_ ?_ ?_); (next => exact ⟨_, _, rfl, rfl, rfl⟩); (next => rfl); (next => first | rfl | simp)) | ((with_reducible refine storeNewF 111 (.func (.func 34) #[] #[.pointer (some ⟨w1.heap.size, 0, none⟩), .pointer (some ⟨w.heap.size + 1, 0, none⟩), .pointer (some ⟨w4.heap.size, 0, none⟩)]) .nilFunc (w4.heap.size + 1) 111 ?_ ?_ ?_ ?_ ?_ ?_); (next => rfl); (next => exact ⟨_, _, rfl, rfl, rfl⟩); (next => (simp; done)); (next => kernel_rfl); (next => rfl)) | fail)
 have oX : Own ((w4.alloc (.cells #[.int .i64 r.b.fr, .int .i64 r.b.fm, .int .i64 0, .int .i64 0, .int .i64 0, .int .i64 0, .int .i64 0, .int .i64 0, .int .i64 0, .int .i64 0, .int .i64 0, .int .i64 0, .slice r.vu.p r.vu.n r.vu.c, .slice r.vg.p r.vg.n r.vg.c, .slice r.va.p r.va.n r.va.c, .slice none 0 0, .bool false, .slice none 0 0, .slice none 0 0, .slice none 0 0, .int .i64 0, .int .i64 0, .int .u64 0, .int .i64 0, .int .i64 0, .int .i64 0, .int .i64 0, .int .i64 0, .slice none 0 0, .slice none 0 0, .bool false] 86)).alloc (.cells #[(.func (.func 34) #[] #[.pointer (some ⟨w1.heap.size, 0, none⟩), .pointer (some ⟨w.heap.size + 1, 0, none⟩), .pointer (some ⟨w4.heap.size, 0, none⟩)])] 111)) w4.heap.size [.int .i64 r.b.fr, .int .i64 r.b.fm, .int .i64 0, .int .i64 0, .int .i64 0, .int .i64 0, .int .i64 0, .int .i64 0, .int .i64 0, .int .i64 0, .int .i64 0, .int .i64 0, .slice r.vu.p r.vu.n r.vu.c, .slice r.vg.p r.vg.n r.vg.c, .slice r.va.p r.va.n r.va.c, .slice none 0 0, .bool false, .slice none 0 0, .slice none 0 0, .slice none 0 0, .int .i64 0, .int .i64 0, .int .u64 0, .int .i64 0, .int .i64 0, .int .i64 0, .int .i64 0, .int .i64 0, .slice none 0 0, .slice none 0 0, .bool false] 86 := (own_at _ _ rfl).alloc _
 have oF : Own ((w4.alloc (.cells #[.int .i64 r.b.fr, .int .i64 r.b.fm, .int .i64 0, .int .i64 0, .int .i64 0, .int .i64 0, .int .i64 0, .int .i64 0, .int .i64 0, .int .i64 0, .int .i64 0, .int .i64 0, .slice r.vu.p r.vu.n r.vu.c, .slice r.vg.p r.vg.n r.vg.c, .slice r.va.p r.va.n r.va.c, .slice none 0 0, .bool false, .slice none 0 0, .slice none 0 0, .slice none 0 0, .int .i64 0, .int .i64 0, .int .u64 0, .int .i64 0, .int .i64 0, .int .i64 0, .int .i64 0, .int .i64 0, .slice none 0 0, .slice none 0 0, .bool false] 86)).alloc (.cells #[(.func (.func 34) #[] #[.pointer (some ⟨w1.heap.size, 0, none⟩), .pointer (some ⟨w.heap.size + 1, 0, none⟩), .pointer (some ⟨w4.heap.size, 0, none⟩)])] 111)) (w4.heap.size + 1) [(.func (.func 34) #[] #[.pointer (some ⟨w1.heap.size, 0, none⟩), .pointer (some ⟨w.heap.size + 1, 0, none⟩), .pointer (some ⟨w4.heap.size, 0, none⟩)])] 111 := own_at _ _ (by simp)
 replace oL := (oL.alloc (.cells #[.int .i64 r.b.fr, .int .i64 r.b.fm, .int .i64 0, .int .i64 0, .int .i64 0, .int .i64 0, .int .i64 0, .int .i64 0, .int .i64 0, .int .i64 0, .int .i64 0, .int .i64 0, .slice r.vu.p r.vu.n r.vu.c, .slice r.vg.p r.vg.n r.vg.c, .slice r.va.p r.va.n r.va.c, .slice none 0 0, .bool false, .slice none 0 0, .slice none 0 0, .slice none 0 0, .int .i64 0, .int .i64 0, .int .u64 0, .int .i64 0, .int .i64 0, .int .i64 0, .int .i64 0, .int .i64 0, .slice none 0 0, .slice none 0 0, .bool false] 86)).alloc (.cells #[(.func (.func 34) #[] #[.pointer (some ⟨w1.heap.size, 0, none⟩), .pointer (some ⟨w.heap.size + 1, 0, none⟩), .pointer (some ⟨w4.heap.size, 0, none⟩)])] 111)
 replace oT := (oT.alloc (.cells #[.int .i64 r.b.fr, .int .i64 r.b.fm, .int .i64 0, .int .i64 0, .int .i64 0, .int .i64 0, .int .i64 0, .int .i64 0, .int .i64 0, .int .i64 0, .int .i64 0, .int .i64 0, .slice r.vu.p r.vu.n r.vu.c, .slice r.vg.p r.vg.n r.vg.c, .slice r.va.p r.va.n r.va.c, .slice none 0 0, .bool false, .slice none 0 0, .slice none 0 0, .slice none 0 0, .int .i64 0, .int .i64 0, .int .u64 0, .int .i64 0, .int .i64 0, .int .i64 0, .int .i64 0, .int .i64 0, .slice none 0 0, .slice none 0 0, .bool false] 86)).alloc (.cells #[(.func (.func 34) #[] #[.pointer (some ⟨w1.heap.size, 0, none⟩), .pointer (some ⟨w.heap.size + 1, 0, none⟩), .pointer (some ⟨w4.heap.size, 0, none⟩)])] 111)
 replace oP := (oP.alloc (.cells #[.int .i64 r.b.fr, .int .i64 r.b.fm, .int .i64 0, .int .i64 0, .int .i64 0, .int .i64 0, .int .i64 0, .int .i64 0, .int .i64 0, .int .i64 0, .int .i64 0, .int .i64 0, .slice r.vu.p r.vu.n r.vu.c, .slice r.vg.p r.vg.n r.vg.c, .slice r.va.p r.va.n r.va.c, .slice none 0 0, .bool false, .slice none 0 0, .slice none 0 0, .slice none 0 0, .int .i64 0, .int .i64 0, .int .u64 0, .int .i64 0, .int .i64 0, .int .i64 0, .int .i64 0, .int .i64 0, .slice none 0 0, .slice none 0 0, .bool false] 86)).alloc (.cells #[(.func (.func 34) #[] #[.pointer (some ⟨w1.heap.size, 0, none⟩), .pointer (some ⟨w.heap.size + 1, 0, none⟩), .pointer (some ⟨w4.heap.size, 0, none⟩)])] 111)
 replace oM := (oM.alloc (.cells #[.int .i64 r.b.fr, .int .i64 r.b.fm, .int .i64 0, .int .i64 0, .int .i64 0, .int .i64 0, .int .i64 0, .int .i64 0, .int .i64 0, .int .i64 0, .int .i64 0, .int .i64 0, .slice r.vu.p r.vu.n r.vu.c, .slice r.vg.p r.vg.n r.vg.c, .slice r.va.p r.va.n r.va.c, .slice none 0 0, .bool false, .slice none 0 0, .slice none 0 0, .slice none 0 0, .int .i64 0, .int .i64 0, .int .u64 0, .int .i64 0, .int .i64 0, .int .i64 0, .int .i64 0, .int .i64 0, .slice none 0 0, .slice none 0 0, .bool false] 86)).alloc (.cells #[(.func (.func 34) #[] #[.pointer (some ⟨w1.heap.size, 0, none⟩), .pointer (some ⟨w.heap.size + 1, 0, none⟩), .pointer (some ⟨w4.heap.size, 0, none⟩)])] 111)
 replace oR := (oR.alloc (.cells #[.int .i64 r.b.fr, .int .i64 r.b.fm, .int .i64 0, .int .i64 0, .int .i64 0, .int .i64 0, .int .i64 0, .int .i64 0, .int .i64 0, .int .i64 0, .int .i64 0, .int .i64 0, .slice r.vu.p r.vu.n r.vu.c, .slice r.vg.p r.vg.n r.vg.c, .slice r.va.p r.va.n r.va.c, .slice none 0 0, .bool false, .slice none 0 0, .slice none 0 0, .slice none 0 0, .int .i64 0, .int .i64 0, .int .u64 0, .int .i64 0, .int .i64 0, .int .i64 0, .int .i64 0, .int .i64 0, .slice none 0 0, .slice none 0 0, .bool false] 86)).alloc (.cells #[(.func (.func 34) #[] #[.pointer (some ⟨w1.heap.size, 0, none⟩), .pointer (some ⟨w.heap.size + 1, 0, none⟩), .pointer (some ⟨w4.heap.size, 0, none⟩)])] 111)
 replace oS := (oS.alloc (.cells #[.int .i64 r.b.fr, .int .i64 r.b.fm, .int .i64 0, .int .i64 0, .int .i64 0, .int .i64 0, .int .i64 0, .int .i64 0, .int .i64 0, .int .i64 0, .int .i64 0, .int .i64 0, .slice r.vu.p r.vu.n r.vu.c, .slice r.vg.p r.vg.n r.vg.c, .slice r.va.p r.va.n r.va.c, .slice none 0 0, .bool false, .slice none 0 0, .slice none 0 0, .slice none 0 0, .int .i64 0, .int .i64 0, .int .u64 0, .int .i64 0, .int .i64 0, .int .i64 0, .int .i64 0, .int .i64 0, .slice none 0 0, .slice none 0 0, .bool false] 86)).alloc (.cells #[(.func (.func 34) #[] #[.pointer (some ⟨w1.heap.size, 0, none⟩), .pointer (some ⟨w.heap.size + 1, 0, none⟩), .pointer (some ⟨w4.heap.size, 0, none⟩)])] 111)
 replace oB := (oB.alloc (.cells #[.int .i64 r.b.fr, .int .i64 r.b.fm, .int .i64 0, .int .i64 0, .int .i64 0, .int .i64 0, .int .i64 0, .int .i64 0, .int .i64 0, .int .i64 0, .int .i64 0, .int .i64 0, .slice r.vu.p r.vu.n r.vu.c, .slice r.vg.p r.vg.n r.vg.c, .slice r.va.p r.va.n r.va.c, .slice none 0 0, .bool false, .slice none 0 0, .slice none 0 0, .slice none 0 0, .int .i64 0, .int .i64 0, .int .u64 0, .int .i64 0, .int .i64 0, .int .i64 0, .int .i64 0, .int .i64 0, .slice none 0 0, .slice none 0 0, .bool false] 86)).alloc (.cells #[(.func (.func 34) #[] #[.pointer (some ⟨w1.heap.size, 0, none⟩), .pointer (some ⟨w.heap.size + 1, 0, none⟩), .pointer (some ⟨w4.heap.size, 0, none⟩)])] 111)
 have hb5 : Below w4.heap.size w4 ((w4.alloc (.cells #[.int .i64 r.b.fr, .int .i64 r.b.fm, .int .i64 0, .int .i64 0, .int .i64 0, .int .i64 0, .int .i64 0, .int .i64 0, .int .i64 0, .int .i64 0, .int .i64 0, .int .i64 0, .slice r.vu.p r.vu.n r.vu.c, .slice r.vg.p r.vg.n r.vg.c, .slice r.va.p r.va.n r.va.c, .slice none 0 0, .bool false, .slice none 0 0, .slice none 0 0, .slice none 0 0, .int .i64 0, .int .i64 0, .int .u64 0, .int .i64 0, .int .i64 0, .int .i64 0, .int .i64 0, .int .i64 0, .slice none 0 0, .slice none 0 0, .bool false] 86)).alloc (.cells #[(.func (.func 34) #[] #[.pointer (some ⟨w1.heap.size, 0, none⟩), .pointer (some ⟨w.heap.size + 1, 0, none⟩), .pointer (some ⟨w4.heap.size, 0, none⟩)])] 111)) := (belowNew w4 _).trans ((belowNew _ _).mono (by simp))
 replace SS := Lib.hid (SS.out.below hb5)
 replace OO := Lib.hid (OO.out.below hb5)
 replace RK := Lib.hid (RK.out.below hb5)
 replace bel := bel.trans (hb5.mono bel.size)
 clear hb5
 clear cL0 cL1 fL zL cT0 cT1 cT2 fT zT cP0 fP zP cM0 fM zM cR0 cR1 cR2 fR zR cS0 cS1 cS2 cS3 cS4 fS zS cB0 fB zB
 generalize ((w4.alloc (.cells #[.int .i64 r.b.fr, .int .i64 r.b.fm, .int .i64 0, .int .i64 0, .int .i64 0, .int .i64 0, .int .i64 0, .int .i64 0, .int .i64 0, .int .i64 0, .int .i64 0, .int .i64 0, .slice r.vu.p r.vu.n r.vu.c, .slice r.vg.p r.vg.n r.vg.c, .slice r.va.p r.va.n r.va.c, .slice none 0 0, .bool false, .slice none 0 0, .slice none 0 0, .slice none 0 0, .int .i64 0, .int .i64 0, .int .u64 0, .int .i64 0, .int .i64 0, .int .i64 0, .int .i64 0, .int .i64 0, .slice none 0 0, .slice none 0 0, .bool false] 86)).alloc (.cells #[(.func (.func 34) #[] #[.pointer (some ⟨w1.heap.size, 0, none⟩), .pointer (some ⟨w.heap.size + 1, 0, none⟩), .pointer (some ⟨w4.heap.size, 0, none⟩)])] 111)) = w5 at oL oT oP oM oR oS oB oX oF bel SS OO RK ⊢
 obtain ⟨bX, hbX⟩ : ∃ bX, w4.heap.size = bX := ⟨_, rfl⟩
 obtain ⟨bB, hbB⟩ : ∃ bB, w1.heap.size = bB := ⟨_, rfl⟩
 rw [hbB] at oB oF ⊢
 rw [hbX] at oX oF ⊢
 clear ltBR ltBS hbX hbB
 have OT5 := Lib.hid oT
 have OP5 := Lib.hid oP
 have OM5 := Lib.hid oM
 have OR5 := Lib.hid oR
 have OS5 := Lib.hid oS
 have OB5 := Lib.hid oB
 have OX5 := Lib.hid oX
 have OF5 := Lib.hid oF
 have SS5 := SS
 have OO5 := OO
 have RK5 := RK
 have SU5 := Lib.hid (SU.out.below bel)
 have SG5 := Lib.hid (SG.out.below bel)
 have SA5 := Lib.hid (SA.out.below bel)
 have BEL5 := Lib.hid bel
 have zT5 := oT.lt
 have zP5 := oP.lt
 have zM5 := oM.lt
 have zR5 := oR.lt
 have zS5 := oS.lt
 have zB5 := oB.lt
 have zX5 := oX.lt
 have zF5 := oF.lt
 have hwS := bel.size
 have SU0 := SU
 have SG0 := SG
 clear oL oT oP oR oS oX oF bel SS OO RK SU SG SA
 obtain ⟨Po, hPo⟩ : ∃ Po : Int → Int → Bool, Po = fun s o => posB me (S.map Nr.b) us gs r.b s o := ⟨_, rfl⟩
 have HPO := Lib.hid (show ∀ (s o : Int) (wx : World), Below w5.heap.size w5 wx → Calls Tryz.prog 34 #[.agg #[.int .i64 s, .int .i64 o], .pointer (some ⟨bB, 0, none⟩), .pointer (some ⟨w.heap.size + 1, 0, none⟩), .pointer (some ⟨bX, 0, none⟩)] wx fun e w' => e = .returned (.bool (Po s o)) ∧ Below wx.heap.size wx w' from fun s o wx hbx =>
  ask1_any bB (w.heap.size + 1) bX bs N D me f ⟨sp, S.length, sc⟩ S (.slice pu us.length cu) (.slice pg gs.length cg) (.slice none 0 0) us gs r s o _ wx (OS5.out.below hbx) (SS5.out.below hbx) (OO5.out.below hbx) (SU5.out.below hbx) (SG5.out.below hbx) (RK5.out.below hbx) (OB5.out.below hbx) (OT5.out.below hbx) (OX5.out.below hbx) (by rw [hPo]))
 have HPOE := Lib.hid hPo
 clear hPo
 have bel := Below.refl w5.heap.size w5
 have k100 : ks.length ≤ 100 := by omega
 obtain ⟨cM0, fM, zM⟩ := own1 oM
 obtain ⟨cB0, fB, zB⟩ := own1 oB
 refine (onlyo_q (.slice pa ks.length ca) ks (w.heap.size + 1 + 1) (bX + 1) (fun d => d.p == p && Po d.s d.o) w5 SA5.out k100 (fun d wx hbx => ask2_any _ _ bB (w.heap.size + 1) bX p Po d wx (Nat.lt_of_lt_of_le zP5 hbx.size) (Nat.lt_of_lt_of_le zF5 hbx.size) ((OP5.out.below hbx).cell (i := 0) rfl) ((OF5.out.below hbx).cell (i := 0) rfl) (fun s o wy hby => HPO.out s o wy (belowTo hbx hby hbx.size)))).mono ?_
 rintro e w6 ⟨v6, rfl, hrow, hb⟩
 replace oM := oM.below hb
 replace oB := oB.below hb
 replace bel := belowTo bel hb (by exact bel.size)
 clear hb
 clear cM0 fM zM cB0 fB zB
 obtain ⟨cM0, fM, zM⟩ := own1 oM
 obtain ⟨cB0, fB, zB⟩ := own1 oB
 obtain ⟨q0, hq0⟩ : ∃ q0, ks.filter (fun d => d.p == p && Po d.s d.o) = q0 := ⟨_, rfl⟩
 rw [hq0] at hrow
 obtain ⟨pq, cq, hv⟩ := row_form hrow
 subst hv
 have HQ0 := Lib.hid hq0
 have ROW := Lib.hid hrow
 have hq0l : q0.length ≤ 70 := by rw [← hq0]; exact Nat.le_trans (List.length_filter_le _ _) k70
 have hcq := row_cap hrow
 have h65 : w5.heap.size ≤ w6.heap.size := bel.size
 clear hq0 hrow
 have many0 : 0 ≤ many := by have h9 := HM.out; simp only [inB, Bool.and_eq_true, decide_eq_true_eq] at h9; exact h9.1
 have hm1 : 0 ≤ min (q0.length : Int) many := by omega
 have hm2 : min (q0.length : Int) many ≤ (cq : Int) := by omega
 go_upto_region 11 with fail
 have oQ : Own (w6.alloc (Obj.cells #[.slice pq q0.length cq] 41)) w6.heap.size [.slice pq q0.length cq] 41 := own_at _ _ rfl
 have ltQM : w.heap.size + 1 + 1 + 1 < w6.heap.size := zM
 have ltQB : bB < w6.heap.size := zB
 replace oM := oM.alloc (Obj.cells #[.slice pq q0.length cq] 41)
 replace oB := oB.alloc (Obj.cells #[.slice pq q0.length cq] 41)
 replace ROW := Lib.hid (ROW.out.below (belowNew w6 (Obj.cells #[.slice pq q0.length cq] 41)))
 replace bel := bel.alloc bel.size (Obj.cells #[.slice pq q0.length cq] 41)
 clear cM0 fM zM cB0 fB zB
 generalize w6.alloc (Obj.cells #[.slice pq q0.length cq] 41) = w7 at oM oB oQ ROW bel ⊢
 obtain ⟨cM0, fM, zM⟩ := own1 oM
 obtain ⟨cB0, fB, zB⟩ := own1 oB
 obtain ⟨cQ0, fQ, zQ⟩ := own1 oQ
 go_cut [] from 23 to 88 (fun wx => wx = w7.setCell ⟨w6.heap.size, 0, none⟩ (.slice pq (min (q0.length : Int) many).toNat cq))
 case first =>
  go_wp2_with fail
  go_meet
  rfl
 case rest =>
  subst hcut
  obtain ⟨k0, hk0⟩ : ∃ k0, (min (q0.length : Int) many).toNat = k0 := ⟨_, rfl⟩
  rw [hk0]
  have HK0 := Lib.hid (show (k0 : Int) ≤ many ∧ k0 ≤ q0.length ∧ k0 = min q0.length many.toNat by omega)
  clear hk0 hm1 hm2
  replace ROW := Lib.hid (row_setT ROW.out oQ (by decide) 0 (.slice pq k0 cq))
  replace oM := (oM.other (by first | (simp; done) | (simp; omega) | omega | (dsimp only; omega)) (a := ⟨w6.heap.size, 0, none⟩) (.slice pq k0 cq))
  replace oB := (oB.other (by first | (simp; done) | (simp; omega) | omega | (dsimp only; omega)) (a := ⟨w6.heap.size, 0, none⟩) (.slice pq k0 cq))
  replace bel := (bel.setCell (p := ⟨w6.heap.size, 0, none⟩) (by first | (simp; done) | (simp; omega) | omega | (dsimp only; omega)) (.slice pq k0 cq))
  replace oQ : Own _ (w6.heap.size) [.slice pq k0 cq] 41 := (oQ.set 0 (.slice pq k0 cq))
  clear cM0 fM zM cB0 fB zB cQ0 fQ zQ
  generalize (w7.setCell ⟨w6.heap.size, 0, none⟩ (.slice pq k0 cq)) = w7b at oM oB oQ ROW bel ⊢
  obtain ⟨cM0, fM, zM⟩ := own1 oM
  obtain ⟨cB0, fB, zB⟩ := own1 oB
  obtain ⟨cQ0, fQ, zQ⟩ := own1 oQ
  have ltQ7 : w6.heap.size < w7b.heap.size := zQ
  go_wp2_with fail
  refine (tri_own bs _).mono ?_
  rintro e w8 ⟨bU, rfl, ot1, hbu, hb⟩
  replace oM := oM.below hb
  replace oB := oB.below hb
  replace oQ := oQ.below hb
  replace ROW := Lib.hid (ROW.out.below hb)
  replace bel := belowTo bel hb (by exact bel.size)
  clear hb
  clear cM0 fM zM cB0 fB zB cQ0 fQ zQ
  obtain ⟨cM0, fM, zM⟩ := own1 oM
  obtain ⟨cB0, fB, zB⟩ := own1 oB
  obtain ⟨cQ0, fQ, zQ⟩ := own1 oQ
  have oU := ot1
  clear ot1
  obtain ⟨cU0, fU, zU⟩ := own1 oU
  obtain ⟨bQ, hbQ⟩ : ∃ bQ, w6.heap.size = bQ := ⟨_, rfl⟩
  rw [hbQ] at oQ
  have OQ8 := Lib.hid oQ
  have OU8 := Lib.hid oU
  have BE8 := Lib.hid bel
  have RW8 := ROW
  have hq8 : bQ < w8.heap.size := oQ.lt
  have hu8 : bU < w8.heap.size := oU.lt
  have hqu : bQ < bU := by omega
  have h5q : w5.heap.size ≤ bQ := by omega
  clear oQ oU oM oB bel cQ0 fQ zQ cU0 fU zU ROW
  rw [hbQ]
  clear hbQ
  go_wp2_with fail
  refine (wpIn_wide (n := 9)).1 ?_
  obtain ⟨q1, hq1⟩ : ∃ q1, ask0 me (sidL N D (l.map Nr.b)) us gs n p many ks = q1 := ⟨_, rfl⟩
  have HPN := Lib.hid (show ∀ s o, posB me (sidL N D (l.map Nr.b)) us gs n s o = Po s o from fun s o => by rw [HPOE.out, HSM.out, HRB.out])
  have HQ1 := Lib.hid hq1
  have hq1e : q0.take k0 = q1 := by
   rw [← hq1, ask0, ← HQ0.out, HK0.out.2.2, ← HQ0.out]
   simp only [HPN.out]
   rw [List.take_eq_take_iff]
   omega
  have hq1l : q1.length = k0 := by rw [← hq1e, List.length_take]; have := HK0.out.2.1; omega
  have AI0 := Lib.hid (show AskI w5 w8.heap.size bQ bU bs many q1 w8 from ⟨pq, cq, BE8.out, by rw [hq1l]; exact OQ8.out, by have h9 := row_front (L := akL) RW8.out HK0.out.2.1 rfl; rw [hq1e, ← hq1l] at h9; exact h9, OU8.out, by rw [hq1l]; exact HK0.out.1, Nat.le_refl _⟩)
  have hDD : 1 ≤ D ∧ D ≤ 60 := (layB_iff.1 HVAL.out.lay).2
  have hNN : 1 ≤ N ∧ N ≤ 60 := (layB_iff.1 HVAL.out.lay).1
  have hmm : 0 ≤ me ∧ me ≤ 1000 := by have := HSME.out.1; omega
  have hpp := HPP.out
  clear hq1e hq1l hq1 OQ8 RW8 BE8
  refine wpIn_rangeFunc_ownH rfl (by decide) (gf := 78) (lb := #[.pointer (some ⟨bU, 0, none⟩)]) rfl trivial (enters_of Tryz.func78 (by kernel_rfl) rfl) (tri_stops 8 bU bs N D me f sp S.length sc hDD hmm ⟨f0, f1⟩ w8 OU8.out (OS5.out.below AI0.out.choose_spec.choose_spec.1) (by decide)) (fun h k => h.trans k) (fun W l o o' _ h hc _ => KpT.put W l o o' h hc) (Below.refl _ _) (fun _ => rfl)
   (fun (pre : List (Int × Int)) W => AskI w5 w8.heap.size bQ bU bs many (pre.foldl (askS me (sidL N D (l.map Nr.b)) us gs n p many) q1) W) (fun c pre W => c = .exit 0 ∧ AskI w5 w8.heap.size bQ bU bs many (pre.foldl (askS me (sidL N D (l.map Nr.b)) us gs n p many) q1) W ∧ many ≤ ((pre.foldl (askS me (sidL N D (l.map Nr.b)) us gs n p many) q1).length : Int)) ?hI ?hIx AI0.out
   (fun (x : Int × Int) a' W => ∃ Bx : Nat, Own W Bx [.int .i64 x.1, .int .i64 x.2] 48 ∧ w8.heap.size ≤ Bx ∧ a' = { tmps := #[.agg #[.int .i64 N, .int .i64 D], .agg #[.slice pu us.length cu, .slice pg gs.length cg, .slice pa ks.length ca], .int .i64 me, .slice pn l.length cap, .int .i64 p, .int .i64 many, .int .i64 f, .pointer (some ⟨w.heap.size, 0, none⟩), .pointer (some ⟨w.heap.size + 1, 0, none⟩), undef, undef, .pointer (some ⟨w.heap.size + 1 + 1, 0, none⟩), .pointer (some ⟨w.heap.size + 1 + 1 + 1, 0, none⟩), undef, .pointer (some ⟨w.heap.size + 1 + 1 + 1 + 1, 0, none⟩), .pointer (some ⟨bB, 0, none⟩), .bool true, .slice pa ks.length ca, .pointer (some ⟨bX, 0, none⟩), .bool true, .pointer (some ⟨bX + 1, 0, none⟩), .pointer (some ⟨bQ, 0, none⟩), .pointer (some ⟨Bx, 0, none⟩), u23, u24, u25, u26, u27, u28, u29, u30, u31, u32, u33, u34, u35, u36, u37, u38, u39, u40, u41, u42, u43, u44, u45, u46, u47, u48, u49, u50, u51, u52, u53, u54, u55, u56, u57, u58, u59, u60, u61, .pointer (some ⟨bs, 0, none⟩), .func (.func 78) #[] #[.pointer (some ⟨bU, 0, none⟩)], .agg #[.int .i64 x.1, .int .i64 x.2], u65, u66, u67, u68, u69, u70, u71, u72, u73, u74, u75, u76, u77, u78, u79, u80, u81, u82, u83, u84, u85, u86, u87, u88], defers := [] }) ?hAx ?assign ?body ?done ?stop
  case hI =>
   rintro s A B row hi hg hr
   exact AskI.kept hi (by omega) hg hr
  case hIx =>
   rintro c s A B row ⟨hc, hi, hm⟩ hg hr
   exact ⟨hc, AskI.kept hi (by omega) hg hr, hm⟩
  case hAx =>
   rintro x a' _ A B row ⟨Bx, e1, e2, e3⟩ hg hr
   exact ⟨Bx, own_keptN e1 hg (fun r e => (hr r e).2), e2, e3⟩
  case assign =>
   rintro l' pre x Wa K hi hK
   refine assign1_wp ?_
   simp only [List.setIfInBounds_toArray, List.set_cons_succ, List.set_cons_zero]
   gi_wp2
   have hz : w8.heap.size ≤ Wa.heap.size := by obtain ⟨_, _, _, _, _, _, _, h6⟩ := hi; exact h6
   exact hK _ _ ((KeepsOthers.alloc _ _).from _) (KpT.below (belowNew _ _)) (hi.below (belowNew _ _)) ⟨Wa.heap.size, own_at _ _ rfl, hz, rfl⟩
  case stop =>
   rintro D' c' pre W' hD hsp ⟨rfl, hi, hm⟩ hK
   obtain ⟨out, hout⟩ : ∃ out, (pre.foldl (askS me (sidL N D (l.map Nr.b)) us gs n p many) q1) = out := ⟨_, rfl⟩
   rw [hout] at hi hm
   have hfin : askU D me f (sidL N D (l.map Nr.b)) us gs n p many ks (16 * D).toNat = out := (by rw [askU, HQ1.out]; obtain ⟨t, ht⟩ := hsp; have h9 : (List.range (16 * D).toNat).map (triC D me f) = pre ++ t := ht.symm; rw [h9, List.foldl_append, hout]; exact askS_stay hm t)
   have hok := askU_ok (me := me) (f := f) (S := (sidL N D (l.map Nr.b))) (n := n) (many := many) (t := ⟨us, gs, ks⟩) (p := p) HVAL.out many0 hpp (16 * D).toNat
   rw [show askU D me f (sidL N D (l.map Nr.b)) (⟨us, gs, ks⟩ : Tb).us (⟨us, gs, ks⟩ : Tb).gs n p many (⟨us, gs, ks⟩ : Tb).ks (16 * D).toNat = out from hfin] at hok
   rw [hfin]
   obtain ⟨pq2, cq2, bel, oq, row, ou, hle, hz8⟩ := hi
   have h12 : out.length ≤ 12 := by have := hok.n; omega
   have hsl : ∀ a ∈ out, 0 ≤ a.s ∧ a.s ≤ 60 := fun a ha => by have h9 := (plcB_iff.1 (hok.ok a ha)).1; omega
   have HSRT := Lib.hid (sort_both out pq2 cq2 _ W' row h12 hsl hok.nd)
   have ROW := Lib.hid row
   have BE := Lib.hid bel
   have OQ := Lib.hid oq
   have HKD := Lib.hid hK
   obtain ⟨q0c, _, zq⟩ := own1 oq
   have HFIN := Lib.hid hfin
   clear hfin hok hout hm h12 hsl bel oq row ou hle hK
   gi_wp2
   go_wp2_with fail
   refine HSRT.out.mono ?_
   clear HSRT q0c zq
   rintro e w9 ⟨rfl, hrow9, hg9⟩
   have hlt9 := ROW.out.lt
   have B9 := Lib.hid (BE.out.grown hg9 BE.out.size (fun k e => (hlt9 k e).1))
   have oq9 := own_keptT OQ.out ROW.out (by decide) hg9
   have K9 : w9.heap[D']? = some (.deferred (some [])) := (hg9.block D' (Array.getElem?_eq_some_iff.1 HKD.out).1 (fun e => by
    rcases row_shape ROW.out with h | ⟨g, c, cur, h, hq⟩
    ·rw [h] at e; simp [Value.ownBlock] at e
    ·rw [h] at e
     simp [Value.ownBlock] at e
     subst e
     rw [hq] at HKD
     cases HKD.out)).trans HKD.out
   have R9 := Lib.hid hrow9
   clear hrow9 hg9 hlt9
   have oT9 := OT5.out.below B9.out
   have oR9 := OR5.out.below B9.out
   obtain ⟨q0c, _, zq⟩ := own1 oq9
   obtain ⟨t0, t1, t2, fT, zT⟩ := own3 oT9
   obtain ⟨r0, r1, r2, fR, zR⟩ := own3 oR9
   have HK9 := Lib.hid K9
   clear K9
   go_wp2_with fail
   have hT9 := OT5.out.below B9.out
   have hR9 := OR5.out.below B9.out
   have hw8 : w.heap.size + 1 + 1 + 1 + 1 < w8.heap.size := by omega
   have O4 : Own ((((w9.setCell ⟨w.heap.size + 1, 2, none⟩ (.slice pq2 out.length cq2)).setCell ⟨w.heap.size + 1 + 1 + 1 + 1, 0, none⟩ (.slice pu us.length cu)).setCell ⟨w.heap.size + 1 + 1 + 1 + 1, 1, none⟩ (.slice pg gs.length cg)).setCell ⟨w.heap.size + 1 + 1 + 1 + 1, 2, none⟩ (.slice pq2 out.length cq2)) (w.heap.size + 1 + 1 + 1 + 1) [.slice pu us.length cu, .slice pg gs.length cg, .slice pq2 out.length cq2] 43 := own_set3 (hR9.other (a := ⟨w.heap.size + 1, 2, none⟩) (by first | (simp; done) | (simp; omega)) (.slice pq2 out.length cq2))
   have K4 : ((((w9.setCell ⟨w.heap.size + 1, 2, none⟩ (.slice pq2 out.length cq2)).setCell ⟨w.heap.size + 1 + 1 + 1 + 1, 0, none⟩ (.slice pu us.length cu)).setCell ⟨w.heap.size + 1 + 1 + 1 + 1, 1, none⟩ (.slice pg gs.length cg)).setCell ⟨w.heap.size + 1 + 1 + 1 + 1, 2, none⟩ (.slice pq2 out.length cq2)).heap[D']? = some (.deferred (some [])) := by
    rw [Below.heap_setCell _ ⟨w.heap.size + 1 + 1 + 1 + 1, 2, none⟩ _ D' (by simp; omega), Below.heap_setCell _ ⟨w.heap.size + 1 + 1 + 1 + 1, 1, none⟩ _ D' (by simp; omega), Below.heap_setCell _ ⟨w.heap.size + 1 + 1 + 1 + 1, 0, none⟩ _ D' (by simp; omega), Below.heap_setCell _ ⟨w.heap.size + 1, 2, none⟩ _ D' (by simp; omega)]
    exact HK9.out
   have R4 : ((((w9.setCell ⟨w.heap.size + 1, 2, none⟩ (.slice pq2 out.length cq2)).setCell ⟨w.heap.size + 1 + 1 + 1 + 1, 0, none⟩ (.slice pu us.length cu)).setCell ⟨w.heap.size + 1 + 1 + 1 + 1, 1, none⟩ (.slice pg gs.length cg)).setCell ⟨w.heap.size + 1 + 1 + 1 + 1, 2, none⟩ (.slice pq2 out.length cq2)).ownsRow w5.heap.size 81 3 (.slice pq2 out.length cq2) out.length (flatT akL (srtA out)) := by
    have g1 := row_setT (i := 2) (x := .slice pq2 out.length cq2) R9.out hT9 (by decide)
    have g2 := hR9.other (a := ⟨w.heap.size + 1, 2, none⟩) (by first | (simp; done) | (simp; omega)) (.slice pq2 out.length cq2)
    have g3 := row_setT (i := 0) (x := .slice pu us.length cu) g1 g2 (by decide)
    have g4 := row_setT (i := 1) (x := .slice pg gs.length cg) g3 (g2.set 0 (.slice pu us.length cu)) (by decide)
    exact row_setT (i := 2) (x := .slice pq2 out.length cq2) g4 ((g2.set 0 (.slice pu us.length cu)).set 1 (.slice pg gs.length cg)) (by decide)
   have B4 : Below w.heap.size w ((((w9.setCell ⟨w.heap.size + 1, 2, none⟩ (.slice pq2 out.length cq2)).setCell ⟨w.heap.size + 1 + 1 + 1 + 1, 0, none⟩ (.slice pu us.length cu)).setCell ⟨w.heap.size + 1 + 1 + 1 + 1, 1, none⟩ (.slice pg gs.length cg)).setCell ⟨w.heap.size + 1 + 1 + 1 + 1, 2, none⟩ (.slice pq2 out.length cq2)) := below_set3 (((BEL5.out.trans (B9.out.mono hwS)).setCell (p := ⟨w.heap.size + 1, 2, none⟩) (by first | (simp; done) | (simp; omega)) (.slice pq2 out.length cq2))) (by omega)
   generalize ((((w9.setCell ⟨w.heap.size + 1, 2, none⟩ (.slice pq2 out.length cq2)).setCell ⟨w.heap.size + 1 + 1 + 1 + 1, 0, none⟩ (.slice pu us.length cu)).setCell ⟨w.heap.size + 1 + 1 + 1 + 1, 1, none⟩ (.slice pg gs.length cg)).setCell ⟨w.heap.size + 1 + 1 + 1 + 1, 2, none⟩ (.slice pq2 out.length cq2)) = W7 at O4 K4 R4 B4 ⊢
   clear hT9 hR9 t0 t1 t2 fT zT r0 r1 r2 fR zR q0c zq
   refine ⟨by simp, .inl ⟨_, _, rfl, run_takeDeferred K4, ?_⟩⟩
   have O5 : Own (W7.putObj D' (.deferred none)) (w.heap.size + 1 + 1 + 1 + 1) [.slice pu us.length cu, .slice pg gs.length cg, .slice pq2 out.length cq2] 43 := own_put K4 rfl O4
   have R5 := row_put (o' := .deferred none) K4 rfl R4
   have B5 : Below w.heap.size w (W7.putObj D' (.deferred none)) := B4.trans (belowK_b (w := w8) (by omega) W7 D' _ _ hD K4 rfl rfl)
   generalize W7.putObj D' (.deferred none) = W6 at O5 R5 B5 ⊢
   have RF := Lib.hid (slt_of_own (L := akL) (by rw [srtA_len]; exact R5))
   obtain ⟨r0, r1, r2, fR, zR⟩ := own3 O5
   clear O4 K4 R4 B4 O5 R5
   exact ⟨.agg #[.slice pu us.length cu, .slice pg gs.length cg, .slice pq2 out.length cq2], by simp [results, Tryz.results14, go_sem, *], _, _, _, rfl, SU0.out.below B5, SG0.out.below B5, by rw [HFIN.out]; exact RF.out, B5⟩
  case done =>
   rintro D' ys W' hD rfl hi hK
   obtain ⟨out, hout⟩ : ∃ out, ((triL D me f).foldl (askS me (sidL N D (l.map Nr.b)) us gs n p many) q1) = out := ⟨_, rfl⟩
   rw [hout] at hi
   have hfin : askU D me f (sidL N D (l.map Nr.b)) us gs n p many ks (16 * D).toNat = out := (by rw [askU, HQ1.out]; exact hout)
   have hok := askU_ok (me := me) (f := f) (S := (sidL N D (l.map Nr.b))) (n := n) (many := many) (t := ⟨us, gs, ks⟩) (p := p) HVAL.out many0 hpp (16 * D).toNat
   rw [show askU D me f (sidL N D (l.map Nr.b)) (⟨us, gs, ks⟩ : Tb).us (⟨us, gs, ks⟩ : Tb).gs n p many (⟨us, gs, ks⟩ : Tb).ks (16 * D).toNat = out from hfin] at hok
   rw [hfin]
   obtain ⟨pq2, cq2, bel, oq, row, ou, hle, hz8⟩ := hi
   have h12 : out.length ≤ 12 := by have := hok.n; omega
   have hsl : ∀ a ∈ out, 0 ≤ a.s ∧ a.s ≤ 60 := fun a ha => by have h9 := (plcB_iff.1 (hok.ok a ha)).1; omega
   have HSRT := Lib.hid (sort_both out pq2 cq2 _ W' row h12 hsl hok.nd)
   have ROW := Lib.hid row
   have BE := Lib.hid bel
   have OQ := Lib.hid oq
   have HKD := Lib.hid hK
   obtain ⟨q0c, _, zq⟩ := own1 oq
   have HFIN := Lib.hid hfin
   clear hfin hok hout h12 hsl bel oq row ou hle hK
   gi_wp2
   go_wp2_with fail
   refine HSRT.out.mono ?_
   clear HSRT q0c zq
   rintro e w9 ⟨rfl, hrow9, hg9⟩
   have hlt9 := ROW.out.lt
   have B9 := Lib.hid (BE.out.grown hg9 BE.out.size (fun k e => (hlt9 k e).1))
   have oq9 := own_keptT OQ.out ROW.out (by decide) hg9
   have K9 : w9.heap[D']? = some (.deferred (some [])) := (hg9.block D' (Array.getElem?_eq_some_iff.1 HKD.out).1 (fun e => by
    rcases row_shape ROW.out with h | ⟨g, c, cur, h, hq⟩
    ·rw [h] at e; simp [Value.ownBlock] at e
    ·rw [h] at e
     simp [Value.ownBlock] at e
     subst e
     rw [hq] at HKD
     cases HKD.out)).trans HKD.out
   have R9 := Lib.hid hrow9
   clear hrow9 hg9 hlt9
   have oT9 := OT5.out.below B9.out
   have oR9 := OR5.out.below B9.out
   obtain ⟨q0c, _, zq⟩ := own1 oq9
   obtain ⟨t0, t1, t2, fT, zT⟩ := own3 oT9
   obtain ⟨r0, r1, r2, fR, zR⟩ := own3 oR9
   have HK9 := Lib.hid K9
   clear K9
   go_wp2_with fail
   have hT9 := OT5.out.below B9.out
   have hR9 := OR5.out.below B9.out
   have hw8 : w.heap.size + 1 + 1 + 1 + 1 < w8.heap.size := by omega
   have O4 : Own ((((w9.setCell ⟨w.heap.size + 1, 2, none⟩ (.slice pq2 out.length cq2)).setCell ⟨w.heap.size + 1 + 1 + 1 + 1, 0, none⟩ (.slice pu us.length cu)).setCell ⟨w.heap.size + 1 + 1 + 1 + 1, 1, none⟩ (.slice pg gs.length cg)).setCell ⟨w.heap.size + 1 + 1 + 1 + 1, 2, none⟩ (.slice pq2 out.length cq2)) (w.heap.size + 1 + 1 + 1 + 1) [.slice pu us.length cu, .slice pg gs.length cg, .slice pq2 out.length cq2] 43 := own_set3 (hR9.other (a := ⟨w.heap.size + 1, 2, none⟩) (by first | (simp; done) | (simp; omega)) (.slice pq2 out.length cq2))
   have K4 : ((((w9.setCell ⟨w.heap.size + 1, 2, none⟩ (.slice pq2 out.length cq2)).setCell ⟨w.heap.size + 1 + 1 + 1 + 1, 0, none⟩ (.slice pu us.length cu)).setCell ⟨w.heap.size + 1 + 1 + 1 + 1, 1, none⟩ (.slice pg gs.length cg)).setCell ⟨w.heap.size + 1 + 1 + 1 + 1, 2, none⟩ (.slice pq2 out.length cq2)).heap[D']? = some (.deferred (some [])) := by
    rw [Below.heap_setCell _ ⟨w.heap.size + 1 + 1 + 1 + 1, 2, none⟩ _ D' (by simp; omega), Below.heap_setCell _ ⟨w.heap.size + 1 + 1 + 1 + 1, 1, none⟩ _ D' (by simp; omega), Below.heap_setCell _ ⟨w.heap.size + 1 + 1 + 1 + 1, 0, none⟩ _ D' (by simp; omega), Below.heap_setCell _ ⟨w.heap.size + 1, 2, none⟩ _ D' (by simp; omega)]
    exact HK9.out
   have R4 : ((((w9.setCell ⟨w.heap.size + 1, 2, none⟩ (.slice pq2 out.length cq2)).setCell ⟨w.heap.size + 1 + 1 + 1 + 1, 0, none⟩ (.slice pu us.length cu)).setCell ⟨w.heap.size + 1 + 1 + 1 + 1, 1, none⟩ (.slice pg gs.length cg)).setCell ⟨w.heap.size + 1 + 1 + 1 + 1, 2, none⟩ (.slice pq2 out.length cq2)).ownsRow w5.heap.size 81 3 (.slice pq2 out.length cq2) out.length (flatT akL (srtA out)) := by
    have g1 := row_setT (i := 2) (x := .slice pq2 out.length cq2) R9.out hT9 (by decide)
    have g2 := hR9.other (a := ⟨w.heap.size + 1, 2, none⟩) (by first | (simp; done) | (simp; omega)) (.slice pq2 out.length cq2)
    have g3 := row_setT (i := 0) (x := .slice pu us.length cu) g1 g2 (by decide)
    have g4 := row_setT (i := 1) (x := .slice pg gs.length cg) g3 (g2.set 0 (.slice pu us.length cu)) (by decide)
    exact row_setT (i := 2) (x := .slice pq2 out.length cq2) g4 ((g2.set 0 (.slice pu us.length cu)).set 1 (.slice pg gs.length cg)) (by decide)
   have B4 : Below w.heap.size w ((((w9.setCell ⟨w.heap.size + 1, 2, none⟩ (.slice pq2 out.length cq2)).setCell ⟨w.heap.size + 1 + 1 + 1 + 1, 0, none⟩ (.slice pu us.length cu)).setCell ⟨w.heap.size + 1 + 1 + 1 + 1, 1, none⟩ (.slice pg gs.length cg)).setCell ⟨w.heap.size + 1 + 1 + 1 + 1, 2, none⟩ (.slice pq2 out.length cq2)) := below_set3 (((BEL5.out.trans (B9.out.mono hwS)).setCell (p := ⟨w.heap.size + 1, 2, none⟩) (by first | (simp; done) | (simp; omega)) (.slice pq2 out.length cq2))) (by omega)
   generalize ((((w9.setCell ⟨w.heap.size + 1, 2, none⟩ (.slice pq2 out.length cq2)).setCell ⟨w.heap.size + 1 + 1 + 1 + 1, 0, none⟩ (.slice pu us.length cu)).setCell ⟨w.heap.size + 1 + 1 + 1 + 1, 1, none⟩ (.slice pg gs.length cg)).setCell ⟨w.heap.size + 1 + 1 + 1 + 1, 2, none⟩ (.slice pq2 out.length cq2)) = W7 at O4 K4 R4 B4 ⊢
   clear hT9 hR9 t0 t1 t2 fT zT r0 r1 r2 fR zR q0c zq
   refine ⟨by simp, .inl ⟨_, _, rfl, run_takeDeferred K4, ?_⟩⟩
   have O5 : Own (W7.putObj D' (.deferred none)) (w.heap.size + 1 + 1 + 1 + 1) [.slice pu us.length cu, .slice pg gs.length cg, .slice pq2 out.length cq2] 43 := own_put K4 rfl O4
   have R5 := row_put (o' := .deferred none) K4 rfl R4
   have B5 : Below w.heap.size w (W7.putObj D' (.deferred none)) := B4.trans (belowK_b (w := w8) (by omega) W7 D' _ _ hD K4 rfl rfl)
   generalize W7.putObj D' (.deferred none) = W6 at O5 R5 B5 ⊢
   have RF := Lib.hid (slt_of_own (L := akL) (by rw [srtA_len]; exact R5))
   obtain ⟨r0, r1, r2, fR, zR⟩ := own3 O5
   clear O4 K4 R4 B4 O5 R5
   exact ⟨.agg #[.slice pu us.length cu, .slice pg gs.length cg, .slice pq2 out.length cq2], by simp [results, Tryz.results14, go_sem, *], _, _, _, rfl, SU0.out.below B5, SG0.out.below B5, by rw [HFIN.out]; exact RF.out, B5⟩
  case body =>
   rintro l' pre x a' Wb hl hr hI ⟨Bx, ob, hBx, rfl⟩ hlt
   obtain ⟨out, hout⟩ : ∃ out, pre.foldl (askS me (sidL N D (l.map Nr.b)) us gs n p many) q1 = out := ⟨_, rfl⟩
   rw [hout] at hI
   have HSTEP := Lib.hid (show (pre ++ [x]).foldl (askS me (sidL N D (l.map Nr.b)) us gs n p many) q1 = askS me (sidL N D (l.map Nr.b)) us gs n p many out x from by rw [List.foldl_append, hout]; rfl)
   have HAI := Lib.hid hI
   obtain ⟨pq2, cq2, bel, oq, row, ou, hle, hz8⟩ := hI
   have BE := Lib.hid bel
   have ROW := Lib.hid row
   have OQ := Lib.hid oq
   have OU := Lib.hid ou
   have OB := Lib.hid ob
   obtain ⟨q0c, fq, zq⟩ := own1 oq
   obtain ⟨x0, x1, fx, zx⟩ := own2 ob
   obtain ⟨m0c, _, zm⟩ := own1 (OM5.out.below bel)
   obtain ⟨f0c, _, zf⟩ := own1 (OF5.out.below bel)
   clear bel oq row ou ob hl hr hout hlt
   by_cases hfull : many ≤ (out.length : Int)
   ·have HST := Lib.hid (show askS me (sidL N D (l.map Nr.b)) us gs n p many out x = out by unfold askS; rw [if_pos hfull])
    have hfd : decide (many ≤ (out.length : Int)) = true := decide_eq_true hfull
    gi_wp2
    exact ⟨KeepsFrom.self, rfl, by (try dsimp only); rw [HSTEP.out, HST.out]; exact HAI.out, by (try dsimp only); rw [HSTEP.out, HST.out]; exact hfull⟩
   ·have hfd : decide (many ≤ (out.length : Int)) = false := decide_eq_false hfull
    cases hp : Po x.1 x.2 with
    | false =>
     have HP := Lib.hid hp
     have HST := Lib.hid (show askS me (sidL N D (l.map Nr.b)) us gs n p many out x = out by unfold askS; rw [if_neg hfull, HPN.out, hp]; rfl)
     clear hp
     gi_wp2
     refine ⟨trivial, CallsIn.inRound l' (callsIn_wide.2 ((calls_bool (HPO.out x.1 x.2 _ BE.out) HP.out).mono ?_))⟩
     rintro e W1 ⟨rfl, hb⟩
     have A1 := Lib.hid (HAI.out.below hb)
     have K1 := Lib.hid (KeepsFrom.ofBelow (B := w8.heap.size) hb)
     have P1 := Lib.hid (KpT.below (b1 := bU) (bs := bs) hb)
     clear hb
     gi_wp2
     all_goals first | (refine ⟨fun f hf => trivial, ?_⟩; gi_wp2) | (refine ⟨trivial, ?_⟩; gi_wp2) | skip
     exact ⟨K1.out, P1.out, by (try dsimp only); rw [HSTEP.out, HST.out]; exact A1.out⟩
    | true =>
     have HP := Lib.hid hp
     clear hp
     gi_wp2
     refine ⟨trivial, CallsIn.inRound l' (callsIn_wide.2 ((calls_bool (HPO.out x.1 x.2 _ BE.out) HP.out).mono ?_))⟩
     rintro e W1 ⟨rfl, hb⟩
     have A1 := Lib.hid (HAI.out.below hb)
     have K1 := Lib.hid (KeepsFrom.ofBelow (B := w8.heap.size) hb)
     have P1 := Lib.hid (KpT.below (b1 := bU) (bs := bs) hb)
     have BE1 := Lib.hid (BE.out.trans (hb.mono BE.out.size))
     have R1 := Lib.hid (ROW.out.below hb)
     have Q1 := Lib.hid (OQ.out.below hb)
     have U1 := Lib.hid (OU.out.below hb)
     have X1 := Lib.hid (OB.out.below hb)
     clear hb q0c fq zq x0 x1 fx zx m0c zm f0c zf
     obtain ⟨q0c, fq, zq⟩ := own1 Q1.out
     obtain ⟨x0, x1, fx, zx⟩ := own2 X1.out
     obtain ⟨p0c, _, zp⟩ := own1 (OP5.out.below BE1.out)
     cases hy : out.any (fun d => d.s == x.1) with
     | true =>
      have HY := Lib.hid hy
      have HST := Lib.hid (show askS me (sidL N D (l.map Nr.b)) us gs n p many out x = out by unfold askS; rw [if_neg (by omega), HPN.out, HP.out, hy]; rfl)
      clear hy
      gi_wp2
      refine ⟨trivial, CallsIn.inRound l' (callsIn_wide.2 ((cfx_ask3 _ out Bx x.1 true _ (slt_of_own (L := akL) R1.out) X1.out.lt x0 HY.out).mono ?_))⟩
      rintro e W2 ⟨rfl, hb⟩
      have A2 := Lib.hid (A1.out.below hb)
      have K2 := Lib.hid (K1.out.after (KeepsFrom.ofBelow (B := w8.heap.size) hb))
      have P2 := Lib.hid (P1.out.trans (KpT.below (b1 := bU) (bs := bs) hb))
      clear hb
      gi_wp2
      exact ⟨K2.out, P2.out, by (try dsimp only); rw [HSTEP.out, HST.out]; exact A2.out⟩
     | false =>
      have HY := Lib.hid hy
      have HST := Lib.hid (show askS me (sidL N D (l.map Nr.b)) us gs n p many out x = out ++ [⟨x.1, x.2, p⟩] by unfold askS; rw [if_neg (by omega), HPN.out, HP.out, hy]; rfl)
      clear hy
      gi_wp2
      refine ⟨trivial, CallsIn.inRound l' (callsIn_wide.2 ((cfx_ask3 _ out Bx x.1 false _ (slt_of_own (L := akL) R1.out) X1.out.lt x0 HY.out).mono ?_))⟩
      rintro e W2 ⟨rfl, hb⟩
      have K2 := Lib.hid (K1.out.after (KeepsFrom.ofBelow (B := w8.heap.size) hb))
      have P2 := Lib.hid (P1.out.trans (KpT.below (b1 := bU) (bs := bs) hb))
      have BE2 := Lib.hid (BE1.out.trans (hb.mono BE1.out.size))
      have R2 := Lib.hid (R1.out.below hb)
      have Q2 := Lib.hid (Q1.out.below hb)
      have U2 := Lib.hid (U1.out.below hb)
      have X2 := Lib.hid (X1.out.below hb)
      have hz2 : w8.heap.size ≤ W2.heap.size := Nat.le_trans (by obtain ⟨_, _, _, _, _, _, _, h6⟩ := A1.out; exact h6) hb.size
      have hl12 : out.length ≤ 100 := by omega
      clear hb q0c fq zq x0 x1 fx zx p0c zp
      obtain ⟨q0c, fq, zq⟩ := own1 Q2.out
      obtain ⟨x0, x1, fx, zx⟩ := own2 X2.out
      obtain ⟨p0c, _, zp⟩ := own1 (OP5.out.below BE2.out)
      have h52 : w5.heap.size ≤ W2.heap.size := BE2.out.size
      gi_wp2_with (first | (gi_at_builtin; refine wpListIn_append_own _ rfl _ _ 41 rfl w5.heap.size 81 i0 _ 3 24 (by kernel_rfl) IF.out.1 IF.out.2.1 IF.out.2.2.1 IF.out.2.2.2 rfl (by decide) _ out.length (flatT akL out) rfl (R2.out.alloc _) _ 1 1 (akL.f (⟨x.1, x.2, p⟩ : Ak)) rfl rfl (newsTn (L := akL) (w := W2) (by simp) (⟨x.1, x.2, p⟩ : Ak) 81) (akL.one _) ?qc4 ?qc5 ?qc6 ?_) | fail)
      case qc4 => unfold maxLen; omega
      case qc5 => omega
      case qc6 => simp; omega
      intro v2 w9 hown hgrow hnil
      obtain ⟨p9, c9, hv9⟩ := row_form hown
      subst hv9
      have RA := Lib.hid (R2.out.alloc (Obj.cells #[.int .i64 x.1, .int .i64 x.2, .int .i64 p] 81))
      have Q9 := own_keptT (Q2.out.alloc _) RA.out (by decide) hgrow
      have U9 := own_keptT (U2.out.alloc _) RA.out (by decide) hgrow
      have BE9 := Lib.hid ((BE2.out.alloc h52 _).grown hgrow (by simp; omega) (fun k hk => (RA.out.lt k hk).1))
      have K9 := Lib.hid (K2.out.after ((KeepsFrom.ofBelow (B := w8.heap.size) (belowNew W2 _)).after (keeps_grown hgrow RA.out)))
      have P9 := Lib.hid (P2.out.trans ((KpT.below (belowNew W2 _)).trans (KpT.grown hgrow (fun r hr => ⟨row_ne RA.out (U2.out.alloc _) (by decide) r hr, by have := (RA.out.lt r hr).1; omega⟩))))
      have R9 := Lib.hid hown
      have hz9 : w8.heap.size ≤ w9.heap.size := by have := hgrow.size; simp at this; omega
      clear hown hgrow hnil q0c fq zq x0 x1 fx zx p0c zp
      obtain ⟨q0c, fq, zq⟩ := own1 Q9
      gi_wp2
      exact ⟨K9.out.after (keeps_set hq8 0 _), P9.out.trans (KpT.set (by omega) (by omega) 0 _), by (try dsimp only); rw [HSTEP.out, HST.out]; exact ⟨p9, c9, BE9.out.setCell (p := ⟨bQ, 0, none⟩) h5q _, (by have h9 := Q9.set 0 (.slice p9 (out.length + 1) c9); simpa using h9), (by rw [flatT_append, flatT_one, len_snoc]; exact row_setT R9.out Q9 (by decide) 0 _), U9.other (by dsimp only; omega) _, (by simp; omega), (by simp; omega)⟩⟩
theorem ask_any (vu vg va : Value) (us : List Us) (gs : List Gr) (ks : List Ak) (N D me f : Int) (p many : Int) (v : Value) (l : List Nr) (w : World) (su : SlU w vu us) (sg : SlG w vg gs) (sa : SlA w va ks) (u70 : us.length ≤ 70) (g70 : gs.length ≤ 70) (k70 : ks.length ≤ 70) (sl : SlN w v l) (ho : NsOk w l) (h1000 : l.length ≤ 1000) (hfew : ∀ r ∈ l, r.b.us.length ≤ 100 ∧ r.b.gs.length ≤ 100 ∧ r.b.ks.length ≤ 100) (f0 : 0 ≤ f) (f1 : f ≤ 1000000) (y1 : many ≤ 12) : Calls Tryz.prog 14 #[.agg #[.int .i64 N, .int .i64 D], .agg #[vu, vg, va], .int .i64 me, v, .int .i64 p, .int .i64 many, .int .i64 f] w (TblP w (askF N D ⟨us, gs, ks⟩ me (l.map Nr.b) p many f).us (askF N D ⟨us, gs, ks⟩ me (l.map Nr.b) p many f).gs (askF N D ⟨us, gs, ks⟩ me (l.map Nr.b) p many f).ks) := by
 cases hs : sideB N D ⟨us, gs, ks⟩ me (l.map Nr.b) f with
 | false => rw [show (askF N D ⟨us, gs, ks⟩ me (l.map Nr.b) p many f) = ⟨us, gs, ks⟩ by simp [askF, hs]]; exact ask_bad vu vg va us gs ks N D me f p many v l w su sg sa u70 g70 k70 sl ho h1000 hfew f0 f1 y1 hs
 | true =>
  cases hm : inB many 24 with
  | false => rw [show (askF N D ⟨us, gs, ks⟩ me (l.map Nr.b) p many f) = ⟨us, gs, ks⟩ by simp [askF, hs, hm]]; exact ask_many vu vg va us gs ks N D me f p many v l w su sg sa u70 g70 k70 sl ho h1000 hfew f0 f1 y1 hs hm
  | true =>
   cases hf : fndF p (sidL N D (l.map Nr.b)) with
   | none => rw [show (askF N D ⟨us, gs, ks⟩ me (l.map Nr.b) p many f) = ⟨us, gs, []⟩ by simp [askF, hs, hm, hf]]; exact ask_none vu vg va us gs ks N D me f p many v l w su sg sa u70 g70 k70 sl ho h1000 hfew f0 f1 y1 hs hm hf
   | some n => rw [show (askF N D ⟨us, gs, ks⟩ me (l.map Nr.b) p many f) = ⟨us, gs, srtA (askU D me f (sidL N D (l.map Nr.b)) us gs n p many ks (16 * D).toNat)⟩ by simp [askF, hs, hm, hf]]; exact ask_ok vu vg va us gs ks N D me f p many v l w su sg sa u70 g70 k70 sl ho h1000 hfew f0 f1 y1 n hs hm hf
end Go.Proofs.YtmopiifamopidaaGreat
end

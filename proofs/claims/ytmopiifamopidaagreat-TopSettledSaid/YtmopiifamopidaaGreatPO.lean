/- What a frame of the world does; the new world; symmetric rows. No condition but those named. -/
import Derived.Deep.CutRange
import Derived.Test.YtmopiifamopidaaGreatPL
import Derived.Test.YtmopiifamopidaaGreatPM
import Derived.Test.YtmopiifamopidaaGreatPN
import Derived.Outline
import Derived.Laws.MakeOwn
set_option linter.unusedVariables false
set_option linter.unusedSimpArgs false
section
namespace Go.Proofs.YtmopiifamopidaaGreat
open Go.RowKit
attribute [local go_sem] Oper.semAt_some
def itL : Lay Int := ⟨fun x => [.int .i64 x], 1, by decide, fun _ => rfl, fun a u h => by
 simp only [List.mem_cons, List.not_mem_nil, or_false] at h
 rcases h with rfl; rfl⟩
theorem SlT.atI {w w' : World} {p : Option Addr} {n cap : Nat} {l : List Int} (h : SlT itL w (.slice p n cap) l) (bel : Below w.heap.size w w') {i : Nat} (hi : i < l.length) :
  ∃ a b off, l[i]? = some a ∧ p = some ⟨b, off, none⟩ ∧ b < w'.heap.size ∧ b < w.heap.size ∧ w'.cell? ⟨b, off + i, none⟩ = some (.int .i64 a) := by
 obtain ⟨a, b, off, h1, h2, h3, h4, h5⟩ := h.at bel hi
 refine ⟨a, b, off, h1, h2, h3, h4, ?_⟩
 have := h5 0 _ rfl
 rw [show itL.k = 1 from rfl, Nat.mul_one] at this
 exact this
structure Bex (w : World) (b c : Nat) (wz : World) : Prop where
 size : w.heap.size ≤ wz.heap.size
 block : ∀ k, k < w.heap.size → k ≠ b → k ≠ c → wz.heap[k]? = w.heap[k]?
theorem Bex.refl (w : World) (b c : Nat) : Bex w b c w := ⟨Nat.le_refl _, fun _ _ _ _ => rfl⟩
theorem Bex.below {w A B : World} {b c : Nat} (h : Bex w b c A) (k : Below A.heap.size A B) : Bex w b c B := ⟨Nat.le_trans h.size k.size, fun i h1 h2 h3 => (k.block i (Nat.lt_of_lt_of_le h1 h.size)).trans (h.block i h1 h2 h3)⟩
theorem Bex.belo {w A B : World} {b c : Nat} (h : Bex w b c A) (k : Belo A.heap.size c A B) : Bex w b c B := ⟨Nat.le_trans h.size k.size, fun i h1 h2 h3 => (k.block i (Nat.lt_of_lt_of_le h1 h.size) h3).trans (h.block i h1 h2 h3)⟩
theorem Bex.set {w A : World} {b c : Nat} (h : Bex w b c A) (i : Nat) (v : Value) : Bex w b c (A.setCell ⟨b, i, none⟩ v) := ⟨by simpa using h.size, fun k h1 h2 h3 => (Below.heap_setCell A ⟨b, i, none⟩ v k h2).trans (h.block k h1 h2 h3)⟩
theorem Bex.ints {w A : World} {b c : Nat} {v : Value} {l : List Int} {cs ds : List Value} {t u : TypeId} (h : Bex w b c A) (s : SlT itL w v l) (o : Own w b cs t) (q : Own w c ds u) (hc : ∀ x ∈ cs, ∀ k n, x ≠ .int k n) (hd : ∀ x ∈ ds, ∀ k n, x ≠ .int k n) : SlT itL A v l := by
 obtain ⟨p, cap, h1, h2, h3, h4, h5⟩ := s
 refine ⟨p, cap, h1, h2, h3, h4, fun i cs' hi => ?_⟩
 obtain ⟨b', off, e, hlt, hcc⟩ := h5 i cs' hi
 refine ⟨b', off, e, Nat.lt_of_lt_of_le hlt h.size, fun j x hx => ?_⟩
 have h0 := hcc j x hx
 rw [List.getElem?_map] at hi
 cases ha : l[i]? with
 | none => rw [ha] at hi; cases hi
 | some a =>
  rw [ha] at hi
  obtain rfl : itL.f a = cs' := by simpa using hi
  have hxm := List.mem_of_getElem? hx
  have hxe : x = .int .i64 a := by
   have : x ∈ [Value.int .i64 a] := hxm
   simpa using this
  subst hxe
  have ne : ∀ {bb : Nat} {es : List Value} {tt : TypeId}, Own w bb es tt → (∀ x ∈ es, ∀ k n, x ≠ .int k n) → b' ≠ bb := fun {bb es tt} oo hes e' => by
   subst e'
   simp only [World.cell?, show w.heap[b']? = _ from oo] at h0
   have h9 : es[off + i * itL.k + j]? = some (.int .i64 a) := by simpa using h0
   exact hes _ (List.mem_of_getElem? h9) _ _ rfl
  rw [← h0]
  exact World.cell?_of_block (a := ⟨b', _, none⟩) (h.block b' hlt (ne o hc) (ne q hd))
theorem Wrd.hold {w0 : World} {bW bT bN n i : Nat} {N D f : Int} {vh : Sv} {T : Nat → Tb} {R : Nat → List Nb} {ts : List Tr} {ns : List Nv} {w' : World} {r : Tr} {x : Nv} (h : Wrd w0 bW bT bN N D n vh f T R ts ns w') (hr : ts[i]? = some r) (hx : ns[i]? = some x) : w'.cell? ⟨bW, 0, none⟩ = some (.int .i64 N) ∧ w'.cell? ⟨bW, 1, none⟩ = some (.int .i64 D) ∧ w'.cell? ⟨bW, 3, none⟩ = some (.slice (some ⟨bT, 0, none⟩) n n) ∧ w'.cell? ⟨bW, 4, none⟩ = some (.slice (some ⟨bN, 0, none⟩) n n) ∧ w'.cell? ⟨bW, 5, none⟩ = some (.int .i64 f) ∧ w'.cell? ⟨bT, i * 3, none⟩ = some (.slice r.vu.p r.vu.n r.vu.c) ∧ w'.cell? ⟨bT, i * 3 + 1, none⟩ = some (.slice r.vg.p r.vg.n r.vg.c) ∧ w'.cell? ⟨bT, i * 3 + 2, none⟩ = some (.slice r.va.p r.va.n r.va.c) ∧ w'.cell? ⟨bN, i, none⟩ = some (.slice x.v.p x.v.n x.v.c) := by
 have hi : i < n := by rw [← h.lt]; exact (List.getElem?_eq_some_iff.1 hr).1
 obtain ⟨r2, hr2, _, _, t0, t1, t2⟩ := h.tabAt hi
 obtain rfl : r = r2 := by rw [hr] at hr2; exact Option.some.inj hr2
 obtain ⟨x2, hx2, _, _, _, n0⟩ := h.nearAt hi
 obtain rfl : x = x2 := by rw [hx] at hx2; exact Option.some.inj hx2
 exact ⟨h.oW.cell (i := 0) rfl, h.oW.cell (i := 1) rfl, h.oW.cell (i := 3) rfl, h.oW.cell (i := 4) rfl, h.oW.cell (i := 5) rfl, t0, t1, t2, n0⟩
theorem notA_step {i : Nat} {H : Nat → Nat → Bool} {b : Nb} {R : Nat → List Nb} {k : Nat} (h : k ≠ i ∧ H k i = true) : notA (k + 1) H i b R = updF (notA k H i b R) k (notF b false (R k)) := by
 funext j
 unfold notA updF
 dsimp only
 by_cases e : j = k
 ·subst e; rw [if_pos ⟨by omega, h.1, h.2⟩, if_pos rfl]
 ·rw [if_neg e]
  by_cases c : j < k ∧ j ≠ i ∧ H j i = true
  ·rw [if_pos c, if_pos ⟨by omega, c.2⟩]
  ·rw [if_neg c, if_neg (fun c' => c ⟨by omega, c'.2⟩)]
theorem notA_skip {i : Nat} {H : Nat → Nat → Bool} {b : Nb} {R : Nat → List Nb} {k : Nat} (h : ¬ (k ≠ i ∧ H k i = true)) : notA (k + 1) H i b R = notA k H i b R := by
 funext j
 unfold notA
 by_cases e : j = k
 ·subst e; rw [if_neg (fun c => h c.2), if_neg (fun c => h c.2)]
 ·by_cases c : j < k ∧ j ≠ i ∧ H j i = true
  ·rw [if_pos c, if_pos ⟨by omega, c.2⟩]
  ·rw [if_neg c, if_neg (fun c' => c ⟨by omega, c'.2⟩)]
theorem notA_zero {i : Nat} {H : Nat → Nat → Bool} {b : Nb} {R : Nat → List Nb} : notA 0 H i b R = R := by funext j; unfold notA; rw [if_neg (by omega)]
theorem notA_at {i k : Nat} {H : Nat → Nat → Bool} {b : Nb} {R : Nat → List Nb} : notA k H i b R k = R k := by unfold notA; rw [if_neg (by omega)]
def ph2N (N D f : Int) (par many : Nat → Int) (T1 : Nat → Tb) (R1 : Nat → List Nb) (i : Nat) : Nat → Tb := fun j => if j < i then ph2 N D f par many T1 R1 j else T1 j
theorem ph2N_zero {N D f : Int} {par many : Nat → Int} {T1 : Nat → Tb} {R1 : Nat → List Nb} {i : Nat} : ph2N N D f par many T1 R1 0 i = T1 i := by unfold ph2N; rw [if_neg (by omega)]
theorem ph2N_at {N D f : Int} {par many : Nat → Int} {T1 : Nat → Tb} {R1 : Nat → List Nb} {i : Nat} : ph2N N D f par many T1 R1 i i = T1 i := by unfold ph2N; rw [if_neg (by omega)]
theorem ph2N_step {N D f : Int} {par many : Nat → Int} {T1 : Nat → Tb} {R1 : Nat → List Nb} {i : Nat} : ph2N N D f par many T1 R1 (i + 1) = updF (ph2N N D f par many T1 R1 i) i (ph2 N D f par many T1 R1 i) := by
 funext j
 unfold ph2N updF
 dsimp only
 by_cases e : j = i
 ·subst e; rw [if_pos (by omega), if_pos rfl]
 ·rw [if_neg e]
  by_cases c : j < i
  ·rw [if_pos c, if_pos (by omega)]
  ·rw [if_neg c, if_neg (by omega)]
theorem ph2N_end {N D f : Int} {par many : Nat → Int} {T T1 : Nat → Tb} {R1 : Nat → List Nb} {i n j : Nat} (hi : i = n) (hj : j < n) : (if j < n then ph2 N D f par many T1 R1 j else T j) = ph2N N D f par many T1 R1 i j := by
 subst hi
 unfold ph2N
 rw [if_pos hj, if_pos hj]
def FrI (w0 : World) (bW bT bN : Nat) (N D : Int) (n : Nat) (vh : Sv) (f : Int) (T : Nat → Tb) (R : Nat → List Nb) (w wz : World) : Prop := (∃ ts ns, Wrd w0 bW bT bN N D n vh f T R ts ns wz) ∧ Bex w bT bN wz
def FrK (w0 : World) (bW bT bN : Nat) (N D : Int) (n : Nat) (vh : Sv) (f : Int) (T : Nat → Tb) (R : Nat → List Nb) (ts : List Tr) (b7 : Nat) (cs : List Value) (w wz : World) : Prop := (∃ ns, Wrd w0 bW bT bN N D n vh f T R ts ns wz) ∧ Bex w bT bN wz ∧ Own wz b7 cs 43
def FrmP (w0 : World) (bW bT bN : Nat) (N D : Int) (n : Nat) (vh : Sv) (f : Int) (T : Nat → Tb) (R : Nat → List Nb) (e : Ending) (w' : World) : Prop := e = .returned (.tuple #[]) ∧ ∃ ts ns, Wrd w0 bW bT bN N D n vh f T R ts ns w'
theorem few_of {N D : Int} {n m i : Nat} {T : Nat → Tb} {R : Nat → List Nb} {l : List Nr} (h : Inv N D n m T R) (hi : i < n) (hm : m ≤ 1000) (hl : l.map Nr.b = R i) : l.length ≤ 1000 ∧ ∀ r ∈ l, r.b.us.length ≤ 100 ∧ r.b.gs.length ≤ 100 ∧ r.b.ks.length ≤ 100 := by
 refine ⟨?_, fun r hr => ?_⟩
 ·have h1 := h.len i hi
  rw [← hl, List.length_map] at h1
  omega
 ·have h1 := h.few i hi r.b (by rw [← hl]; exact List.mem_map_of_mem hr)
  have h2 := h1.1; have h3 := h1.2.1; have h4 := h1.2.2
  omega
set_option maxRecDepth 100000 in
set_option maxHeartbeats 8000000 in
theorem frm_any (w0 : World) (bW bT bN : Nat) (N D f : Int) (n m : Nat) (vh : Sv) (hs : List Hr) (H : Nat → Nat → Bool) (T : Nat → Tb) (R : Nat → List Nb) (ts : List Tr) (ns : List Nv) (vp vm : Value) (ps ms : List Int) (w : World) (hW : Wrd w0 bW bT bN N D n vh f T R ts ns w) (hH : HsOk w0 (.slice vh.p vh.n vh.c) hs n) (hHe : ∀ (i : Nat) (r : Hr), hs[i]? = some r → ∀ (k : Nat) (b : Bool), r.h[k]? = some b → H i k = b) (hp : SlT itL w vp ps) (hm : SlT itL w vm ms) (hpl : ps.length = n) (hml : ms.length = n) (h12 : ∀ x ∈ ms, x ≤ 12) (hI : Inv N D n m T R) (m900 : m ≤ 900) (n8 : n ≤ 8) (f0 : 0 ≤ f) (f1 : f ≤ 900000) :
  Calls Tryz.prog 7 #[.pointer (some ⟨bW, 0, none⟩), vp, vm] w (FrmP w0 bW bT bN N D n vh (f + 1) (frmT N D n H f (fun i => (ps[i]?).getD 0) (fun i => (ms[i]?).getD 0) T R) (frmR N D n H f T R)) := by
 obtain ⟨pp, pc, e0, hpc, hpm, _⟩ := SlT.form (L := itL) n hp hpl
 subst e0
 obtain ⟨mp, mc, e0, hmc, hmm, _⟩ := SlT.form (L := itL) n hm hml
 subst e0
 unfold maxLen at hpm hmm
 have HW := Lib.hid hW
 have HH := Lib.hid hH
 have HHE := Lib.hid hHe
 have HP := Lib.hid hp
 have HM := Lib.hid hm
 have HPL := Lib.hid hpl
 have HML := Lib.hid hml
 have H12 := Lib.hid h12
 have HI := Lib.hid hI
 have n0 : (0 : Int) ≤ (n : Int) := Int.natCast_nonneg _
 have n1 : (n : Int) ≤ 8 := by omega
 obtain ⟨w0c, w1c, w2c, w3c, w4c, w5c, _, zW⟩ := own6 hW.oW
 obtain ⟨bC, hbC⟩ : ∃ bC, w.heap.size = bC := ⟨_, rfl⟩
 have HBC := Lib.hid hbC
 clear hW hH hHe hp hm hpl hml h12 hI hbC
 have I0 := Lib.hid (show FrI w0 bW bT bN N D n vh f (ph1 N D n H f T R 0).1 (ph1 N D n H f T R 0).2 w w from ⟨⟨ts, ns, HW.out⟩, Bex.refl _ _ _⟩)
 go_enter Tryz.func7, Tryz.ntmps7
 go_wp2_with fail
 clear w0c w1c w2c w3c w4c w5c zW
 go_loopw [16] (fun ii wz => ∃ i : Nat, i ≤ n ∧ ii = .int .i64 i ∧ FrI w0 bW bT bN N D n vh f (ph1 N D n H f T R i).1 (ph1 N D n H f T R i).2 w wz) (fun ii _ => n - (intOf ii).toNat)
 case atStart => exact ⟨0, by omega, rfl, I0.out⟩
 case round =>
  clear I0
  obtain ⟨i, hi, rfl, ⟨ti, ni, hwi⟩, hbi⟩ := hrel
  have WI := Lib.hid hwi
  have BI := Lib.hid hbi
  clear hwi hbi
  have i0 : (0 : Int) ≤ (i : Int) := Int.natCast_nonneg _
  by_cases hlt : i < n
  ·have i1 : (i : Int) < (n : Int) := by omega
   have INV := Lib.hid (ph1_inv (H := H) (f := f) HI.out i (by omega)).1
   obtain ⟨t2, ht2⟩ : ∃ t2, takF N D ((ph1 N D n H f T R i).1 i) i ((ph1 N D n H f T R i).2 i) f = t2 := ⟨_, rfl⟩
   have HST1 := Lib.hid (show (ph1 N D n H f T R (i + 1)).1 = updF (ph1 N D n H f T R i).1 i t2 from by rw [← ht2]; rfl)
   have HST2 := Lib.hid (show (ph1 N D n H f T R (i + 1)).2 = notA n H i ⟨f, i, t2.us, t2.gs, t2.ks⟩ (ph1 N D n H f T R i).2 from by rw [← ht2]; rfl)
   have HT2 := Lib.hid ht2
   clear ht2
   obtain ⟨Ti, hTi⟩ : ∃ Ti, (ph1 N D n H f T R i).1 = Ti := ⟨_, rfl⟩
   obtain ⟨Ri, hRi⟩ : ∃ Ri, (ph1 N D n H f T R i).2 = Ri := ⟨_, rfl⟩
   rw [hTi, hRi] at INV HT2 WI
   rw [hTi] at HST1
   rw [hRi] at HST2
   clear hTi hRi
   obtain ⟨r, hr, hrt, hrok, t0, t1, t2c⟩ := WI.out.tabAt hlt
   obtain ⟨x, hx, hxs, hxo, hxr, n0c⟩ := WI.out.nearAt hlt
   obtain ⟨rt, ⟨pu, nu, cu⟩, ⟨pg, ng, cg⟩, ⟨pa, na, ca⟩⟩ := r
   obtain ⟨xl, ⟨xp, xn, xc⟩⟩ := x
   dsimp only at hrt hrok t0 t1 t2c hxs hxo hxr n0c
   have hval := INV.out.val i hlt
   rw [← hrt] at hval
   have hl2 := us_len hval
   have hfew := few_of INV.out hlt (by omega) hxr
   have HVAL := Lib.hid hval
   have HL2 := Lib.hid hl2
   have HFEW := Lib.hid hfew
   have RT := Lib.hid hrt
   have ROK := Lib.hid hrok
   have HXS := Lib.hid hxs
   have HXO := Lib.hid hxo
   have HXR := Lib.hid hxr
   have HR := Lib.hid hr
   have HX := Lib.hid hx
   clear hval hl2 hfew hrt hrok hxs hxo hxr hr hx t0 t1 t2c n0c
   have KEEP := WI.out.below (Below.refl _ _).drew |>.hold HR.out HX.out
   dsimp only at KEEP
   go_upto_region 3 with fail
   refine (wpIn_wide (n := 9)).1 ?_
   refine region_S 31 #[false, false, false, false, false, false, false, false, false, false, false, false, false, false, false, false, false, false, false, false, false, false, false, false, false, false, false, false, false, false, false] (by kernel_rfl) (by kernel_rfl) (fun w' => w'.cell? ⟨bW, 0, none⟩ = some (.int .i64 N) ∧ w'.cell? ⟨bW, 1, none⟩ = some (.int .i64 D) ∧ w'.cell? ⟨bW, 3, none⟩ = some (.slice (some ⟨bT, 0, none⟩) n n) ∧ w'.cell? ⟨bW, 4, none⟩ = some (.slice (some ⟨bN, 0, none⟩) n n) ∧ w'.cell? ⟨bW, 5, none⟩ = some (.int .i64 f) ∧ w'.cell? ⟨bT, i * 3, none⟩ = some (.slice pu nu cu) ∧ w'.cell? ⟨bT, i * 3 + 1, none⟩ = some (.slice pg ng cg) ∧ w'.cell? ⟨bT, i * 3 + 2, none⟩ = some (.slice pa na ca) ∧ w'.cell? ⟨bN, i, none⟩ = some (.slice xp xn xc)) 30 _ (fun _ _ h => h) (fun _ => trivial) (by kernel_rfl) ?x1s (fun hHeld hClo => ?x1r)
   case x1s => exact KEEP
   refine tS 0 19 ?_
   clear hClo
   intro hClo
   refine tS 1 20 ?_
   clear hClo
   intro hClo
   refine tS 2 21 ?_
   clear hClo
   intro hClo
   refine tS 3 22 ?_
   clear hClo
   intro hClo
   refine tS 4 23 ?_
   clear hClo
   intro hClo
   refine tS 5 24 ?_
   clear hClo
   intro hClo
   refine tS 6 25 ?_
   clear hClo
   intro hClo
   refine tS 7 26 ?_
   clear hClo
   intro hClo
   refine tS 8 27 ?_
   clear hClo
   intro hClo
   refine tS 9 28 ?_
   clear hClo
   intro hClo
   refine tS 10 29 ?_
   clear hClo
   intro hClo
   refine tS 11 30 ?_
   clear hClo
   intro hClo
   refine tS 12 31 ?_
   clear hClo
   intro hClo
   refine tS 13 32 ?_
   clear hClo
   intro hClo
   refine tS 14 33 ?_
   clear hClo
   intro hClo
   refine tS 15 34 ?_
   clear hClo
   intro hClo
   refine tS 16 35 ?_
   clear hClo
   intro hClo
   refine tS 17 36 ?_
   clear hClo
   intro hClo
   refine tS 18 37 ?_
   clear hClo
   intro hClo
   refine tS 19 38 ?_
   clear hClo
   intro hClo
   refine tS 20 39 ?_
   clear hClo
   intro hClo
   refine tS 21 40 ?_
   clear hClo
   intro hClo
   refine tS 22 41 ?_
   clear hClo
   intro hClo
   refine tS 23 42 ?_
   clear hClo
   intro hClo
   refine tS 24 43 ?_
   clear hClo
   intro hClo
   refine tS 25 44 ?_
   clear hClo
   intro hClo
   refine tS 26 45 ?_
   clear hClo
   intro hClo
   refine tS 27 46 ?_
   clear hClo
   intro hClo
   refine wpS_one (i := 28) (by kernel_rfl) rfl hClo (fun K hK => ?_)
   rw [if_pos (by rfl)]
   go_simp
   refine ⟨trivial, callsIn_wide.2 ((tak_any (.slice pu nu cu) (.slice pg ng cg) (.slice pa na ca) rt.us rt.gs rt.ks N D i f (.slice xp xn xc) xl _ (ROK.out.below (Below.refl _ _).drew).1 (ROK.out.below (Below.refl _ _).drew).2.1 (ROK.out.below (Below.refl _ _).drew).2.2 (by have := HL2.out.1; omega) (by have := HL2.out.1; omega) (by have := HL2.out.2; omega) (SlT.below HXS.out (Below.refl _ _).drew) (HXO.out.below (Below.refl _ _).drew) HFEW.out.1 HFEW.out.2 f0 (by omega)).mono ?_)⟩
   rintro e w2 ⟨v1, v2, v3, rfl, e1, e2, e3, hb⟩
   have HTE : takF N D ⟨rt.us, rt.gs, rt.ks⟩ i (xl.map Nr.b) f = t2 := by rw [← HT2.out, ← RT.out, ← HXR.out]
   rw [HTE] at e1 e2 e3
   clear HTE
   obtain ⟨ya1, ma1, ka1, rfl⟩ := e1.slc
   obtain ⟨ya2, ma2, ka2, rfl⟩ := e2.slc
   obtain ⟨ya3, ma3, ka3, rfl⟩ := e3.slc
   have WI2 := Lib.hid ((WI.out.below (Below.refl _ _).drew).below hb)
   have BI2 := Lib.hid ((BI.out.below (Below.refl _ _).drew).below hb)
   have EU := Lib.hid e1
   have EG := Lib.hid e2
   have EA := Lib.hid e3
   clear e1 e2 e3 hb
   have KEEP2 := WI2.out.hold HR.out HX.out
   dsimp only at KEEP2
   refine hK _ _ (fun _ => KEEP2) ?_
   clear hK K hHeld
   intro hH0
   have hHeld := hH0 (by kernel_rfl)
   clear hH0
   (intro hN; clear hClo; have hClo := hN; clear hN)
   try simp only [Act.put, List.setIfInBounds_toArray, List.set_cons_zero, List.set_cons_succ]
   refine tS 29 48 ?_
   clear hClo
   intro hClo
   obtain ⟨_, _, _, _, _, t0, t1, t2c, _⟩ := KEEP2
   have fT := WI2.out.oT.frozen
   have zT := WI2.out.oT.lt
   refine wpS_one (i := 30) (by kernel_rfl) rfl hClo (fun K hK => ?_)
   rw [if_pos (by rfl)]
   go_simp
   refine hK _ _ (fun e => absurd (e.symm.trans (by kernel_rfl : _ = true)) (by decide)) ?_
   clear hK K hHeld
   intro hH0
   clear hH0
   (intro hN; clear hClo; have hClo := hN; clear hN)
   try simp only [Act.put, List.setIfInBounds_toArray, List.set_cons_zero, List.set_cons_succ]
   have WI3 := Lib.hid (show Wrd w0 bW bT bN N D n vh f (updF Ti i t2) Ri (ti.set i (⟨t2, ⟨ya1, ma1, ka1⟩, ⟨ya2, ma2, ka2⟩, ⟨ya3, ma3, ka3⟩⟩ : Tr)) ni (((w2.setCell ⟨bT, i * 3, none⟩ (.slice ya1 ma1 ka1)).setCell ⟨bT, i * 3 + 1, none⟩ (.slice ya2 ma2 ka2)).setCell ⟨bT, i * 3 + 2, none⟩ (.slice ya3 ma3 ka3)) from WI2.out.setT n8 hlt (⟨t2, ⟨ya1, ma1, ka1⟩, ⟨ya2, ma2, ka2⟩, ⟨ya3, ma3, ka3⟩⟩ : Tr) ⟨EU.out, EG.out, EA.out⟩)
   have BI3 := Lib.hid (show Bex w bT bN (((w2.setCell ⟨bT, i * 3, none⟩ (.slice ya1 ma1 ka1)).setCell ⟨bT, i * 3 + 1, none⟩ (.slice ya2 ma2 ka2)).setCell ⟨bT, i * 3 + 2, none⟩ (.slice ya3 ma3 ka3)) from ((BI2.out.set _ _).set _ _).set _ _)
   generalize (((w2.setCell ⟨bT, i * 3, none⟩ (.slice ya1 ma1 ka1)).setCell ⟨bT, i * 3 + 1, none⟩ (.slice ya2 ma2 ka2)).setCell ⟨bT, i * 3 + 2, none⟩ (.slice ya3 ma3 ka3)) = w3 at WI3 BI3 ⊢
   refine wpS_done (by kernel_rfl) ?_ _
   clear hClo
   clear t0 t1 t2c fT zT WI2 BI2 EU EG EA WI BI
   gi_wp2
   have HRQ := Lib.hid (show (ti.set i (⟨t2, ⟨ya1, ma1, ka1⟩, ⟨ya2, ma2, ka2⟩, ⟨ya3, ma3, ka3⟩⟩ : Tr))[i]? = some (⟨t2, ⟨ya1, ma1, ka1⟩, ⟨ya2, ma2, ka2⟩, ⟨ya3, ma3, ka3⟩⟩ : Tr) from by rw [List.getElem?_set]; simp [(List.getElem?_eq_some_iff.1 HR.out).1])
   obtain ⟨k0, k1, k3, k4, k5, t0, t1, t2c, n0c⟩ := WI3.out.hold HRQ.out HX.out
   dsimp only at t0 t1 t2c n0c
   have zW := WI3.out.oW.lt
   have zT := WI3.out.oT.lt
   go_wp2_with fail
   have WI4 := Lib.hid (WI3.out.below (belowNew w3 (Obj.cells #[.slice ya1 ma1 ka1, .slice ya2 ma2 ka2, .slice ya3 ma3 ka3] 43)))
   have BI4 := Lib.hid (BI3.out.below (belowNew w3 (Obj.cells #[.slice ya1 ma1 ka1, .slice ya2 ma2 ka2, .slice ya3 ma3 ka3] 43)))
   have O7 := Lib.hid (show Own (w3.alloc (Obj.cells #[.slice ya1 ma1 ka1, .slice ya2 ma2 ka2, .slice ya3 ma3 ka3] 43)) w3.heap.size [.slice ya1 ma1 ka1, .slice ya2 ma2 ka2, .slice ya3 ma3 ka3] 43 from own_at _ _ rfl)
   have LT7 := Lib.hid (show bN < w3.heap.size from WI3.out.oN.lt)
   clear k0 k1 k3 k4 k5 t0 t1 t2c n0c zW zT WI3 BI3
   generalize w3.alloc (Obj.cells #[.slice ya1 ma1 ka1, .slice ya2 ma2 ka2, .slice ya3 ma3 ka3] 43) = w4 at WI4 BI4 O7 ⊢
   obtain ⟨b7, hb7⟩ : ∃ b7, w3.heap.size = b7 := ⟨_, rfl⟩
   rw [hb7] at O7 LT7 ⊢
   clear hb7
   have K0 := Lib.hid (show FrK w0 bW bT bN N D n vh f (updF Ti i t2) (notA 0 H i (⟨f, i, t2.us, t2.gs, t2.ks⟩ : Nb) Ri) (ti.set i (⟨t2, ⟨ya1, ma1, ka1⟩, ⟨ya2, ma2, ka2⟩, ⟨ya3, ma3, ka3⟩⟩ : Tr)) b7 [.slice ya1 ma1 ka1, .slice ya2 ma2 ka2, .slice ya3 ma3 ka3] w w4 from ⟨⟨ni, by rw [notA_zero]; exact WI4.out⟩, BI4.out, O7.out⟩)
   clear WI4 BI4 O7
   go_loopw [61] (fun kk wz => ∃ k : Nat, k ≤ n ∧ kk = .int .i64 k ∧ FrK w0 bW bT bN N D n vh f (updF Ti i t2) (notA k H i (⟨f, i, t2.us, t2.gs, t2.ks⟩ : Nb) Ri) (ti.set i (⟨t2, ⟨ya1, ma1, ka1⟩, ⟨ya2, ma2, ka2⟩, ⟨ya3, ma3, ka3⟩⟩ : Tr)) b7 [.slice ya1 ma1 ka1, .slice ya2 ma2 ka2, .slice ya3 ma3 ka3] w wz) (fun kk _ => n - (intOf kk).toNat)
   case atStart => exact ⟨0, by omega, rfl, K0.out⟩
   case round =>
    clear K0
    obtain ⟨k, hk, rfl, ⟨nk, hwk⟩, hbk, ho7⟩ := hrel
    have WK := Lib.hid hwk
    have BK := Lib.hid hbk
    have O7 := Lib.hid ho7
    clear hwk hbk ho7
    have k0 : (0 : Int) ≤ (k : Int) := Int.natCast_nonneg _
    by_cases hlt2 : k < n
    ·have k1 : (k : Int) < (n : Int) := by omega
     cases hik : ((k : Int) != (i : Int)) with
     | false =>
      have HSK := Lib.hid (notA_skip (H := H) (b := (⟨f, i, t2.us, t2.gs, t2.ks⟩ : Nb)) (R := Ri) (i := i) (k := k) (fun c => c.1 (by have h8 : (k : Int) = (i : Int) := (by simpa using hik); omega)))
      go_wp2_with fail
      go_roundw
      case rel => exact ⟨k + 1, by omega, by go_num, ⟨nk, by rw [HSK.out]; exact WK.out⟩, BK.out, O7.out⟩
      case measure => simp [intOf]; omega
     | true =>
      have HIK := Lib.hid (show k ≠ i from by have h8 : ¬ ((k : Int) = (i : Int)) := (by simpa using hik); omega)
      obtain ⟨h, bh, offh, hh, hvp, hbh, hbh0, g0⟩ := SlT.atH HH.out.sl WK.out.bel (i := k) (by rw [HH.out.len]; exact hlt2)
      have hvn : vh.n = n := (SlT.len_eq HH.out.sl).trans HH.out.len
      have HHO := Lib.hid (HH.out.ok h (mem_of_at hh))
      have HHR := Lib.hid (HH.out.row h (mem_of_at hh))
      have HHH := Lib.hid (HHE.out k h hh)
      obtain ⟨hrow, ⟨hp', hn', hc'⟩⟩ := h
      obtain ⟨is, bb, offb, his, hbp, hbb, _, g1⟩ := SlT.atB HHO.out WK.out.bel (i := i) (by have := HHR.out; dsimp only at this ⊢; omega)
      have hn'n : hn' = n := (SlT.len_eq HHO.out).trans HHR.out
      dsimp only at hbp g0
      subst hbp hn'n
      have HIS := Lib.hid (HHH.out i is his)
      have c2 : wr.cell? ⟨bW, 2, none⟩ = some (.slice (some ⟨bh, offh, none⟩) hn' vh.c) := by have h9 := WK.out.oW.cell (i := 2) rfl; rw [hvp, hvn] at h9; exact h9
      have zW := WK.out.oW.lt
      clear hh his hvp hvn
      cases hisv : is with
      | false =>
       subst hisv
       have HSK := Lib.hid (notA_skip (H := H) (b := (⟨f, i, t2.us, t2.gs, t2.ks⟩ : Nb)) (R := Ri) (i := i) (k := k) (by rw [HIS.out]; simp))
       go_wp2_with fail
       go_roundw
       case rel => exact ⟨k + 1, by omega, by go_num, ⟨nk, by rw [HSK.out]; exact WK.out⟩, BK.out, O7.out⟩
       case measure => simp [intOf]; omega
      | true =>
       subst hisv
       have HSTP := Lib.hid (notA_step (H := H) (b := (⟨f, i, t2.us, t2.gs, t2.ks⟩ : Nb)) (R := Ri) (i := i) (k := k) ⟨HIK.out, HIS.out⟩)
       obtain ⟨y, hy, hys, hyo, hyr, _⟩ := WK.out.nearAt hlt2
       rw [notA_at] at hyr
       have hyf := few_of INV.out hlt2 (by omega) hyr
       have HTO := Lib.hid (WK.out.tab i (⟨t2, ⟨ya1, ma1, ka1⟩, ⟨ya2, ma2, ka2⟩, ⟨ya3, ma3, ka3⟩⟩ : Tr) HRQ.out).2
       obtain ⟨u0, u1, u2, f7, z7⟩ := own3 O7.out
       have HYF := Lib.hid hyf
       have HYS := Lib.hid hys
       have HYO := Lib.hid hyo
       have HYR := Lib.hid hyr
       have HY := Lib.hid hy
       clear hy hys hyo hyr hyf
       go_wp2_with fail
       refine (not_any bW bN hn' hn' k N D vh ⟨some ⟨bT, 0, none⟩, hn', hn'⟩ y.v (nk.map Nv.v) y.l (⟨(⟨f, i, t2.us, t2.gs, t2.ks⟩ : Nb), ⟨ya1, ma1, ka1⟩, ⟨ya2, ma2, ka2⟩, ⟨ya3, ma3, ka3⟩⟩ : Nr) _ WK.out.oW WK.out.oN (by rw [List.length_map, WK.out.ln]) (by rw [List.getElem?_map, HY.out]; rfl) HYS.out HYO.out HTO.out HYF.out.1 (by omega) WK.out.d2).mono ?_
       rintro e w5 ⟨rfl, s5, l5, hN5, hS5, hO5, hM5, hB5⟩
       have W5 := WK.out.noted (by omega) (i := k) ⟨l5, s5⟩ hS5 hO5 hN5 hB5
       dsimp only at W5
       have W6 := Lib.hid (show Wrd w0 bW bT bN N D hn' vh f (updF Ti i t2) (notA (k + 1) H i (⟨f, i, t2.us, t2.gs, t2.ks⟩ : Nb) Ri) (ti.set i (⟨t2, ⟨ya1, ma1, ka1⟩, ⟨ya2, ma2, ka2⟩, ⟨ya3, ma3, ka3⟩⟩ : Tr)) (nk.set k ⟨l5, s5⟩) w5 from by rw [HSTP.out, ← HYR.out, ← hM5]; exact W5)
       have B6 := Lib.hid (BK.out.belo hB5)
       have O76 := Lib.hid (hB5.own O7.out O7.out.lt (by have := LT7.out; omega))
       clear W5 hN5 hS5 hO5 hM5 hB5 u0 u1 u2 f7 z7
       go_wp2_with fail
       go_roundw
       case rel => exact ⟨k + 1, by omega, by go_num, ⟨_, W6.out⟩, B6.out, O76.out⟩
       case measure => simp [intOf]; omega
    ·obtain rfl : k = n := by omega
     have HWE := Lib.hid (show Wrd w0 bW bT bN N D k vh f (ph1 N D k H f T R (i + 1)).1 (ph1 N D k H f T R (i + 1)).2 (ti.set i (⟨t2, ⟨ya1, ma1, ka1⟩, ⟨ya2, ma2, ka2⟩, ⟨ya3, ma3, ka3⟩⟩ : Tr)) nk wr from by rw [HST1.out, HST2.out]; exact WK.out)
     go_wp2_with fail
     go_roundw
     case rel => exact ⟨i + 1, by omega, by go_num, ⟨_, _, HWE.out⟩, BK.out⟩
     case measure => simp [intOf]; omega
  ·have INV1 := Lib.hid (ph1_inv (H := H) (f := f) HI.out n (Nat.le_refl _)).1
   have WN0 : Wrd w0 bW bT bN N D n vh f (ph1 N D n H f T R n).1 (ph1 N D n H f T R n).2 ti ni wr := by
    have h9 := WI.out
    rwa [show i = n by omega] at h9
   have HFT := Lib.hid (show frmT N D n H f (fun i => (ps[i]?).getD 0) (fun i => (ms[i]?).getD 0) T R = (fun i => if i < n then ph2 N D f (fun i => (ps[i]?).getD 0) (fun i => (ms[i]?).getD 0) (ph1 N D n H f T R n).1 (ph1 N D n H f T R n).2 i else T i) from rfl)
   have HFR := Lib.hid (show frmR N D n H f T R = (ph1 N D n H f T R n).2 from rfl)
   obtain ⟨T1, hT1⟩ : ∃ T1, (ph1 N D n H f T R n).1 = T1 := ⟨_, rfl⟩
   obtain ⟨R1, hR1⟩ : ∃ R1, (ph1 N D n H f T R n).2 = R1 := ⟨_, rfl⟩
   rw [hT1, hR1] at WN0 HFT INV1
   rw [hR1] at HFR
   clear hT1 hR1
   have J0 := Lib.hid (show FrI w0 bW bT bN N D n vh f (ph2N N D f (fun i => (ps[i]?).getD 0) (fun i => (ms[i]?).getD 0) T1 R1 0) R1 w wr from ⟨⟨ti, ni, WN0.congr (fun i _ => ph2N_zero) (fun _ _ => rfl)⟩, BI.out⟩)
   have zW := WI.out.oW.lt
   obtain ⟨w0c, w1c, w2c, w3c, w4c, w5c, _, _⟩ := own6 WI.out.oW
   clear WN0
   go_wp2_with fail
   clear zW w0c w1c w2c w3c w4c w5c WI BI
   go_loopw [97] (fun ii wz => ∃ i : Nat, i ≤ n ∧ ii = .int .i64 i ∧ FrI w0 bW bT bN N D n vh f (ph2N N D f (fun i => (ps[i]?).getD 0) (fun i => (ms[i]?).getD 0) T1 R1 i) R1 w wz) (fun ii _ => n - (intOf ii).toNat)
   case atStart => exact ⟨0, by omega, rfl, J0.out⟩
   case round =>
    clear J0 hi hlt i0
    obtain ⟨i, hi, rfl, ⟨ti, ni, hwi⟩, hbi⟩ := hrel
    have WI := Lib.hid hwi
    have BI := Lib.hid hbi
    clear hwi hbi
    have i0 : (0 : Int) ≤ (i : Int) := Int.natCast_nonneg _
    by_cases hlt : i < n
    ·have i1 : (i : Int) < (n : Int) := by omega
     obtain ⟨r, hr, hrt, hrok, _, _, _⟩ := WI.out.tabAt hlt
     obtain ⟨x, hx, hxs, hxo, hxr, _⟩ := WI.out.nearAt hlt
     rw [ph2N_at] at hrt
     obtain ⟨rt, ⟨pu, nu, cu⟩, ⟨pg, ng, cg⟩, ⟨pa, na, ca⟩⟩ := r
     obtain ⟨xl, ⟨xp, xn, xc⟩⟩ := x
     dsimp only at hrt hrok hxs hxo hxr
     subst hrt
     have hval := INV1.out.val i hlt
     obtain ⟨Y, hY⟩ : ∃ Y, yldF (T1 i) i (R1 i) f = Y := ⟨_, rfl⟩
     obtain ⟨G, hG⟩ : ∃ G, grtF N D Y i (R1 i) f = G := ⟨_, rfl⟩
     have hvY := yld_val (me := i) (f := f) (ns := R1 i) hval
     rw [hY] at hvY
     have hvG := grt_val (me := i) (f := f) (ns := R1 i) hvY
     rw [hG] at hvG
     have HL2 := Lib.hid (us_len hval)
     have HLY := Lib.hid (us_len hvY)
     have HLG := Lib.hid (us_len hvG)
     have HFEW := Lib.hid (few_of INV1.out hlt (by omega) hxr)
     have ROK := Lib.hid hrok
     have HXS := Lib.hid hxs
     have HXO := Lib.hid hxo
     have HXR := Lib.hid hxr
     have HR := Lib.hid hr
     have HX := Lib.hid hx
     have HY := Lib.hid hY
     have HG := Lib.hid hG
     have HPW := BI.out.ints HP.out HW.out.oT HW.out.oN (flat_slices _) (svs_slices _)
     have HMW := BI.out.ints HM.out HW.out.oT HW.out.oN (flat_slices _) (svs_slices _)
     obtain ⟨pi, bp, offp, hpi, rfl, zp, _, p0c⟩ := SlT.atI HPW (Below.refl _ _) (i := i) (by rw [HPL.out]; exact hlt)
     obtain ⟨mi, bm, offm, hmi, rfl, zm, _, m0c⟩ := SlT.atI HMW (Below.refl _ _) (i := i) (by rw [HML.out]; exact hlt)
     have HPI := Lib.hid (show ((fun i => (ps[i]?).getD 0)) i = pi from by simp [hpi])
     have HMI := Lib.hid (show ((fun i => (ms[i]?).getD 0)) i = mi from by simp [hmi])
     have hmi12 : mi ≤ 12 := H12.out mi (mem_of_at hmi)
     have P0 := Lib.hid p0c
     have M0 := Lib.hid m0c
     clear hval hvY hvG hrok hxs hxo hxr hr hx hY hG HPW HMW hpi hmi p0c m0c
     have KEEP := WI.out.below (Below.refl _ _).drew |>.hold HR.out HX.out
     dsimp only at KEEP
     go_upto_region 15 with fail
     go_cut [10] from 98 to 170 (fun s wx => ∃ (bZ : Nat) (su sg sa : Sv), s = .pointer (some ⟨bZ, 0, none⟩) ∧ Own wx bZ [.slice su.p su.n su.c, .slice sg.p sg.n sg.c, .slice sa.p sa.n sa.c] 43 ∧ SlU wx (.slice su.p su.n su.c) Y.us ∧ SlG wx (.slice sg.p sg.n sg.c) Y.gs ∧ SlA wx (.slice sa.p sa.n sa.c) Y.ks ∧ wr.heap.size ≤ bZ ∧ Below wr.heap.size wr wx)
     case first =>
      refine (wpIn_wide (n := 9)).1 ?_
      refine region_S 22 #[false, false, false, false, false, false, false, false, false, false, false, false, false, false, false, false, false, false, false, false, false, false] (by kernel_rfl) (by kernel_rfl) (fun w' => w'.cell? ⟨bW, 0, none⟩ = some (.int .i64 N) ∧ w'.cell? ⟨bW, 1, none⟩ = some (.int .i64 D) ∧ w'.cell? ⟨bW, 3, none⟩ = some (.slice (some ⟨bT, 0, none⟩) n n) ∧ w'.cell? ⟨bW, 4, none⟩ = some (.slice (some ⟨bN, 0, none⟩) n n) ∧ w'.cell? ⟨bW, 5, none⟩ = some (.int .i64 f) ∧ w'.cell? ⟨bT, i * 3, none⟩ = some (.slice pu nu cu) ∧ w'.cell? ⟨bT, i * 3 + 1, none⟩ = some (.slice pg ng cg) ∧ w'.cell? ⟨bT, i * 3 + 2, none⟩ = some (.slice pa na ca) ∧ w'.cell? ⟨bN, i, none⟩ = some (.slice xp xn xc)) 21 _ (fun _ _ h => h) (fun _ => trivial) (by kernel_rfl) ?x31s (fun hHeld hClo => ?x31r)
      case x31s => exact KEEP
      refine tS 0 100 ?_
      clear hClo
      intro hClo
      refine tS 1 101 ?_
      clear hClo
      intro hClo
      refine tS 2 102 ?_
      clear hClo
      intro hClo
      refine tS 3 103 ?_
      clear hClo
      intro hClo
      refine tS 4 104 ?_
      clear hClo
      intro hClo
      refine tS 5 105 ?_
      clear hClo
      intro hClo
      refine tS 6 106 ?_
      clear hClo
      intro hClo
      refine tS 7 107 ?_
      clear hClo
      intro hClo
      refine tS 8 108 ?_
      clear hClo
      intro hClo
      refine tS 9 109 ?_
      clear hClo
      intro hClo
      refine tS 10 110 ?_
      clear hClo
      intro hClo
      refine tS 11 111 ?_
      clear hClo
      intro hClo
      refine tS 12 112 ?_
      clear hClo
      intro hClo
      refine tS 13 113 ?_
      clear hClo
      intro hClo
      refine tS 14 114 ?_
      clear hClo
      intro hClo
      refine tS 15 115 ?_
      clear hClo
      intro hClo
      refine tS 16 116 ?_
      clear hClo
      intro hClo
      refine tS 17 117 ?_
      clear hClo
      intro hClo
      refine tS 18 118 ?_
      clear hClo
      intro hClo
      refine wpS_two (i := 19) (j := 20) (by kernel_rfl) rfl rfl hClo (fun K hK => ?ya) (fun K hK => ?yb)
      case ya =>
       rw [if_pos (by rfl)]
       go_simp
       refine ⟨trivial, callsIn_wide.2 ((yld_any (.slice pu nu cu) (.slice pg ng cg) (.slice pa na ca) (T1 i).us (T1 i).gs (T1 i).ks i f (.slice xp xn xc) xl _ (ROK.out.below (Below.refl _ _).drew).1 (ROK.out.below (Below.refl _ _).drew).2.1 (ROK.out.below (Below.refl _ _).drew).2.2 (by have := HL2.out.1; omega) (by have := HL2.out.1; omega) (by have := HL2.out.2; omega) (SlT.below HXS.out (Below.refl _ _).drew) (HXO.out.below (Below.refl _ _).drew) f0 (by omega)).mono ?_)⟩
       rintro e w2 ⟨v1, v2, v3, rfl, e1, e2, e3, hb⟩
       have HYE : yldF ⟨(T1 i).us, (T1 i).gs, (T1 i).ks⟩ i (xl.map Nr.b) f = Y := by rw [← HY.out, ← HXR.out]
       rw [HYE] at e1 e2 e3
       clear HYE
       obtain ⟨ya1, ma1, ka1, rfl⟩ := e1.slc
       obtain ⟨ya2, ma2, ka2, rfl⟩ := e2.slc
       obtain ⟨ya3, ma3, ka3, rfl⟩ := e3.slc
       have BW2 := Lib.hid ((Below.refl _ _).drew.trans hb : Below wr.heap.size wr w2)
       have EU := Lib.hid e1
       have EG := Lib.hid e2
       have EA := Lib.hid e3
       clear e1 e2 e3 hb
       have KEEP2 := (WI.out.below BW2.out).hold HR.out HX.out
       dsimp only at KEEP2
       refine hK _ _ (fun _ => KEEP2) ?_
       clear hK K hHeld
       intro hH0
       have hHeld := hH0 (by kernel_rfl)
       clear hH0
       (intro hN; clear hClo; have hClo := hN; clear hN)
       try simp only [Act.put, List.setIfInBounds_toArray, List.set_cons_zero, List.set_cons_succ]
       refine wpS_one (i := 20) (by kernel_rfl) rfl hClo (fun K hK => ?_)
       rw [if_pos (by rfl)]
       go_simp
       have KEEP3 := (WI.out.below (BW2.out.trans ((belowNew w2 (Obj.cells #[.slice none 0 0, .slice none 0 0, .slice none 0 0] 43)).mono BW2.out.size))).hold HR.out HX.out
       dsimp only at KEEP3
       refine hK _ _ (fun _ => KEEP3) ?_
       clear hK K hHeld
       intro hH0
       have hHeld := hH0 (by kernel_rfl)
       clear hH0
       (intro hN; clear hClo; have hClo := hN; clear hN)
       try simp only [Act.put, List.setIfInBounds_toArray, List.set_cons_zero, List.set_cons_succ]
       refine wpS_one (i := 21) (by kernel_rfl) rfl hClo (fun K hK => ?_)
       rw [if_pos (by rfl)]
       go_simp
       refine hK _ _ (fun e => absurd (e.symm.trans (by kernel_rfl : _ = true)) (by decide)) ?_
       clear hK K hHeld
       intro hH0
       clear hH0
       (intro hN; clear hClo; have hClo := hN; clear hN)
       try simp only [Act.put, List.setIfInBounds_toArray, List.set_cons_zero, List.set_cons_succ]
       refine wpS_done (by kernel_rfl) ?_ _
       clear hClo
       gi_wp2
       go_meet
       exact ⟨w2.heap.size, ⟨ya1, ma1, ka1⟩, ⟨ya2, ma2, ka2⟩, ⟨ya3, ma3, ka3⟩, rfl, own_at _ _ rfl, SlT.below EU.out (belowNew _ _), SlT.below EG.out (belowNew _ _), SlT.below EA.out (belowNew _ _), BW2.out.size, BW2.out.trans ((belowNew w2 _).mono BW2.out.size)⟩
      case yb =>
       rw [if_pos (by rfl)]
       go_simp
       have ON := Lib.hid (show Own (wr.alloc (Obj.cells #[.slice none 0 0, .slice none 0 0, .slice none 0 0] 43)).drew wr.heap.size [.slice none 0 0, .slice none 0 0, .slice none 0 0] 43 from (own_at _ _ rfl).drew)
       have BA := Lib.hid (show Below wr.heap.size wr (wr.alloc (Obj.cells #[.slice none 0 0, .slice none 0 0, .slice none 0 0] 43)).drew from (belowNew wr (Obj.cells #[.slice none 0 0, .slice none 0 0, .slice none 0 0] 43)).drew)
       generalize (wr.alloc (Obj.cells #[.slice none 0 0, .slice none 0 0, .slice none 0 0] 43)).drew = wA at ON BA ⊢
       have KEEP2 := (WI.out.below BA.out).hold HR.out HX.out
       dsimp only at KEEP2
       refine hK _ _ (fun _ => KEEP2) ?_
       clear hK K hHeld
       intro hH0
       have hHeld := hH0 (by kernel_rfl)
       clear hH0
       (intro hN; clear hClo; have hClo := hN; clear hN)
       try simp only [Act.put, List.setIfInBounds_toArray, List.set_cons_zero, List.set_cons_succ]
       refine wpS_one (i := 19) (by kernel_rfl) rfl hClo (fun K hK => ?_)
       rw [if_pos (by rfl)]
       go_simp
       refine ⟨trivial, callsIn_wide.2 ((yld_any (.slice pu nu cu) (.slice pg ng cg) (.slice pa na ca) (T1 i).us (T1 i).gs (T1 i).ks i f (.slice xp xn xc) xl _ (ROK.out.below BA.out).1 (ROK.out.below BA.out).2.1 (ROK.out.below BA.out).2.2 (by have := HL2.out.1; omega) (by have := HL2.out.1; omega) (by have := HL2.out.2; omega) (SlT.below HXS.out BA.out) (HXO.out.below BA.out) f0 (by omega)).mono ?_)⟩
       rintro e w2 ⟨v1, v2, v3, rfl, e1, e2, e3, hb⟩
       have HYE : yldF ⟨(T1 i).us, (T1 i).gs, (T1 i).ks⟩ i (xl.map Nr.b) f = Y := by rw [← HY.out, ← HXR.out]
       rw [HYE] at e1 e2 e3
       clear HYE
       obtain ⟨ya1, ma1, ka1, rfl⟩ := e1.slc
       obtain ⟨ya2, ma2, ka2, rfl⟩ := e2.slc
       obtain ⟨ya3, ma3, ka3, rfl⟩ := e3.slc
       have BW2 := Lib.hid (belowTo BA.out hb BA.out.size)
       have EU := Lib.hid e1
       have EG := Lib.hid e2
       have EA := Lib.hid e3
       have OZ2 := ON.out.below hb
       clear e1 e2 e3 hb
       have KEEP3 := (WI.out.below BW2.out).hold HR.out HX.out
       dsimp only at KEEP3
       refine hK _ _ (fun _ => KEEP3) ?_
       clear hK K hHeld
       intro hH0
       have hHeld := hH0 (by kernel_rfl)
       clear hH0
       (intro hN; clear hClo; have hClo := hN; clear hN)
       try simp only [Act.put, List.setIfInBounds_toArray, List.set_cons_zero, List.set_cons_succ]
       obtain ⟨o0, o1, o2, fO, zO⟩ := own3 OZ2
       refine wpS_one (i := 21) (by kernel_rfl) rfl hClo (fun K hK => ?_)
       rw [if_pos (by rfl)]
       go_simp
       refine hK _ _ (fun e => absurd (e.symm.trans (by kernel_rfl : _ = true)) (by decide)) ?_
       clear hK K hHeld
       intro hH0
       clear hH0
       (intro hN; clear hClo; have hClo := hN; clear hN)
       try simp only [Act.put, List.setIfInBounds_toArray, List.set_cons_zero, List.set_cons_succ]
       refine wpS_done (by kernel_rfl) ?_ _
       clear hClo
       gi_wp2
       go_meet
       exact ⟨wr.heap.size, ⟨ya1, ma1, ka1⟩, ⟨ya2, ma2, ka2⟩, ⟨ya3, ma3, ka3⟩, rfl, own_set3 OZ2, SlT.set3 EU.out numU OZ2 (.slice ya1 ma1 ka1) (.slice ya2 ma2 ka2) (.slice ya3 ma3 ka3), SlT.set3 EG.out numG OZ2 (.slice ya1 ma1 ka1) (.slice ya2 ma2 ka2) (.slice ya3 ma3 ka3), SlT.set3 EA.out numA OZ2 (.slice ya1 ma1 ka1) (.slice ya2 ma2 ka2) (.slice ya3 ma3 ka3), Nat.le_refl _, below_set3 BW2.out (Nat.le_refl _)⟩
     case rest =>
      obtain ⟨bZ, su, sg, sa, rfl, oz, e1, e2, e3, hbz, hbw⟩ := hcut
      have OZ := Lib.hid oz
      have EU := Lib.hid e1
      have EG := Lib.hid e2
      have EA := Lib.hid e3
      have BW := Lib.hid hbw
      clear oz e1 e2 e3 hbw KEEP
      go_upto_region 16 with fail
      obtain ⟨z0, z1, z2, _, _⟩ := own3 OZ.out.drew
      obtain ⟨k0, k1, k3, k4, k5, _, _, _, n0c⟩ := (WI.out.below BW.out.drew).hold HR.out HX.out
      dsimp only at n0c
      have KEEP := And.intro k0 (And.intro k1 (And.intro k3 (And.intro k4 (And.intro k5 (And.intro n0c (And.intro z0 (And.intro z1 z2)))))))
      clear k0 k1 k3 k4 k5 n0c z0 z1 z2
      refine (wpIn_wide (n := 9)).1 ?_
      refine region_S 19 #[false, false, false, false, false, false, false, false, false, false, false, false, false, false, false, false, false, false, false] (by kernel_rfl) (by kernel_rfl) (fun w' => w'.cell? ⟨bW, 0, none⟩ = some (.int .i64 N) ∧ w'.cell? ⟨bW, 1, none⟩ = some (.int .i64 D) ∧ w'.cell? ⟨bW, 3, none⟩ = some (.slice (some ⟨bT, 0, none⟩) n n) ∧ w'.cell? ⟨bW, 4, none⟩ = some (.slice (some ⟨bN, 0, none⟩) n n) ∧ w'.cell? ⟨bW, 5, none⟩ = some (.int .i64 f) ∧ w'.cell? ⟨bN, i, none⟩ = some (.slice xp xn xc) ∧ w'.cell? ⟨bZ, 0, none⟩ = some (.slice su.p su.n su.c) ∧ w'.cell? ⟨bZ, 1, none⟩ = some (.slice sg.p sg.n sg.c) ∧ w'.cell? ⟨bZ, 2, none⟩ = some (.slice sa.p sa.n sa.c)) 18 _ (fun _ _ h => h) (fun _ => trivial) (by kernel_rfl) ?x51s (fun hHeld hClo => ?x51r)
      case x51s => exact KEEP
      refine tS 0 120 ?_
      clear hClo
      intro hClo
      refine tS 1 121 ?_
      clear hClo
      intro hClo
      refine tS 2 122 ?_
      clear hClo
      intro hClo
      refine tS 3 123 ?_
      clear hClo
      intro hClo
      refine tS 4 124 ?_
      clear hClo
      intro hClo
      refine tS 5 125 ?_
      clear hClo
      intro hClo
      refine tS 6 126 ?_
      clear hClo
      intro hClo
      refine tS 7 127 ?_
      clear hClo
      intro hClo
      refine tS 8 128 ?_
      clear hClo
      intro hClo
      refine tS 9 129 ?_
      clear hClo
      intro hClo
      refine tS 10 130 ?_
      clear hClo
      intro hClo
      refine tS 11 131 ?_
      clear hClo
      intro hClo
      refine tS 12 132 ?_
      clear hClo
      intro hClo
      refine tS 13 133 ?_
      clear hClo
      intro hClo
      refine tS 14 134 ?_
      clear hClo
      intro hClo
      refine tS 15 135 ?_
      clear hClo
      intro hClo
      refine tS 16 136 ?_
      clear hClo
      intro hClo
      refine wpS_one (i := 17) (by kernel_rfl) rfl hClo (fun K hK => ?_)
      rw [if_pos (by rfl)]
      go_simp
      refine ⟨trivial, callsIn_wide.2 ((grt_any (.slice su.p su.n su.c) (.slice sg.p sg.n sg.c) (.slice sa.p sa.n sa.c) Y.us Y.gs Y.ks N D i f (.slice xp xn xc) xl _ (SlT.below EU.out (Below.refl _ _).drew) (SlT.below EG.out (Below.refl _ _).drew) (SlT.below EA.out (Below.refl _ _).drew) (by have := HLY.out.1; omega) (by have := HLY.out.1; omega) (by have := HLY.out.2; omega) (SlT.below HXS.out BW.out.drew) (HXO.out.below BW.out.drew) HFEW.out.1 HFEW.out.2 f0 (by omega)).mono ?_)⟩
      rintro e w2 ⟨v1, v2, v3, rfl, e1, e2, e3, hb⟩
      have HGE : grtF N D ⟨Y.us, Y.gs, Y.ks⟩ i (xl.map Nr.b) f = G := by rw [← HG.out, ← HXR.out]
      rw [HGE] at e1 e2 e3
      clear HGE
      obtain ⟨yb1, mb1, kb1, rfl⟩ := e1.slc
      obtain ⟨yb2, mb2, kb2, rfl⟩ := e2.slc
      obtain ⟨yb3, mb3, kb3, rfl⟩ := e3.slc
      have BW2 := Lib.hid (belowTo (BW.out.drew) hb (by rw [World.size_drew]; exact BW.out.size))
      have OZ2 := Lib.hid ((OZ.out.drew).below hb)
      have EU2 := Lib.hid e1
      have EG2 := Lib.hid e2
      have EA2 := Lib.hid e3
      clear e1 e2 e3 hb EU EG EA
      obtain ⟨o0, o1, o2, fO, zO⟩ := own3 OZ2.out
      obtain ⟨k0, k1, k3, k4, k5, _, _, _, n0c⟩ := (WI.out.below BW2.out).hold HR.out HX.out
      dsimp only at n0c
      have KEEP2 := And.intro k0 (And.intro k1 (And.intro k3 (And.intro k4 (And.intro k5 (And.intro n0c (And.intro o0 (And.intro o1 o2)))))))
      clear k0 k1 k3 k4 k5 n0c
      refine hK _ _ (fun _ => KEEP2) ?_
      clear hK K hHeld
      intro hH0
      have hHeld := hH0 (by kernel_rfl)
      clear hH0
      (intro hN; clear hClo; have hClo := hN; clear hN)
      try simp only [Act.put, List.setIfInBounds_toArray, List.set_cons_zero, List.set_cons_succ]
      refine wpS_one (i := 18) (by kernel_rfl) rfl hClo (fun K hK => ?_)
      rw [if_pos (by rfl)]
      go_simp
      refine hK _ _ (fun e => absurd (e.symm.trans (by kernel_rfl : _ = true)) (by decide)) ?_
      clear hK K hHeld
      intro hH0
      clear hH0
      (intro hN; clear hClo; have hClo := hN; clear hN)
      try simp only [Act.put, List.setIfInBounds_toArray, List.set_cons_zero, List.set_cons_succ]
      refine wpS_done (by kernel_rfl) ?_ _
      clear hClo
      clear o0 o1 o2 fO zO
      have OZ3 := Lib.hid (show Own (((w2.setCell ⟨bZ, 0, none⟩ (.slice yb1 mb1 kb1)).setCell ⟨bZ, 1, none⟩ (.slice yb2 mb2 kb2)).setCell ⟨bZ, 2, none⟩ (.slice yb3 mb3 kb3)) bZ [.slice yb1 mb1 kb1, .slice yb2 mb2 kb2, .slice yb3 mb3 kb3] 43 from own_set3 OZ2.out)
      have EU := Lib.hid (SlT.set3 EU2.out numU OZ2.out (.slice yb1 mb1 kb1) (.slice yb2 mb2 kb2) (.slice yb3 mb3 kb3))
      have EG := Lib.hid (SlT.set3 EG2.out numG OZ2.out (.slice yb1 mb1 kb1) (.slice yb2 mb2 kb2) (.slice yb3 mb3 kb3))
      have EA := Lib.hid (SlT.set3 EA2.out numA OZ2.out (.slice yb1 mb1 kb1) (.slice yb2 mb2 kb2) (.slice yb3 mb3 kb3))
      have BW3 := Lib.hid (show Below wr.heap.size wr (((w2.setCell ⟨bZ, 0, none⟩ (.slice yb1 mb1 kb1)).setCell ⟨bZ, 1, none⟩ (.slice yb2 mb2 kb2)).setCell ⟨bZ, 2, none⟩ (.slice yb3 mb3 kb3)) from below_set3 BW2.out hbz)
      clear OZ OZ2 EU2 EG2 EA2 BW BW2
      generalize (((w2.setCell ⟨bZ, 0, none⟩ (.slice yb1 mb1 kb1)).setCell ⟨bZ, 1, none⟩ (.slice yb2 mb2 kb2)).setCell ⟨bZ, 2, none⟩ (.slice yb3 mb3 kb3)) = w3 at OZ3 EU EG EA BW3 ⊢
      gi_wp2
      go_upto_region 17 with fail
      have BW3D := BW3.out.drew
      obtain ⟨z0, z1, z2, _, _⟩ := own3 OZ3.out.drew
      obtain ⟨k0, k1, k3, k4, k5, _, _, _, n0c⟩ := (WI.out.below BW3D).hold HR.out HX.out
      dsimp only at n0c
      have KEEP := And.intro k0 (And.intro k1 (And.intro k3 (And.intro k4 (And.intro k5 (And.intro n0c (And.intro z0 (And.intro z1 (And.intro z2 (And.intro ((BW3D.cell zp).trans P0.out) ((BW3D.cell zm).trans M0.out))))))))))
      clear k0 k1 k3 k4 k5 n0c z0 z1 z2 BW3D
      refine (wpIn_wide (n := 9)).1 ?_
      refine region_S 33 #[false, false, false, false, false, false, false, false, false, false, false, false, false, false, false, false, false, false, false, false, false, false, false, false, false, false, false, false, false, false, false, false, false] (by kernel_rfl) (by kernel_rfl) (fun w' => w'.cell? ⟨bW, 0, none⟩ = some (.int .i64 N) ∧ w'.cell? ⟨bW, 1, none⟩ = some (.int .i64 D) ∧ w'.cell? ⟨bW, 3, none⟩ = some (.slice (some ⟨bT, 0, none⟩) n n) ∧ w'.cell? ⟨bW, 4, none⟩ = some (.slice (some ⟨bN, 0, none⟩) n n) ∧ w'.cell? ⟨bW, 5, none⟩ = some (.int .i64 f) ∧ w'.cell? ⟨bN, i, none⟩ = some (.slice xp xn xc) ∧ w'.cell? ⟨bZ, 0, none⟩ = some (.slice yb1 mb1 kb1) ∧ w'.cell? ⟨bZ, 1, none⟩ = some (.slice yb2 mb2 kb2) ∧ w'.cell? ⟨bZ, 2, none⟩ = some (.slice yb3 mb3 kb3) ∧ w'.cell? ⟨bp, offp + i, none⟩ = some (.int .i64 pi) ∧ w'.cell? ⟨bm, offm + i, none⟩ = some (.int .i64 mi)) 32 _ (fun _ _ h => h) (fun _ => trivial) (by kernel_rfl) ?x69s (fun hHeld hClo => ?x69r)
      case x69s => exact KEEP
      refine tS 0 138 ?_
      clear hClo
      intro hClo
      refine tS 1 139 ?_
      clear hClo
      intro hClo
      refine tS 2 140 ?_
      clear hClo
      intro hClo
      refine tS 3 141 ?_
      clear hClo
      intro hClo
      refine tS 4 142 ?_
      clear hClo
      intro hClo
      refine tS 5 143 ?_
      clear hClo
      intro hClo
      refine tS 6 144 ?_
      clear hClo
      intro hClo
      refine tS 7 145 ?_
      clear hClo
      intro hClo
      refine tS 8 146 ?_
      clear hClo
      intro hClo
      refine tS 9 147 ?_
      clear hClo
      intro hClo
      refine tS 10 148 ?_
      clear hClo
      intro hClo
      refine tS 11 149 ?_
      clear hClo
      intro hClo
      refine tS 12 150 ?_
      clear hClo
      intro hClo
      refine tS 13 151 ?_
      clear hClo
      intro hClo
      refine tS 14 152 ?_
      clear hClo
      intro hClo
      refine tS 15 153 ?_
      clear hClo
      intro hClo
      refine tS 16 154 ?_
      clear hClo
      intro hClo
      refine tS 17 155 ?_
      clear hClo
      intro hClo
      refine tS 18 156 ?_
      clear hClo
      intro hClo
      refine tS 19 157 ?_
      clear hClo
      intro hClo
      refine tS 20 158 ?_
      clear hClo
      intro hClo
      refine tS 21 159 ?_
      clear hClo
      intro hClo
      refine tS 22 160 ?_
      clear hClo
      intro hClo
      refine tS 23 161 ?_
      clear hClo
      intro hClo
      refine tS 24 162 ?_
      clear hClo
      intro hClo
      refine tS 25 163 ?_
      clear hClo
      intro hClo
      refine tS 26 164 ?_
      clear hClo
      intro hClo
      refine tS 27 165 ?_
      clear hClo
      intro hClo
      refine tS 28 166 ?_
      clear hClo
      intro hClo
      refine tS 29 167 ?_
      clear hClo
      intro hClo
      refine wpS_one (i := 30) (by kernel_rfl) rfl hClo (fun K hK => ?_)
      rw [if_pos (by rfl)]
      go_simp
      refine ⟨trivial, callsIn_wide.2 ((ask_any (.slice yb1 mb1 kb1) (.slice yb2 mb2 kb2) (.slice yb3 mb3 kb3) G.us G.gs G.ks N D i f pi mi (.slice xp xn xc) xl _ (SlT.below EU.out (Below.refl _ _).drew) (SlT.below EG.out (Below.refl _ _).drew) (SlT.below EA.out (Below.refl _ _).drew) (by have := HLG.out.1; omega) (by have := HLG.out.1; omega) (by have := HLG.out.2; omega) (SlT.below HXS.out BW3.out.drew) (HXO.out.below BW3.out.drew) HFEW.out.1 HFEW.out.2 f0 (by omega) hmi12).mono ?_)⟩
      rintro e w4 ⟨v1, v2, v3, rfl, e1, e2, e3, hb⟩
      obtain ⟨A, hA⟩ : ∃ A, ph2 N D f (fun i => (ps[i]?).getD 0) (fun i => (ms[i]?).getD 0) T1 R1 i = A := ⟨_, rfl⟩
      have HAE : askF N D ⟨G.us, G.gs, G.ks⟩ i (xl.map Nr.b) pi mi f = A := by rw [← hA, ← HPI.out, ← HMI.out, HXR.out, ← HG.out, ← HY.out]; rfl
      have HA := Lib.hid hA
      clear hA
      rw [HAE] at e1 e2 e3
      clear HAE
      obtain ⟨ya1, ma1, ka1, rfl⟩ := e1.slc
      obtain ⟨ya2, ma2, ka2, rfl⟩ := e2.slc
      obtain ⟨ya3, ma3, ka3, rfl⟩ := e3.slc
      have BW4 := Lib.hid (belowTo (BW3.out.drew) hb (by rw [World.size_drew]; exact BW3.out.size))
      have hb4 := Lib.hid hb
      have EU := Lib.hid e1
      have EG := Lib.hid e2
      have EA := Lib.hid e3
      clear e1 e2 e3 hb
      have WI4 := Lib.hid (WI.out.below BW4.out)
      have BI4 := Lib.hid (BI.out.below BW4.out)
      have OZ4 := OZ3.out.drew.below hb4.out
      obtain ⟨z0, z1, z2, _, _⟩ := own3 OZ4
      obtain ⟨k0, k1, k3, k4, k5, t0, t1, t2c, n0c⟩ := WI4.out.hold HR.out HX.out
      dsimp only at t0 t1 t2c n0c
      have KEEP4 := And.intro k0 (And.intro k1 (And.intro k3 (And.intro k4 (And.intro k5 (And.intro n0c (And.intro z0 (And.intro z1 (And.intro z2 (And.intro ((BW4.out.cell zp).trans P0.out) ((BW4.out.cell zm).trans M0.out))))))))))
      clear k0 k1 k3 k4 k5 n0c z0 z1 z2 OZ4
      have fT := WI4.out.oT.frozen
      have zT := WI4.out.oT.lt
      refine hK _ _ (fun _ => KEEP4) ?_
      clear hK K hHeld
      intro hH0
      have hHeld := hH0 (by kernel_rfl)
      clear hH0
      (intro hN; clear hClo; have hClo := hN; clear hN)
      try simp only [Act.put, List.setIfInBounds_toArray, List.set_cons_zero, List.set_cons_succ]
      refine tS 31 169 ?_
      clear hClo
      intro hClo
      refine wpS_one (i := 32) (by kernel_rfl) rfl hClo (fun K hK => ?_)
      rw [if_pos (by rfl)]
      go_simp
      refine hK _ _ (fun e => absurd (e.symm.trans (by kernel_rfl : _ = true)) (by decide)) ?_
      clear hK K hHeld
      intro hH0
      clear hH0
      (intro hN; clear hClo; have hClo := hN; clear hN)
      try simp only [Act.put, List.setIfInBounds_toArray, List.set_cons_zero, List.set_cons_succ]
      have WI5 := Lib.hid (show Wrd w0 bW bT bN N D n vh f (updF (ph2N N D f (fun i => (ps[i]?).getD 0) (fun i => (ms[i]?).getD 0) T1 R1 i) i A) R1 (ti.set i (⟨A, ⟨ya1, ma1, ka1⟩, ⟨ya2, ma2, ka2⟩, ⟨ya3, ma3, ka3⟩⟩ : Tr)) ni (((w4.setCell ⟨bT, i * 3, none⟩ (.slice ya1 ma1 ka1)).setCell ⟨bT, i * 3 + 1, none⟩ (.slice ya2 ma2 ka2)).setCell ⟨bT, i * 3 + 2, none⟩ (.slice ya3 ma3 ka3)) from WI4.out.setT n8 hlt (⟨A, ⟨ya1, ma1, ka1⟩, ⟨ya2, ma2, ka2⟩, ⟨ya3, ma3, ka3⟩⟩ : Tr) ⟨EU.out, EG.out, EA.out⟩)
      have BI5 := Lib.hid (show Bex w bT bN (((w4.setCell ⟨bT, i * 3, none⟩ (.slice ya1 ma1 ka1)).setCell ⟨bT, i * 3 + 1, none⟩ (.slice ya2 ma2 ka2)).setCell ⟨bT, i * 3 + 2, none⟩ (.slice ya3 ma3 ka3)) from ((BI4.out.set _ _).set _ _).set _ _)
      generalize (((w4.setCell ⟨bT, i * 3, none⟩ (.slice ya1 ma1 ka1)).setCell ⟨bT, i * 3 + 1, none⟩ (.slice ya2 ma2 ka2)).setCell ⟨bT, i * 3 + 2, none⟩ (.slice ya3 ma3 ka3)) = w5 at WI5 BI5 ⊢
      refine wpS_done (by kernel_rfl) ?_ _
      clear hClo
      clear t0 t1 t2c fT zT WI4 BI4 EU EG EA KEEP4
      have HWE := Lib.hid (show Wrd w0 bW bT bN N D n vh f (ph2N N D f (fun i => (ps[i]?).getD 0) (fun i => (ms[i]?).getD 0) T1 R1 (i + 1)) R1 (ti.set i (⟨A, ⟨ya1, ma1, ka1⟩, ⟨ya2, ma2, ka2⟩, ⟨ya3, ma3, ka3⟩⟩ : Tr)) ni w5 from by rw [ph2N_step, HA.out]; exact WI5.out)
      gi_wp2
      go_wp2_with fail
      go_roundw
      case rel => exact ⟨i + 1, by omega, by go_num, ⟨_, _, HWE.out⟩, BI5.out⟩
      case measure => simp [intOf]; omega
    ·have HEND := Lib.hid (show ∃ ts ns, Wrd w0 bW bT bN N D n vh (f + 1) (frmT N D n H f (fun i => (ps[i]?).getD 0) (fun i => (ms[i]?).getD 0) T R) (frmR N D n H f T R) ts ns (wr.setCell ⟨bW, 5, none⟩ (.int .i64 (f + 1))) from ⟨ti, ni, (WI.out.congr (fun j hj => by rw [HFT.out]; exact ph2N_end (by omega) hj) (fun j hj => by rw [HFR.out])).setF⟩)
     have wF : IntKind.i64.wrap (f + 1) = f + 1 := IntWalk.i64_in _ (by omega)
     have zW := WI.out.oW.lt
     have fW := WI.out.oW.frozen
     obtain ⟨w0c, w1c, w2c, w3c, w4c, w5c, _, _⟩ := own6 WI.out.oW
     go_wp2_with fail
     first | (refine bodyPost_end (results_none rfl _ _ _) rfl ?_; exact ⟨rfl, HEND.out⟩) | (refine bodyPost_ret (results_none rfl _ _ _) rfl ?_; exact ⟨rfl, HEND.out⟩)
end Go.Proofs.YtmopiifamopidaaGreat
end
section
namespace Go.Proofs.YtmopiifamopidaaGreat
open Go.RowKit
attribute [local go_sem] Oper.semAt_some
theorem made_rep (z : Array Value) (c : Value) (h0 : 0 < z.size) (h : ∀ i, i < z.size → z[i]! = c) (n : Nat) : (madeCells z n).toList = List.replicate n c := by
 refine List.eq_replicate_iff.2 ⟨by simp [madeCells], fun b hb => ?_⟩
 simp only [madeCells, Array.toList_map, List.mem_map] at hb
 obtain ⟨i, _, rfl⟩ := hb
 exact h _ (Nat.mod_lt _ h0)
theorem infoM_tab : (Tryz.prog.info? 43).map (fun i => (i.zero, i.size, i.bytes)) = some (some (.agg #[.slice none 0 0, .slice none 0 0, .slice none 0 0]), 3, 72) := by kernel_rfl
theorem mk_tab (l : Nat) (hl : l ≤ 60) (w : World) : (Instr.makeSlice 32 (.int .i64 (l : Int)) (.int .i64 (l : Int))).run Tryz.prog w = .ok (.slice (some ⟨w.heap.size, 0, none⟩) l l) (w.alloc (.cells (List.replicate (l * 3) (.slice none 0 0)).toArray 43)) := by
 obtain ⟨i0, hi, hz, hs0, hb0⟩ := info_parts infoM_tab
 have h := run_make w 32 43 i0 (.agg #[.slice none 0 0, .slice none 0 0, .slice none 0 0]) (by kernel_rfl) hi hz .i64 .i64 (l : Int) (l : Int) (by omega) (by omega) (by rw [hb0]; omega) (by omega)
 rw [h]
 have e : madeCells (Value.cells (.agg #[.slice none 0 0, .slice none 0 0, .slice none 0 0])) (((l : Int)).toNat * i0.size) = (List.replicate (l * 3) (.slice none 0 0)).toArray := by
  rw [hs0]
  apply Array.ext'
  rw [made_rep (Value.cells (.agg #[.slice none 0 0, .slice none 0 0, .slice none 0 0])) (.slice none 0 0) (by decide) (by intro i hi; have hi' : i < 3 := hi; match i, hi' with
   | 0, _ => rfl
   | 1, _ => rfl
   | 2, _ => rfl)]
  simp
 rw [e]
 simp
theorem infoM_near : (Tryz.prog.info? 56).map (fun i => (i.zero, i.size, i.bytes)) = some (some (.slice none 0 0), 1, 24) := by kernel_rfl
theorem mk_near (l : Nat) (hl : l ≤ 60) (w : World) : (Instr.makeSlice 33 (.int .i64 (l : Int)) (.int .i64 (l : Int))).run Tryz.prog w = .ok (.slice (some ⟨w.heap.size, 0, none⟩) l l) (w.alloc (.cells (List.replicate (l * 1) (.slice none 0 0)).toArray 56)) := by
 obtain ⟨i0, hi, hz, hs0, hb0⟩ := info_parts infoM_near
 have h := run_make w 33 56 i0 (.slice none 0 0) (by kernel_rfl) hi hz .i64 .i64 (l : Int) (l : Int) (by omega) (by omega) (by rw [hb0]; omega) (by omega)
 rw [h]
 have e : madeCells (Value.cells (.slice none 0 0)) (((l : Int)).toNat * i0.size) = (List.replicate (l * 1) (.slice none 0 0)).toArray := by
  rw [hs0]
  apply Array.ext'
  rw [made_rep (Value.cells (.slice none 0 0)) (.slice none 0 0) (by decide) (by intro i hi; have hi' : i < 1 := hi; match i, hi' with
   | 0, _ => rfl)]
  simp
 rw [e]
 simp
theorem build_yields {P : Program} {o : Oper} {ρ : Operand → Value} {w : World} (t : TypeId) (parts : Array (Nat × Operand)) (cells : Array Value) (ho : o.op = .build t parts) (hc : P.built t (parts.map fun (i, x) => (i, ρ x)).toList = some cells) :
  (execOp ρ o).run P w = .ok (.value (.agg cells)) w := by
 unfold execOp
 simp only [ho, Sem.run_bind, run_build w t _ cells hc, Result.andThen_ok]
 rfl
def nilSv : Sv := ⟨none, 0, 0⟩
theorem flat_nil (n : Nat) : flatT trL (List.replicate n ⟨⟨[], [], []⟩, nilSv, nilSv, nilSv⟩) = List.replicate (n * 3) (.slice none 0 0) := by
 refine List.eq_replicate_iff.2 ⟨by rw [flatT_len, List.length_replicate]; rfl, fun b hb => ?_⟩
 simp only [flatT, List.mem_flatMap] at hb
 obtain ⟨r, hr, hb⟩ := hb
 rw [(List.mem_replicate.1 hr).2] at hb
 have h : b ∈ [Value.slice none 0 0, .slice none 0 0, .slice none 0 0] := hb
 simp only [List.mem_cons, List.not_mem_nil, or_false, or_self] at h
 exact h
def Nw7P (N D : Int) (n : Nat) (vh : Sv) (w : World) (e : Ending) (w' : World) : Prop := ∃ bW bT bN, e = .returned (.pointer (some ⟨bW, 0, none⟩)) ∧ ∃ ts ns, Wrd w bW bT bN N D n vh 0 (fun _ => ⟨[], [], []⟩) (fun _ => []) ts ns w'
theorem wrd_new {w0 w : World} {bW bT bN n : Nat} {N D : Int} {vh : Sv} (oW : Own w bW [.int .i64 N, .int .i64 D, .slice vh.p vh.n vh.c, .slice (some ⟨bT, 0, none⟩) n n, .slice (some ⟨bN, 0, none⟩) n n, .int .i64 0] 35) (oT : Own w bT (List.replicate (n * 3) (.slice none 0 0)) 43) (oN : Own w bN (List.replicate n (.slice none 0 0)) 56) (bel : Below w0.heap.size w0 w) (b1 : w0.heap.size ≤ bW) (b2 : w0.heap.size ≤ bT) (b3 : w0.heap.size ≤ bN) (d1 : bW ≠ bT) (d2 : bW ≠ bN) (d3 : bT ≠ bN) :
  Wrd w0 bW bT bN N D n vh 0 (fun _ => ⟨[], [], []⟩) (fun _ => []) (List.replicate n ⟨⟨[], [], []⟩, nilSv, nilSv, nilSv⟩) (List.replicate n ⟨[], nilSv⟩) w := by
 refine ⟨oW, by rw [flat_nil]; exact oT, ?_, List.length_replicate, List.length_replicate, fun i r hr => ?_, fun i x hx => ?_, bel, b1, b2, b3, d1, d2, d3⟩
 ·rw [List.map_replicate, List.map_replicate]; exact oN
 ·rw [List.getElem?_replicate] at hr
  split at hr
  ·obtain rfl := Option.some.inj hr
   exact ⟨rfl, slt_nil0 _ _, slt_nil0 _ _, slt_nil0 _ _⟩
  ·cases hr
 ·rw [List.getElem?_replicate] at hx
  split at hx
  ·obtain rfl := Option.some.inj hx
   exact ⟨slt_nil0 _ _, fun r hr => by simp at hr, rfl⟩
  ·cases hx
set_option maxRecDepth 100000 in
set_option maxHeartbeats 8000000 in
theorem nw7_any (D : Int) (n : Nat) (vh : Sv) (w : World) (n8 : n ≤ 8) :
  Calls Tryz.prog 5 #[.int .i64 n, .int .i64 D, .slice vh.p vh.n vh.c] w (Nw7P n D n vh w) := by
 go_enter Tryz.func5, Tryz.ntmps5
 have mT := fun w => mk_tab n (by omega) w
 have mN := fun w => mk_near n (by omega) w
 go_upto_region 1 with fail
 refine (wpIn_wide (n := 9)).1 ?_
 refine region_S 11 #[false, false, false, false, false, false, false, false, false, false, false] (by kernel_rfl) (by kernel_rfl) (fun _ => True) 11 _ (fun _ _ h => h) (fun _ => trivial) (by kernel_rfl) ?x1s (fun hHeld hClo => ?x1r)
 case x1s => exact trivial
 refine tS 0 7 ?_
 clear hClo
 intro hClo
 refine tS 1 8 ?_
 clear hClo
 intro hClo
 refine wpS_take (i := 2) (some 9) 60 (v := .agg #[.int .i64 n, .int .i64 D]) (fun _ => trivial) (by kernel_rfl) rfl (by kernel_rfl) (by kernel_rfl) (by kernel_rfl) (by kernel_rfl) rfl (Or.inl ⟨by rfl, ?x4y⟩) hHeld hClo ?x4r
 case x4y => (intro wBld hSw; exact build_yields 31 #[(0, .tmp 7), (1, .tmp 8)] #[.int .i64 n, .int .i64 D] rfl (by kernel_rfl))
 (intro hN; clear hClo; have hClo := hN; clear hN)
 try simp only [Act.put, List.setIfInBounds_toArray, List.set_cons_zero, List.set_cons_succ]
 refine tS 3 10 ?_
 clear hClo
 intro hClo
 refine tS 4 11 ?_
 clear hClo
 intro hClo
 refine tS 6 13 ?_
 clear hClo
 intro hClo
 refine wpS_two (i := 5) (j := 7) (by kernel_rfl) rfl rfl hClo (fun K hK => ?ya) (fun K hK => ?yb)
 case ya =>
  rw [if_pos (by rfl)]
  go_simp
  refine hK _ _ (fun _ => trivial) ?_
  clear hK K hHeld
  intro hH0
  have hHeld := hH0 (by kernel_rfl)
  clear hH0
  (intro hN; clear hClo; have hClo := hN; clear hN)
  try simp only [Act.put, List.setIfInBounds_toArray, List.set_cons_zero, List.set_cons_succ]
  refine wpS_one (i := 7) (by kernel_rfl) rfl hClo (fun K hK => ?_)
  rw [if_pos (by rfl)]
  go_simp
  refine hK _ _ (fun _ => trivial) ?_
  clear hK K hHeld
  intro hH0
  have hHeld := hH0 (by kernel_rfl)
  clear hH0
  (intro hN; clear hClo; have hClo := hN; clear hN)
  try simp only [Act.put, List.setIfInBounds_toArray, List.set_cons_zero, List.set_cons_succ]
  refine wpS_take (i := 8) (some 15) 60 (v := .agg #[.int .i64 n, .int .i64 D, .slice vh.p vh.n vh.c, .slice (some ⟨w.heap.size, 0, none⟩) n n, .slice (some ⟨w.heap.size + 1, 0, none⟩) n n, .int .i64 0]) (fun _ => trivial) (by kernel_rfl) rfl (by kernel_rfl) (by kernel_rfl) (by kernel_rfl) (by kernel_rfl) rfl (Or.inl ⟨by rfl, ?x8y⟩) hHeld hClo ?x8r
  case x8y => (intro wBld hSw; exact build_yields 35 #[(0, .tmp 9), (1, .tmp 10), (2, .tmp 12), (3, .tmp 14)] #[.int .i64 n, .int .i64 D, .slice vh.p vh.n vh.c, .slice (some ⟨w.heap.size, 0, none⟩) n n, .slice (some ⟨w.heap.size + 1, 0, none⟩) n n, .int .i64 0] rfl (by kernel_rfl))
  (intro hN; clear hClo; have hClo := hN; clear hN)
  try simp only [Act.put, List.setIfInBounds_toArray, List.set_cons_zero, List.set_cons_succ]
  refine wpS_one (i := 9) (by kernel_rfl) rfl hClo (fun K hK => ?_)
  rw [if_pos (by rfl)]
  go_simp
  refine hK _ _ (fun _ => trivial) ?_
  clear hK K hHeld
  intro hH0
  have hHeld := hH0 (by kernel_rfl)
  clear hH0
  (intro hN; clear hClo; have hClo := hN; clear hN)
  try simp only [Act.put, List.setIfInBounds_toArray, List.set_cons_zero, List.set_cons_succ]
  refine tS 10 6 ?_
  clear hClo
  intro hClo
  refine wpS_done (by kernel_rfl) ?_ _
  clear hClo
  gi_wp2
  go_wp2_with fail
  clear mT mN
  go_ret
  exact ⟨w.heap.size + 1 + 1, w.heap.size, w.heap.size + 1, rfl, _, _, wrd_new (own_at _ _ (by simp)).drew (((own_at _ _ rfl).alloc _).alloc _).drew ((own_at _ _ (by simp)).alloc _).drew (((belowNew w _).alloc (by simp) _).alloc (by simp; omega) _).drew (by omega) (by omega) (by omega) (by omega) (by omega) (by omega)⟩
 case yb =>
  rw [if_pos (by rfl)]
  go_simp
  refine hK _ _ (fun _ => trivial) ?_
  clear hK K hHeld
  intro hH0
  have hHeld := hH0 (by kernel_rfl)
  clear hH0
  (intro hN; clear hClo; have hClo := hN; clear hN)
  try simp only [Act.put, List.setIfInBounds_toArray, List.set_cons_zero, List.set_cons_succ]
  refine wpS_one (i := 5) (by kernel_rfl) rfl hClo (fun K hK => ?_)
  rw [if_pos (by rfl)]
  go_simp
  refine hK _ _ (fun _ => trivial) ?_
  clear hK K hHeld
  intro hH0
  have hHeld := hH0 (by kernel_rfl)
  clear hH0
  (intro hN; clear hClo; have hClo := hN; clear hN)
  try simp only [Act.put, List.setIfInBounds_toArray, List.set_cons_zero, List.set_cons_succ]
  refine wpS_take (i := 8) (some 15) 60 (v := .agg #[.int .i64 n, .int .i64 D, .slice vh.p vh.n vh.c, .slice (some ⟨w.heap.size + 1, 0, none⟩) n n, .slice (some ⟨w.heap.size, 0, none⟩) n n, .int .i64 0]) (fun _ => trivial) (by kernel_rfl) rfl (by kernel_rfl) (by kernel_rfl) (by kernel_rfl) (by kernel_rfl) rfl (Or.inl ⟨by rfl, ?x10y⟩) hHeld hClo ?x10r
  case x10y => (intro wBld hSw; exact build_yields 35 #[(0, .tmp 9), (1, .tmp 10), (2, .tmp 12), (3, .tmp 14)] #[.int .i64 n, .int .i64 D, .slice vh.p vh.n vh.c, .slice (some ⟨w.heap.size + 1, 0, none⟩) n n, .slice (some ⟨w.heap.size, 0, none⟩) n n, .int .i64 0] rfl (by kernel_rfl))
  (intro hN; clear hClo; have hClo := hN; clear hN)
  try simp only [Act.put, List.setIfInBounds_toArray, List.set_cons_zero, List.set_cons_succ]
  refine wpS_one (i := 9) (by kernel_rfl) rfl hClo (fun K hK => ?_)
  rw [if_pos (by rfl)]
  go_simp
  refine hK _ _ (fun _ => trivial) ?_
  clear hK K hHeld
  intro hH0
  have hHeld := hH0 (by kernel_rfl)
  clear hH0
  (intro hN; clear hClo; have hClo := hN; clear hN)
  try simp only [Act.put, List.setIfInBounds_toArray, List.set_cons_zero, List.set_cons_succ]
  refine tS 10 6 ?_
  clear hClo
  intro hClo
  refine wpS_done (by kernel_rfl) ?_ _
  clear hClo
  gi_wp2
  go_wp2_with fail
  clear mT mN
  go_ret
  exact ⟨w.heap.size + 1 + 1, w.heap.size + 1, w.heap.size, rfl, _, _, wrd_new (own_at _ _ (by simp)).drew ((own_at _ _ (by simp)).alloc _).drew (((own_at _ _ rfl).alloc _).alloc _).drew (((belowNew w _).alloc (by simp) _).alloc (by simp; omega) _).drew (by omega) (by omega) (by omega) (by omega) (by omega) (by omega)⟩
end Go.Proofs.YtmopiifamopidaaGreat
end
section
namespace Go.Proofs.YtmopiifamopidaaGreat
open Go.RowKit
attribute [local go_sem] Oper.semAt_some
theorem infoM_bb : (Tryz.prog.info? 46).map (fun i => (i.zero, i.size, i.bytes)) = some (some (.slice none 0 0), 1, 24) := by kernel_rfl
theorem mk_bb (l : Nat) (hl : l ≤ 60) (w : World) : (Instr.makeSlice 22 (.int .i64 (l : Int)) (.int .i64 (l : Int))).run Tryz.prog w = .ok (.slice (some ⟨w.heap.size, 0, none⟩) l l) (w.alloc (.cells (List.replicate (l * 1) (.slice none 0 0)).toArray 46)) := by
 obtain ⟨i0, hi, hz, hs0, hb0⟩ := info_parts infoM_bb
 have h := run_make w 22 46 i0 (.slice none 0 0) (by kernel_rfl) hi hz .i64 .i64 (l : Int) (l : Int) (by omega) (by omega) (by rw [hb0]; omega) (by omega)
 rw [h]
 have e : madeCells (Value.cells (.slice none 0 0)) (((l : Int)).toNat * i0.size) = (List.replicate (l * 1) (.slice none 0 0)).toArray := by
  rw [hs0]
  apply Array.ext'
  rw [made_rep (Value.cells (.slice none 0 0)) (.slice none 0 0) (by decide) (by intro i hi; have hi' : i < 1 := hi; match i, hi' with
   | 0, _ => rfl)]
  simp
 rw [e]
 simp
theorem infoM_bo : (Tryz.prog.info? 4).map (fun i => (i.zero, i.size, i.bytes)) = some (some (.bool false), 1, 1) := by kernel_rfl
theorem mk_bo (l : Nat) (hl : l ≤ 60) (w : World) : (Instr.makeSlice 46 (.int .i64 (l : Int)) (.int .i64 (l : Int))).run Tryz.prog w = .ok (.slice (some ⟨w.heap.size, 0, none⟩) l l) (w.alloc (.cells (List.replicate (l * 1) (.bool false)).toArray 4)) := by
 obtain ⟨i0, hi, hz, hs0, hb0⟩ := info_parts infoM_bo
 have h := run_make w 46 4 i0 (.bool false) (by kernel_rfl) hi hz .i64 .i64 (l : Int) (l : Int) (by omega) (by omega) (by rw [hb0]; omega) (by omega)
 rw [h]
 have e : madeCells (Value.cells (.bool false)) (((l : Int)).toNat * i0.size) = (List.replicate (l * 1) (.bool false)).toArray := by
  rw [hs0]
  apply Array.ext'
  rw [made_rep (Value.cells (.bool false)) (.bool false) (by decide) (by intro i hi; have hi' : i < 1 := hi; match i, hi' with
   | 0, _ => rfl)]
  simp
 rw [e]
 simp
def rwF {α : Type} (n : Nat) (g : Nat → α) : List α := (List.range n).map g
theorem rwF_len {α : Type} (n : Nat) (g : Nat → α) : (rwF n g).length = n := by simp [rwF]
theorem rwF_at {α : Type} {n i : Nat} (g : Nat → α) (h : i < n) : (rwF n g)[i]? = some (g i) := by simp [rwF, h]
theorem rwF_some {α : Type} {n i : Nat} {g : Nat → α} {x : α} (h : (rwF n g)[i]? = some x) : i < n ∧ x = g i := by
 have hl := (List.getElem?_eq_some_iff.1 h).1
 rw [rwF_len] at hl
 rw [rwF_at g hl] at h
 exact ⟨hl, (Option.some.inj h).symm⟩
theorem rwF_congr {α : Type} {n : Nat} {g g' : Nat → α} (h : ∀ i, i < n → g i = g' i) : rwF n g = rwF n g' := List.map_congr_left fun i hi => h i (List.mem_range.1 hi)
theorem rwF_set {α : Type} {n i : Nat} (g : Nat → α) (v : α) (h : i < n) : (rwF n g).set i v = rwF n (updF g i v) := by
 apply List.ext_getElem?
 intro j
 rw [List.getElem?_set]
 by_cases e : i = j
 ·subst e
  rw [if_pos rfl, if_pos (by rw [rwF_len]; exact h), rwF_at _ h]
  unfold updF; rw [if_pos rfl]
 ·rw [if_neg e]
  by_cases hj : j < n
  ·rw [rwF_at _ hj, rwF_at _ hj]
   unfold updF; rw [if_neg (fun e' => e e'.symm)]
  ·rw [List.getElem?_eq_none (by rw [rwF_len]; omega), List.getElem?_eq_none (by rw [rwF_len]; omega)]
theorem rwF_rep {α : Type} (n : Nat) (g : Nat → α) (z : α) (h : ∀ i, i < n → g i = z) : rwF n g = List.replicate n z := by
 refine List.eq_replicate_iff.2 ⟨rwF_len _ _, fun b hb => ?_⟩
 simp only [rwF, List.mem_map, List.mem_range] at hb
 obtain ⟨i, hi, rfl⟩ := hb
 exact h i hi
theorem slt_full {α : Type} {L : Lay α} {w : World} {b n : Nat} {l : List α} {t : TypeId} (o : Own w b (flatT L l) t) (hl : l.length = n) (hn : n ≤ 60) : SlT L w (.slice (some ⟨b, 0, none⟩) n n) l := by
 subst hl
 refine ⟨_, _, by rw [List.length_map], by rw [List.length_map]; exact Nat.le_refl _, by unfold maxLen; omega, (fun e => by cases e), fun i cs hi => ⟨b, 0, rfl, o.lt, fun j x hx => ?_⟩⟩
 rw [List.getElem?_map] at hi
 cases ha : l[i]? with
 | none => rw [ha] at hi; cases hi
 | some a =>
  rw [ha] at hi
  obtain rfl : L.f a = cs := by simpa using hi
  rw [Nat.zero_add]
  exact o.cell (flatT_at ha hx)
def rwV (n b : Nat) : Value := .slice (some ⟨b, 0, none⟩) n n
structure SyI (w : World) (n bO : Nat) (B : Nat → Nat) (F : Nat → Nat → Bool) (m : Nat) (wz : World) : Prop where
 o : Own wz bO (rwF n fun i => if i < m then rwV n (B i) else .slice none 0 0) 46
 r : ∀ i, i < m → Own wz (B i) (rwF n fun k => Value.bool (F i k)) 4 ∧ w.heap.size ≤ B i ∧ B i ≠ bO
 inj : ∀ i j, i < m → j < m → B i = B j → i = j
 bel : Below w.heap.size w wz
 b0 : w.heap.size ≤ bO
theorem SyI.start {w w1 : World} {n bO : Nat} {B : Nat → Nat} {F : Nat → Nat → Bool} (o : Own w1 bO (List.replicate n (.slice none 0 0)) 46) (bel : Below w.heap.size w w1) (b0 : w.heap.size ≤ bO) : SyI w n bO B F 0 w1 :=
 ⟨by rw [rwF_rep _ _ (.slice none 0 0) (fun i _ => by rw [if_neg (by omega)])]; exact o, fun i hi => by omega, fun i j hi => by omega, bel, b0⟩
theorem SyI.row {w wz : World} {n bO m : Nat} {B : Nat → Nat} (h : SyI w n bO B (fun _ _ => false) m wz) (hm : m < n) : SyI w n bO (updF B m wz.heap.size) (fun _ _ => false) (m + 1) ((wz.alloc (.cells (Array.replicate n (Value.bool false)) 4)).setCell ⟨bO, m, none⟩ (rwV n wz.heap.size)) := by
 have hs := h.bel.size
 have ho := h.o.lt
 refine ⟨?_, fun i hi => ?_, fun i j hi hj e => ?_, (h.bel.alloc hs _).setCell (p := ⟨bO, m, none⟩) h.b0 _, h.b0⟩
 ·have q := (h.o.alloc (.cells (Array.replicate n (Value.bool false)) 4)).set m (rwV n wz.heap.size)
  rw [rwF_set _ _ hm] at q
  rw [rwF_congr (g' := updF (fun i => if i < m then rwV n (B i) else .slice none 0 0) m (rwV n wz.heap.size)) (fun i _ => ?_)]
  ·exact q
  ·unfold updF
   dsimp only
   by_cases e : i = m
   ·subst e; rw [if_pos (by omega), if_pos rfl, if_pos rfl]
   ·rw [if_neg e, if_neg e]
    by_cases c : i < m
    ·rw [if_pos c, if_pos (by omega)]
    ·rw [if_neg c, if_neg (by omega)]
 ·unfold updF
  by_cases e : i = m
  ·rw [if_pos e]
   refine ⟨?_, hs, by omega⟩
   rw [rwF_rep _ _ (Value.bool false) (fun _ _ => rfl)]
   exact (own_at _ _ rfl).other (a := ⟨bO, m, none⟩) (by show wz.heap.size ≠ bO; omega) _
  ·rw [if_neg e]
   obtain ⟨h1, h2, h3⟩ := h.r i (by omega)
   exact ⟨(h1.alloc _).other (a := ⟨bO, m, none⟩) h3 _, h2, h3⟩
 ·unfold updF at e
  by_cases e1 : i = m
  ·by_cases e2 : j = m
   ·omega
   ·rw [if_pos e1, if_neg e2] at e
    have := (h.r j (by omega)).1.lt
    omega
  ·by_cases e2 : j = m
   ·rw [if_neg e1, if_pos e2] at e
    have := (h.r i (by omega)).1.lt
    omega
   ·rw [if_neg e1, if_neg e2] at e
    exact h.inj i j (by omega) (by omega) e
theorem SyI.put {w wz : World} {n bO : Nat} {B : Nat → Nat} {F : Nat → Nat → Bool} (h : SyI w n bO B F n wz) {a b : Nat} (ha : a < n) (hb : b < n) (v : Bool) : SyI w n bO B (fun i k => if i = a ∧ k = b then v else F i k) n (wz.setCell ⟨B a, b, none⟩ (.bool v)) := by
 obtain ⟨r1, r2, r3⟩ := h.r a ha
 refine ⟨h.o.other (a := ⟨B a, b, none⟩) (fun e => r3 e.symm) _, fun i hi => ?_, h.inj, h.bel.setCell (p := ⟨B a, b, none⟩) r2 _, h.b0⟩
 obtain ⟨q1, q2, q3⟩ := h.r i hi
 refine ⟨?_, q2, q3⟩
 by_cases e : i = a
 ·subst e
  have q := q1.set b (.bool v)
  rw [rwF_set _ _ hb] at q
  rw [rwF_congr (g' := updF (fun k => Value.bool (F i k)) b (.bool v)) (fun k _ => ?_)]
  ·exact q
  ·unfold updF
   by_cases c : k = b
   ·rw [if_pos c, if_pos ⟨rfl, c⟩]
   ·rw [if_neg c, if_neg (fun c' => c c'.2)]
 ·rw [rwF_congr (g' := fun k => Value.bool (F i k)) (fun k _ => by rw [if_neg (fun c => e c.1)])]
  exact q1.other (a := ⟨B a, b, none⟩) (fun e' => e (h.inj i a hi ha e')) _
theorem SyI.drew {w wz : World} {n bO m : Nat} {B : Nat → Nat} {F : Nat → Nat → Bool} (h : SyI w n bO B F m wz) : SyI w n bO B F m wz.drew := ⟨h.o, h.r, h.inj, h.bel.drew, h.b0⟩
def symH (M : Nat → Nat → Bool) (i k : Nat) : Bool := if k < i then M i k else if i < k then M k i else false
theorem symH_comm (M : Nat → Nat → Bool) (i k : Nat) : symH M i k = symH M k i := by
 unfold symH
 by_cases h1 : k < i
 ·rw [if_pos h1, if_neg (by omega), if_pos h1]
 ·rw [if_neg h1]
  by_cases h2 : i < k
  ·rw [if_pos h2, if_pos h2]
  ·rw [if_neg h2, if_neg h2, if_neg h1]
def symP (M : Nat → Nat → Bool) (a b : Nat) (i k : Nat) : Bool := if k < i ∧ (i < a ∨ (i = a ∧ k < b)) then M i k else if i < k ∧ (k < a ∨ (k = a ∧ i < b)) then M k i else false
theorem symP_zero (M : Nat → Nat → Bool) : symP M 0 0 = fun _ _ => false := by
 funext i k
 unfold symP
 rw [if_neg (by omega), if_neg (by omega)]
theorem symP_next (M : Nat → Nat → Bool) (a : Nat) : symP M a a = symP M (a + 1) 0 := by
 funext i k
 unfold symP
 by_cases h1 : k < i ∧ (i < a ∨ (i = a ∧ k < a))
 ·rw [if_pos h1, if_pos (by omega)]
 ·rw [if_neg h1, if_neg (c := k < i ∧ (i < a + 1 ∨ (i = a + 1 ∧ k < 0))) (by omega)]
  by_cases h2 : i < k ∧ (k < a ∨ (k = a ∧ i < a))
  ·rw [if_pos h2, if_pos (by omega)]
  ·rw [if_neg h2, if_neg (by omega)]
theorem symP_step (M : Nat → Nat → Bool) {a b : Nat} (hb : b < a) : symP M a (b + 1) = fun i k => if i = b ∧ k = a then M a b else if i = a ∧ k = b then M a b else symP M a b i k := by
 funext i k
 by_cases h1 : i = b ∧ k = a
 ·obtain ⟨rfl, rfl⟩ := h1
  rw [if_pos ⟨rfl, rfl⟩]
  unfold symP
  rw [if_neg (by omega), if_pos (by omega)]
 ·rw [if_neg h1]
  by_cases h2 : i = a ∧ k = b
  ·obtain ⟨rfl, rfl⟩ := h2
   rw [if_pos ⟨rfl, rfl⟩]
   unfold symP
   rw [if_pos (by omega)]
  ·rw [if_neg h2]
   unfold symP
   by_cases h3 : k < i ∧ (i < a ∨ (i = a ∧ k < b))
   ·rw [if_pos h3, if_pos (by omega)]
   ·rw [if_neg h3, if_neg (c := k < i ∧ (i < a ∨ (i = a ∧ k < b + 1))) (by omega)]
    by_cases h4 : i < k ∧ (k < a ∨ (k = a ∧ i < b))
    ·rw [if_pos h4, if_pos (by omega)]
    ·rw [if_neg h4, if_neg (by omega)]
theorem symP_end (M : Nat → Nat → Bool) {n i k : Nat} (hi : i < n) (hk : k < n) : symP M n 0 i k = symH M i k := by
 unfold symP symH
 by_cases h1 : k < i
 ·rw [if_pos h1, if_pos (by omega)]
 ·rw [if_neg h1, if_neg (by omega)]
  by_cases h2 : i < k
  ·rw [if_pos h2, if_pos (by omega)]
  ·rw [if_neg h2, if_neg (by omega)]
def mtx (hs : List (List Bool)) (i k : Nat) : Bool := ((hs[i]?).bind (fun h => h[k]?)).getD false
theorem mtx_none {hs : List Hr} {i k : Nat} (h : hs.length ≤ i) : mtx (hs.map Hr.h) i k = false := by
 unfold mtx
 rw [List.getElem?_eq_none (by rw [List.length_map]; exact h)]
 rfl
theorem mtx_out {hs : List Hr} {i k : Nat} {r : Hr} (h : hs[i]? = some r) (hk : r.h.length ≤ k) : mtx (hs.map Hr.h) i k = false := by
 unfold mtx
 rw [List.getElem?_map, h, Option.map_some, Option.bind_some, List.getElem?_eq_none hk]
 rfl
theorem mtx_at {hs : List Hr} {i k : Nat} {r : Hr} {b : Bool} (h : hs[i]? = some r) (hk : r.h[k]? = some b) : mtx (hs.map Hr.h) i k = b := by
 unfold mtx
 rw [List.getElem?_map, h, Option.map_some, Option.bind_some, hk]
 rfl
def syH (M : Nat → Nat → Bool) (n : Nat) (B : Nat → Nat) : List Hr := rwF n fun i => ⟨rwF n (symH M i), ⟨some ⟨B i, 0, none⟩, n, n⟩⟩
theorem SyI.ok {w wz : World} {n bO : Nat} {B : Nat → Nat} {M : Nat → Nat → Bool} (h : SyI w n bO B (symP M n 0) n wz) (n8 : n ≤ 8) : HsOk wz (.slice (some ⟨bO, 0, none⟩) n n) (syH M n B) n := by
 refine ⟨slt_full (t := 46) ?_ (rwF_len _ _) (by omega), fun r hr => ?_, rwF_len _ _, fun r hr => ?_⟩
 ·have e : flatT hrL (syH M n B) = rwF n fun i => if i < n then rwV n (B i) else .slice none 0 0 := by
   show ((List.range n).map _).flatMap _ = (List.range n).map _
   rw [List.flatMap_map, List.flatMap_def]
   rw [show (List.range n).map (fun i => if i < n then rwV n (B i) else .slice none 0 0) = ((List.range n).map fun i => [rwV n (B i)]).flatten from ?_]
   ·rfl
   ·rw [List.map_congr_left (g := fun i => rwV n (B i)) (fun i hi => by rw [if_pos (List.mem_range.1 hi)])]
    induction List.range n with
    | nil => rfl
    | cons a l ih => rw [List.map_cons, List.map_cons, List.flatten_cons, ← ih]; rfl
  rw [e]
  exact h.o
 ·obtain ⟨i, hi⟩ := List.getElem?_of_mem hr
  obtain ⟨hn, rfl⟩ := rwF_some hi
  have e : flatT boL (rwF n (symH M i)) = rwF n fun k => Value.bool (symP M n 0 i k) := by
   rw [rwF_congr (g' := fun k => Value.bool (symH M i k)) (fun k hk => by rw [symP_end M hn hk])]
   show ((List.range n).map _).flatMap _ = (List.range n).map _
   induction List.range n with
   | nil => rfl
   | cons a l ih => rw [List.map_cons, List.map_cons, List.flatMap_cons, ih]; rfl
  show SlT boL wz (.slice (some ⟨B i, 0, none⟩) n n) (rwF n (symH M i))
  exact slt_full (t := 4) (by rw [e]; exact (h.r i hn).1) (rwF_len _ _) (by omega)
 ·obtain ⟨i, hi⟩ := List.getElem?_of_mem hr
  obtain ⟨_, rfl⟩ := rwF_some hi
  exact rwF_len _ _
theorem syH_at {M : Nat → Nat → Bool} {n : Nat} {B : Nat → Nat} {i k : Nat} {r : Hr} {b : Bool} (h : (syH M n B)[i]? = some r) (hk : r.h[k]? = some b) : symH M i k = b := by
 obtain ⟨_, rfl⟩ := rwF_some h
 exact (rwF_some hk).2.symm
def SyP (hs : List Hr) (n : Nat) (w : World) (e : Ending) (w' : World) : Prop := ∃ bO B, e = .returned (.slice (some ⟨bO, 0, none⟩) n n) ∧ HsOk w' (.slice (some ⟨bO, 0, none⟩) n n) (syH (mtx (hs.map Hr.h)) n B) n ∧ Below w.heap.size w w'
set_option maxRecDepth 100000 in
set_option maxHeartbeats 8000000 in
theorem sym_any (vh : Value) (hs : List Hr) (n : Nat) (w : World) (sl : SlT hrL w vh hs) (ok : ∀ r ∈ hs, HrOk w r) (n8 : n ≤ 8) :
  Calls Tryz.prog 6 #[vh, .int .i64 n] w (SyP hs n w) := by
 obtain ⟨hp, hc, e0, hlc, hcm, hpn⟩ := SlT.form (L := hrL) hs.length sl rfl
 subst e0
 unfold maxLen at hcm
 have SL := Lib.hid sl
 have OK := Lib.hid ok
 clear sl ok
 have n0 : (0 : Int) ≤ (n : Int) := Int.natCast_nonneg _
 have n1 : (n : Int) ≤ 8 := by omega
 have h0 : (0 : Int) ≤ (hs.length : Int) := Int.natCast_nonneg _
 obtain ⟨M, hM⟩ : ∃ M, mtx (hs.map Hr.h) = M := ⟨_, rfl⟩
 have HM := Lib.hid hM
 clear hM
 go_enter Tryz.func6, Tryz.ntmps6
 have mB := mk_bb n (by omega) w
 rw [Nat.mul_one] at mB
 go_wp2_with fail
 clear mB
 have I0 := Lib.hid (show ∃ B, SyI w n w.heap.size B (fun _ _ => false) 0 (w.alloc (Obj.cells (Array.replicate n (Value.slice none 0 0)) 46)) from ⟨fun _ => 0, SyI.start (own_at _ _ rfl) (belowNew _ _) (Nat.le_refl _)⟩)
 obtain ⟨bO, hbO⟩ : ∃ bO, w.heap.size = bO := ⟨_, rfl⟩
 rw [hbO] at I0 ⊢
 have HBO := Lib.hid hbO
 clear hbO
 generalize w.alloc (Obj.cells (Array.replicate n (Value.slice none 0 0)) 46) = w1 at I0 ⊢
 go_loopw [14] (fun ii wz => ∃ i : Nat, i ≤ n ∧ ii = .int .i64 i ∧ ∃ B, SyI w n bO B (fun _ _ => false) i wz) (fun ii _ => n - (intOf ii).toNat)
 case atStart => exact ⟨0, by omega, rfl, I0.out⟩
 case round =>
  clear I0
  obtain ⟨i, hi, rfl, B, hsy⟩ := hrel
  have SY := Lib.hid hsy
  clear hsy
  have i0 : (0 : Int) ≤ (i : Int) := Int.natCast_nonneg _
  by_cases hlt : i < n
  ·have i1 : (i : Int) < (n : Int) := by omega
   have fO := (SY.out.o.alloc (Obj.cells (Array.replicate n (Value.bool false)) 4)).frozen
   have zO := (SY.out.o.alloc (Obj.cells (Array.replicate n (Value.bool false)) 4)).lt
   have cO := (SY.out.o.alloc (Obj.cells (Array.replicate n (Value.bool false)) 4)).cell (i := i) (rwF_at _ hlt)
   have mI := mk_bo n (by omega) wr
   rw [Nat.mul_one] at mI
   have S2 := Lib.hid (SY.out.row hlt)
   unfold rwV at S2
   go_wp2_with fail
   go_roundw
   case rel => exact ⟨i + 1, by omega, by go_num, _, S2.out⟩
   case measure => simp [intOf]; omega
  ·obtain rfl : i = n := by omega
   have J0 := Lib.hid (show SyI w i bO B (symP M 0 0) i wr from by rw [symP_zero]; exact SY.out)
   clear SY hlt hi i0
   go_wp2_with fail
   go_loopw [24] (fun ii wz => ∃ a : Nat, a ≤ i ∧ ii = .int .i64 a ∧ SyI w i bO B (symP M a 0) i wz) (fun ii _ => i - (intOf ii).toNat)
   case atStart => exact ⟨0, by omega, rfl, J0.out⟩
   case round =>
    clear J0
    obtain ⟨a, ha, rfl, hsy⟩ := hrel
    have SY := Lib.hid hsy
    clear hsy
    have a0 : (0 : Int) ≤ (a : Int) := Int.natCast_nonneg _
    by_cases hla : a < i
    ·have a1 : (a : Int) < (i : Int) := by omega
     go_wp2_with fail
     go_loopw [28] (fun kk wz => ∃ k : Nat, k ≤ a ∧ kk = .int .i64 k ∧ SyI w i bO B (symP M a k) i wz) (fun kk _ => a - (intOf kk).toNat)
     case atStart => exact ⟨0, by omega, rfl, SY.out⟩
     case round =>
      clear SY
      obtain ⟨k, hk, rfl, hsy⟩ := hrel
      have SY := Lib.hid hsy
      clear hsy
      have k0 : (0 : Int) ≤ (k : Int) := Int.natCast_nonneg _
      by_cases hlk : k < a
      ·have k1 : (k : Int) < (a : Int) := by omega
       obtain ⟨x, hx⟩ : ∃ x, M a k = x := ⟨_, rfl⟩
       go_upto_region 13 with fail
       go_cut [9] from 31 to 67 (fun s wx => s = .bool x ∧ wx = wr)
       case first =>
        by_cases hA : a < hs.length
        ·have A1 : (a : Int) < (hs.length : Int) := by omega
         obtain ⟨h, bh, offh, hh, hvp, hbh, hbh0, g0⟩ := SlT.atH SL.out SY.out.bel (i := a) hA
         obtain ⟨hv, ⟨hp2, hn2, hc2⟩⟩ := h
         dsimp only at g0
         have HHO := Lib.hid (show SlT boL w (.slice hp2 hn2 hc2) hv from OK.out _ (mem_of_at hh))
         have HL := Lib.hid (SlT.len_eq HHO.out)
         have HX := Lib.hid (fun (b : Bool) (hb : hv[k]? = some b) => (mtx_at hh hb : mtx (hs.map Hr.h) a k = b))
         have HO := Lib.hid (fun (hb : hv.length ≤ k) => (mtx_out hh hb : mtx (hs.map Hr.h) a k = false))
         clear hh
         have hn0 : (0 : Int) ≤ (hn2 : Int) := Int.natCast_nonneg _
         obtain ⟨p9, c9, e9, l9, m9, _⟩ := SlT.form (L := boL) hn2 HHO.out HL.out.symm
         unfold maxLen at m9
         have hn9 : (hn2 : Int) ≤ 9223372036854775807 := by omega
         clear e9 l9 m9
         subst hvp
         by_cases hB : k < hn2
         ·have B1 : (k : Int) < (hn2 : Int) := by omega
          obtain ⟨is, bb, offb, his, hbp, hbb, _, g1⟩ := SlT.atB HHO.out SY.out.bel (i := k) (by rw [← HL.out]; exact hB)
          subst hbp
          obtain rfl : is = x := by rw [← hx, ← HM.out]; exact (HX.out is his).symm
          go_wp2_with fail
          go_meet
          exact ⟨rfl, rfl⟩
         ·have B1 : ¬ (k : Int) < (hn2 : Int) := by omega
          obtain rfl : x = false := by rw [← hx, ← HM.out]; exact HO.out (by rw [← HL.out]; omega)
          go_wp2_with fail
          go_meet
          exact ⟨rfl, rfl⟩
        ·have A1 : ¬ (a : Int) < (hs.length : Int) := by omega
         obtain rfl : x = false := by rw [← hx, ← HM.out]; exact mtx_none (by omega)
         go_wp2_with fail
         go_meet
         exact ⟨rfl, rfl⟩
       case rest =>
        obtain ⟨rfl, rfl⟩ := hcut
        go_upto_region 14 with fail
        have SA := SY.out.o.drew.cell (i := a) (x := rwV i (B a)) (by rw [rwF_at _ hla, if_pos hla])
        have SB := SY.out.o.drew.cell (i := k) (x := rwV i (B k)) (by rw [rwF_at _ (by omega), if_pos (by omega)])
        unfold rwV at SA SB
        have KEEP := And.intro SA SB
        clear SA SB
        have k2 : (k : Int) < (i : Int) := by omega
        refine (wpIn_wide (n := 9)).1 ?_
        refine region_S 16 #[false, false, false, false, false, false, false, false, false, false, false, false, false, false, false, false] (by kernel_rfl) (by kernel_rfl) (fun w' => w'.cell? ⟨bO, a, none⟩ = some (.slice (some ⟨B a, 0, none⟩) i i) ∧ w'.cell? ⟨bO, k, none⟩ = some (.slice (some ⟨B k, 0, none⟩) i i)) 16 _ (fun _ _ h => h) (fun _ => trivial) (by kernel_rfl) ?x1s (fun hHeld hClo => ?x1r)
        case x1s => exact KEEP
        refine tS 0 53 ?_
        clear hClo
        intro hClo
        refine tS 1 54 ?_
        clear hClo
        intro hClo
        refine tS 2 55 ?_
        clear hClo
        intro hClo
        refine tS 3 56 ?_
        clear hClo
        intro hClo
        refine tS 4 57 ?_
        clear hClo
        intro hClo
        refine tS 5 58 ?_
        clear hClo
        intro hClo
        refine tS 6 59 ?_
        clear hClo
        intro hClo
        refine tS 7 60 ?_
        clear hClo
        intro hClo
        refine tS 8 61 ?_
        clear hClo
        intro hClo
        refine tS 9 62 ?_
        clear hClo
        intro hClo
        refine tS 10 63 ?_
        clear hClo
        intro hClo
        refine tS 11 64 ?_
        clear hClo
        intro hClo
        refine tS 12 65 ?_
        clear hClo
        intro hClo
        refine wpS_one (i := 13) (by kernel_rfl) rfl hClo (fun K hK => ?_)
        rw [if_pos (by rfl)]
        have ra := (SY.out.r a hla).1
        have fa := ra.frozen
        have za := ra.lt
        have ca := ra.cell (i := k) (rwF_at _ (by omega))
        have S2 := SY.out.put hla (show k < i by omega) x
        have rb := (S2.r k (by omega)).1
        have fb := rb.frozen
        have zb := rb.lt
        have cb := rb.cell (i := a) (rwF_at _ hla)
        have S3 := Lib.hid (S2.put (show k < i by omega) hla x)
        have SA := S2.o.drew.cell (i := a) (x := rwV i (B a)) (by rw [rwF_at _ hla, if_pos hla])
        have SB := S2.o.drew.cell (i := k) (x := rwV i (B k)) (by rw [rwF_at _ (by omega), if_pos (by omega)])
        unfold rwV at SA SB
        have KEEP2 := And.intro SA SB
        have SA := S3.out.o.drew.cell (i := a) (x := rwV i (B a)) (by rw [rwF_at _ hla, if_pos hla])
        have SB := S3.out.o.drew.cell (i := k) (x := rwV i (B k)) (by rw [rwF_at _ (by omega), if_pos (by omega)])
        unfold rwV at SA SB
        have KEEP3 := And.intro SA SB
        clear S2 SA SB
        go_simp
        refine hK _ _ (fun _ => KEEP2) ?_
        clear hK K hHeld
        intro hH0
        have hHeld := hH0 (by kernel_rfl)
        clear hH0
        (intro hN; clear hClo; have hClo := hN; clear hN)
        try simp only [Act.put, List.setIfInBounds_toArray, List.set_cons_zero, List.set_cons_succ]
        refine tS 14 66 ?_
        clear hClo
        intro hClo
        refine wpS_one (i := 15) (by kernel_rfl) rfl hClo (fun K hK => ?_)
        rw [if_pos (by rfl)]
        go_simp
        refine hK _ _ (fun _ => KEEP3) ?_
        clear hK K hHeld
        intro hH0
        have hHeld := hH0 (by kernel_rfl)
        clear hH0
        (intro hN; clear hClo; have hClo := hN; clear hN)
        try simp only [Act.put, List.setIfInBounds_toArray, List.set_cons_zero, List.set_cons_succ]
        refine wpS_done (by kernel_rfl) ?_ _
        clear hClo
        clear ra fa za ca rb fb zb cb KEEP2 KEEP3 hHeld
        have S4 := Lib.hid (show SyI w i bO B (symP M a (k + 1)) i _ from by rw [symP_step M hlk, hx]; exact S3.out)
        gi_wp2
        go_wp2_with fail
        go_roundw
        case rel => exact ⟨k + 1, by omega, by go_num, S4.out.drew⟩
        case measure => simp [intOf]; omega
      ·obtain rfl : k = a := by omega
       have S2 := Lib.hid (show SyI w i bO B (symP M (k + 1) 0) i wr from by rw [← symP_next]; exact SY.out)
       go_wp2_with fail
       go_roundw
       case rel => exact ⟨k + 1, by omega, by go_num, S2.out⟩
       case measure => simp [intOf]; omega
    ·obtain rfl : a = i := by omega
     have HE := Lib.hid (SY.out.ok n8)
     go_wp2_with fail
     go_ret
     exact ⟨bO, B, rfl, by rw [HM.out]; exact HE.out, SY.out.bel⟩
end Go.Proofs.YtmopiifamopidaaGreat
end

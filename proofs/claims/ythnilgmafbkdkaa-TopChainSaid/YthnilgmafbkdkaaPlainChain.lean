/- Plain facts about a chain of beacons: what every node knows stays true. No program is in sight here. -/
import Derived.Test.YthnilgmafbkdkaaPlain09b
import Derived.Test.YthnilgmafbkdkaaTrue08
import Derived.Test.YthnilgmafbkdkaaTick
namespace Go.Proofs.Ythnilgmafbkdkaa

theorem hr_newC {sy : Bool} {l h a k src he f p b s c : Int} (hC : hrC sy l h a k src he f p b s c = true) :
    vldT sy l h a k src he = true ∧ vldH s b c = true ∧ (0 ≤ f ∧ f < 60 ∧ 0 ≤ p ∧ p < 60) ∧ tkB sy k src f p = true ∧ hrE sy l h a k src he f p b s c = 0 := by
  simp only [hrC, hrV, Bool.and_eq_true, decide_eq_true_eq, beq_iff_eq] at hC
  exact ⟨hC.1.1.1.1, hC.1.1.1.2, hC.1.1.2, hC.1.2, hC.2⟩
/-- The state of a node, and a clock. -/
structure Stt where
  sy : Bool
  l : Int
  h : Int
  a : Int
  k : Int
  src : Int
  he : Int
structure Ck where
  o : Int
  d : Int

/-- What a node that is not the root knows is true at some time not behind T. -/
def Gd (s : Stt) (c : Ck) (T : Int) : Prop :=
  vldT s.sy s.l s.h s.a s.k s.src s.he = true ∧ (s.sy = true → s.k ≠ 0 ∧ -3000000000 ≤ s.l ∧ s.h ≤ 3000000000 ∧ ∃ t, 0 ≤ t ∧ t ≤ T ∧ hoP s.l s.h s.a c.o c.d t)
def rootS : Stt := ⟨true, 0, 0, 0, 0, -1, 0⟩
def offS : Stt := ⟨false, 0, 0, 0, 60, -1, 0⟩
/-- All nodes: the first is the root with the exact clock. -/
def GdI (i : Nat) (s : Stt) (c : Ck) (T : Int) : Prop := vldB c.o c.d = true ∧ ((i = 0 ∧ s = rootS ∧ c = ⟨0, 0⟩) ∨ (i ≠ 0 ∧ Gd s c T))
theorem GdI.mono {i : Nat} {s : Stt} {c : Ck} {T U : Int} (h : GdI i s c T) (hT : T ≤ U) : GdI i s c U := by
  obtain ⟨hv, h⟩ := h
  refine ⟨hv, ?_⟩
  rcases h with h | ⟨hi, h1, h2⟩
  · exact .inl h
  · refine .inr ⟨hi, h1, fun hs => ?_⟩
    obtain ⟨a, b, c, t, t0, t1, t2⟩ := h2 hs
    exact ⟨a, b, c, t, t0, by omega, t2⟩
theorem gd_off (c : Ck) (T : Int) : Gd offS c T := ⟨by decide, fun h => by cases h⟩
theorem gd_start (i : Nat) (c : Ck) (hv : vldB c.o c.d = true) (hc : i = 0 → c = ⟨0, 0⟩) (T : Int) : GdI i (if i = 0 then rootS else offS) c T := by
  refine ⟨hv, ?_⟩
  by_cases hi : i = 0
  · rw [if_pos hi]; exact .inl ⟨hi, rfl, hc hi⟩
  · rw [if_neg hi]; exact .inr ⟨hi, gd_off c T⟩
theorem it_mk {sy : Bool} {l h a k src he o d t : Int} (h1 : vldT sy l h a k src he = true) (hv : vldB o d = true) (hs : sy = true) (k0 : k ≠ 0) (t0 : 0 ≤ t) (t1 : t ≤ 10000000000000) (t2 : hoP l h a o d t) : itB sy l h a k src he o d t = true := by
  subst hs
  obtain ⟨u1, u2, u3, u4⟩ := t2
  simp only [itB, h1, hv, Bool.and_true, Bool.true_and, Bool.and_eq_true, decide_eq_true_eq, if_neg k0, truS]
  exact ⟨⟨t0, t1⟩, u2, u3, u4⟩
/-- A synchronized one is true for its clock at some true time. -/
theorem gd_it {i : Nat} {s : Stt} {c : Ck} {T : Int} (h : GdI i s c T) (hs : s.sy = true) (hT : T ≤ 10000000000000) : ∃ t, itB s.sy s.l s.h s.a s.k s.src s.he c.o c.d t = true := by
  obtain ⟨hv, h⟩ := h
  rcases h with ⟨_, rfl, rfl⟩ | ⟨_, h1, h2⟩
  · exact ⟨0, by decide⟩
  · obtain ⟨k0, _, _, t, t0, t1, t2⟩ := h2 hs
    exact ⟨t, it_mk h1 hv hs k0 t0 (by omega) t2⟩
/-- In a slot that both can begin, each catches the other. -/
theorem gd_catch {i j : Nat} {s u : Stt} {c e : Ck} {T asn : Int} (h1 : GdI i s c T) (h2 : GdI j u e T) (hT : T ≤ 10000000000000) (g1 : gsE s.sy s.l s.h s.a s.k s.src s.he c.o c.d asn = 0) (g2 : gsE u.sy u.l u.h u.a u.k u.src u.he e.o e.d asn = 0) :
    gsN u.sy u.l u.h u.a u.k u.src u.he e.o e.d asn - (2004 + gsB u.sy u.l u.h u.a u.k u.src u.he e.o e.d asn) ≤ gsN s.sy s.l s.h s.a s.k s.src s.he c.o c.d asn ∧
    gsN s.sy s.l s.h s.a s.k s.src s.he c.o c.d asn ≤ gsN u.sy u.l u.h u.a u.k u.src u.he e.o e.d asn + (2004 + gsB u.sy u.l u.h u.a u.k u.src u.he e.o e.d asn) := by
  obtain ⟨_, _, _, s1, _⟩ := gs_zero g1
  obtain ⟨_, _, _, s2, _⟩ := gs_zero g2
  obtain ⟨t, ht⟩ := gd_it h1 s1 hT
  obtain ⟨t', ht'⟩ := gd_it h2 s2 hT
  obtain ⟨a1, a2, a3, a4⟩ := on_time ht g1
  obtain ⟨b1, b2, b3, b4⟩ := on_time ht' g2
  exact caught a1 a2 a4 b1 b2
theorem gm_few (e f : Int) (h : f ≤ e + 2005) : gm f ≤ gm e + 1 := by unfold gm; omega
theorem bdN_nn (sy : Bool) (l h a k src he n : Int) : 0 ≤ bdN sy l h a k src he n ∧ bdN sy l h a k src he n ≤ 2000 := by
  by_cases e : bdE sy l h a k src he n = 0
  · have hs : sy = true := by
      cases sy with
      | true => rfl
      | false => exfalso; revert e; unfold bdE; (repeat' split) <;> simp_all
    subst hs
    exact bdN_rng l h a k src he n e
  · simp [bdN, e]
/-- A frame begins within the bound that its beacon tells. -/
theorem gd_told {i : Nat} {s : Stt} {c : Ck} {T asn LO B : Int} (h : GdI i s c T) (hT : T ≤ asn * 10000) (h0 : 0 ≤ asn) (h1 : asn < 1000000000)
    (g : gsE s.sy s.l s.h s.a s.k s.src s.he c.o c.d asn = 0) (hl : shN c.o c.d (asn * 10000) = LO) (he : shE c.o c.d (asn * 10000) = 0) (hb : bdE s.sy s.l s.h s.a s.k s.src s.he LO = 0) (hB : bdN s.sy s.l s.h s.a s.k s.src s.he LO = B) :
    gsN s.sy s.l s.h s.a s.k s.src s.he c.o c.d asn ≤ (if i = 0 then B else B + 4) ∧ -(if i = 0 then B else B + 4) ≤ gsN s.sy s.l s.h s.a s.k s.src s.he c.o c.d asn ∧ (i = 0 → s.k = 0) ∧ (i ≠ 0 → 1 ≤ s.k) := by
  obtain ⟨hv, h⟩ := h
  have hz := gs_zero g
  obtain ⟨_, _, _, hs, g5, g6⟩ := hz
  rcases h with ⟨rfl, rfl, rfl⟩ | ⟨hi, q1, q2⟩
  · have hB0 : B = 0 := by rw [← hB]; simp [bdN, rootS]
    have n1 : gsN rootS.sy rootS.l rootS.h rootS.a rootS.k rootS.src rootS.he 0 0 asn = 0 := by
      rw [gsN, if_pos g]
      show lst 0 0 (ownT 0 0 0 asn) - asn * 10000 = 0
      rw [show ownT 0 0 0 asn = asn * 10000 from by simp [ownT], lst_exact (by omega) (by omega)]; omega
    rw [n1, hB0]
    exact ⟨by simp, by simp, fun _ => rfl, fun h => absurd rfl h⟩
  · obtain ⟨k0, _, _, t, t0, t1, t2⟩ := q2 hs
    have hit : itB s.sy s.l s.h s.a s.k s.src s.he c.o c.d t = true := it_mk q1 hv hs k0 t0 (by omega) t2
    obtain ⟨p1, p2, p3, p4⟩ := on_time hit g
    obtain ⟨sy, l, h, a, k, src, he'⟩ := s
    simp only at *
    subst hs
    have k1 : 1 ≤ k := by rcases (vldT_on q1 rfl).2 with q | q <;> omega
    rw [if_neg hi]
    have nB : gsB true l h a k src he' c.o c.d asn = hafT l h a (ownT k l h asn) := by rw [gsB, if_pos g, bdN_ok g5 k0]
    have mB : B = hafT l h a LO := by rw [← hB, bdN_ok hb k0]
    have hk : okS c.o c.d (asn * 10000) = true := by
      cases e : okS c.o c.d (asn * 10000) with
      | true => rfl
      | false => rw [(sh_no e).1] at he; cases he
    have hLO : LO = atI c.o c.d (asn * 10000) := by rw [← hl, (sh_yes hk).2]
    obtain ⟨u1, u2, u3, u4⟩ := t2
    obtain ⟨⟨v1, v2, v3, v4⟩, v5, v6⟩ := okS_iff.1 hk
    obtain ⟨m1, m2, m3⟩ := drift_grow (o := c.o) v3 v4 (show t ≤ asn * 10000 by omega)
    rw [← hLO, ← u2] at m1 m2 m3
    have hown : ownT k l h asn = asn * 10000 - (l + h) / 2 := by simp [ownT, show 0 < k by omega]
    have hf := (bd_zero hb k0).2.2
    have key : hafT l h a (ownT k l h asn) ≤ hafT l h a LO + 1 := by
      have e1 : hafT l h a LO = (h - l + 2 * gm (LO - a) + 1) / 2 := rfl
      rw [e1] at hf
      have : gm (ownT k l h asn - a) ≤ gm (LO - a) + 1 := gm_few _ _ (by rw [hown]; omega)
      have e2 : hafT l h a (ownT k l h asn) = (h - l + 2 * gm (ownT k l h asn - a) + 1) / 2 := rfl
      rw [e1, e2]; omega
    rw [nB] at p1 p2
    rw [mB]
    exact ⟨by omega, by omega, fun h => absurd h hi, fun _ => k1⟩

/-- The state after a beacon, and after the clock's tick. -/
def nxtS (u : Stt) (f p b G loc : Int) : Stt := if hrC u.sy u.l u.h u.a u.k u.src u.he f p b G loc = true then ⟨true, hrL u.sy u.l u.h u.a G b loc, hrH u.sy u.l u.h u.a G b loc, hrA u.sy u.l u.h u.a G b loc, p + 1, f, G⟩ else u
def tckS (u : Stt) (n : Int) : Stt := if tkL u.sy u.l u.h u.a u.k u.src u.he n = true then offS else u
theorem gd_hear {j : Nat} {u : Stt} {e : Ck} {T f p b G N : Int} (h : GdI j u e T) (hT : T ≤ G * 10000 + N) (h0 : 1 ≤ G) (h1 : G ≤ 900000000) (hf : 0 ≤ f ∧ f < 60) (hp : 0 ≤ p ∧ p < 60) (b0 : 0 ≤ b) (b1 : b ≤ 2000) (n0 : -b ≤ N) (n1 : N ≤ b) :
    okS e.o e.d (G * 10000 + N) = true ∧ hrE u.sy u.l u.h u.a u.k u.src u.he f p b G (atI e.o e.d (G * 10000 + N)) = 0 ∧
    (hrC u.sy u.l u.h u.a u.k u.src u.he f p b G (atI e.o e.d (G * 10000 + N)) = true →
      truB (hrL u.sy u.l u.h u.a G b (atI e.o e.d (G * 10000 + N))) (hrH u.sy u.l u.h u.a G b (atI e.o e.d (G * 10000 + N))) (hrA u.sy u.l u.h u.a G b (atI e.o e.d (G * 10000 + N))) (G * 10000 + N) (atI e.o e.d (G * 10000 + N)) = true) ∧
    GdI j (tckS (nxtS u f p b G (atI e.o e.d (G * 10000 + N))) (atI e.o e.d (G * 10000 + N))) e (G * 10000 + N) := by
  obtain ⟨hv, h⟩ := h
  obtain ⟨v1, v2, v3, v4⟩ := vld_out hv
  have ok : okS e.o e.d (G * 10000 + N) = true := okS_mk hv (by omega) (by omega)
  have hb := at_bd (o := e.o) (d := e.d) v1 v2 v3 v4 (show -1 ≤ G * 10000 + N by omega) (by omega)
  have near : -1600000000 ≤ atI e.o e.d (G * 10000 + N) - (G * 10000 + N) ∧ atI e.o e.d (G * 10000 + N) - (G * 10000 + N) ≤ 1600000000 := by
    have := mul_bd v3 v4 (show -1 ≤ G * 10000 + N by omega) (by omega)
    have := mul_sub_bd v3 v4 (show 0 ≤ G * 10000 + N by omega)
    unfold atI
    generalize e.d * (G * 10000 + N) = M at *
    omega
  have hh : vldH G b (atI e.o e.d (G * 10000 + N)) = true := vldH_iff.2 ⟨by omega, by omega, b0, b1, by omega, by omega⟩
  obtain ⟨_, e1, e2, e3⟩ := he_ok hh
  generalize hloc : atI e.o e.d (G * 10000 + N) = loc at *
  rcases h with ⟨rfl, rfl, hc⟩ | ⟨hj, q1, q2⟩
  · have hV : hrV true 0 0 0 0 (-1) 0 f p b G loc = true := by
      have : vldT true 0 0 0 0 (-1) 0 = true := by decide
      simp [hrV, this, hh, hf, hp]
    have hk : tkB true 0 (-1) f p = false := rfl
    have hE : hrE true 0 0 0 0 (-1) 0 f p b G loc = 0 := by simp [hrE, hV, hk]
    have hC : hrC true 0 0 0 0 (-1) 0 f p b G loc = false := by simp [hrC, hk]
    refine ⟨ok, hE, (fun h => (by rw [show hrC rootS.sy rootS.l rootS.h rootS.a rootS.k rootS.src rootS.he f p b G loc = false from hC] at h; cases h)), hv, .inl ⟨rfl, ?_, hc⟩⟩
    rw [nxtS, if_neg (by rw [show hrC rootS.sy rootS.l rootS.h rootS.a rootS.k rootS.src rootS.he f p b G loc = false from hC]; simp)]
    have hb0 : bdE true 0 0 0 0 (-1) 0 loc = 0 := by
      have : vldT true 0 0 0 0 (-1) 0 = true := by decide
      simp [bdE, this]
    rw [tckS, if_neg (by rw [show tkL rootS.sy rootS.l rootS.h rootS.a rootS.k rootS.src rootS.he loc = false from by show (true && vldT true 0 0 0 0 (-1) 0 && !(bdE true 0 0 0 0 (-1) 0 loc == 0)) = false; rw [hb0]; simp]; simp)]
  · obtain ⟨sy, l, h, a, k, src, he⟩ := u
    simp only [nxtS] at *
    have hV : hrV sy l h a k src he f p b G loc = true := by simp [hrV, q1, hh, hf, hp]
    have hr : (sy && (k == 0)) = false := by
      cases sy with
      | false => rfl
      | true => simpa using (q2 rfl).1
    have hE : hrE sy l h a k src he f p b G loc = 0 := by
      cases hk2 : tkB sy k src f p with
      | false => simp [hrE, hV, hk2]
      | true =>
        cases sy with
        | false => simp [hrE, hV, hk2]
        | true =>
          obtain ⟨k0, l0, h0', t, t0, t1, t2⟩ := q2 rfl
          have tr := truth_hear (sy := true) (l := l) (h := h) (a := a) (k := k) (src := src) (he := he) (f := f) (p := p) (b := b) (o := e.o) (d := e.d) (t := t) (G := G) (at' := G * 10000 + N) q1 hr (fun _ => t2) (by rw [hloc]; exact hh) ⟨hf.1, hf.2, hp.1, hp.2⟩ ok (by omega) (by omega) (by omega)
          rw [hloc] at tr
          have eq0 : hrE true l h a k src he f p b G loc = mtE l h a (G * 10000 - loc - b) (G * 10000 - loc + b) loc := by simp [hrE, hV, hk2, e1, e2, e3]
          obtain ⟨u1, u2, u3, u4⟩ := t2
          have va : vldS l h a = true := by
            rcases (vldT_on q1 rfl).2 with q | ⟨_, _, q⟩
            · exact absurd q k0
            · exact q
          have vb : vldS (G * 10000 - loc - b) (G * 10000 - loc + b) loc = true := vldS_iff.2 (by omega)
          obtain ⟨m1, _, _⟩ := drift_grow (o := e.o) v3 v4 (show t ≤ G * 10000 + N by omega)
          rw [hloc, ← u2] at m1
          have m := mt_le va vb m1
          refine Classical.byContradiction fun ne => ?_
          rw [eq0] at ne tr
          obtain ⟨_, _, _, z⟩ := mc_err m ne
          rcases z with z | ⟨z, _⟩
          · -- the range is never left
            obtain ⟨va1, va2, va3, va4, va5⟩ := vldS_iff.1 va
            have g1 := gm_bd (e := loc - a) (by omega) (by omega)
            have g2 : gm (loc - loc) = 1 := by rw [show loc - loc = 0 by omega]; rfl
            have r1 : okR l h a loc = true := by unfold okR; exact vldS_iff.2 (by omega)
            have r2 : okR (G * 10000 - loc - b) (G * 10000 - loc + b) loc loc = true := by unfold okR; rw [g2]; exact vldS_iff.2 (by omega)
            unfold MC at m
            rw [r1, r2] at m
            rw [z] at m
            rcases m with ⟨m, _⟩ | ⟨_, _, _, _, _, _, m⟩ | ⟨_, _, _, _, _, _, m⟩ | ⟨_, _, m, _⟩ | ⟨_, _, _, _, _, _, _, m⟩ | ⟨_, _, _, _, _, _, _, m⟩
            · cases m
            · omega
            · omega
            · cases m
            · omega
            · omega
          · exact tr.1 z
    have tru : hrC sy l h a k src he f p b G loc = true → hoP (hrL sy l h a G b loc) (hrH sy l h a G b loc) (hrA sy l h a G b loc) e.o e.d (G * 10000 + N) ∧ vldS (hrL sy l h a G b loc) (hrH sy l h a G b loc) (hrA sy l h a G b loc) = true ∧ -3000000000 ≤ hrL sy l h a G b loc ∧ hrH sy l h a G b loc ≤ 3000000000 := by
      intro hC
      obtain ⟨_, _, _, hk2, _⟩ := hr_newC hC
      cases sy with
      | false =>
        simp only [hrL, hrH, hrA, e1, e2, e3, if_neg (show ¬ (false = true) by simp)]
        refine ⟨⟨ok, hloc.symm, by rw [hloc]; omega, by rw [hloc]; omega⟩, vldS_iff.2 (by omega), by omega, by omega⟩
      | true =>
        obtain ⟨k0, l0, h0', t, t0, t1, t2⟩ := q2 rfl
        have tr := truth_hear (sy := true) (l := l) (h := h) (a := a) (k := k) (src := src) (he := he) (f := f) (p := p) (b := b) (o := e.o) (d := e.d) (t := t) (G := G) (at' := G * 10000 + N) q1 hr (fun _ => t2) (by rw [hloc]; exact hh) ⟨hf.1, hf.2, hp.1, hp.2⟩ ok (by omega) (by omega) (by omega)
        rw [hloc] at tr
        have hp2 := tr.2.2 hk2 hE
        refine ⟨hp2, ?_⟩
        have eq0 : hrE true l h a k src he f p b G loc = mtE l h a (G * 10000 - loc - b) (G * 10000 - loc + b) loc := by simp [hrE, hV, hk2, e1, e2, e3]
        obtain ⟨u1, u2, u3, u4⟩ := t2
        have va : vldS l h a = true := by
          rcases (vldT_on q1 rfl).2 with q | ⟨_, _, q⟩
          · exact absurd q k0
          · exact q
        have vb : vldS (G * 10000 - loc - b) (G * 10000 - loc + b) loc = true := vldS_iff.2 (by omega)
        obtain ⟨m1, _, _⟩ := drift_grow (o := e.o) v3 v4 (show t ≤ G * 10000 + N by omega)
        rw [hloc, ← u2] at m1
        have m := mt_le va vb m1
        rw [eq0] at hE
        obtain ⟨z0, z1, z2, z3⟩ := mc_zero m hE
        have g2 : gm (loc - loc) = 1 := by rw [show loc - loc = 0 by omega]; rfl
        simp only [hrL, hrH, hrA, e1, e2, e3]
        unfold okR at z0
        rw [vldS_iff] at z0
        rcases z3 with ⟨_, z3, z4⟩ | ⟨_, _, z3, z4⟩
        · rw [z3, z4] at z2 ⊢
          rw [z1]
          refine ⟨vldS_iff.2 (by omega), by omega, by omega⟩
        · rw [z3, z4] at z2 ⊢
          rw [z1]
          rw [g2] at z2 ⊢
          refine ⟨vldS_iff.2 ⟨by omega, z2, by omega, by omega, by omega⟩, by omega, by omega⟩
    refine ⟨ok, hE, fun hC => ?_, hv, .inr ⟨hj, ?_⟩⟩
    · obtain ⟨⟨_, t2, t3, t4⟩, _⟩ := tru hC
      rw [hloc] at t2 t3 t4
      exact truB_iff.2 ⟨t2, t3, t4⟩
    · have good : Gd (if hrC sy l h a k src he f p b G loc = true then ⟨true, hrL sy l h a G b loc, hrH sy l h a G b loc, hrA sy l h a G b loc, p + 1, f, G⟩ else ⟨sy, l, h, a, k, src, he⟩) e (G * 10000 + N) := by
        by_cases hC : hrC sy l h a k src he f p b G loc = true
        · rw [if_pos hC]
          obtain ⟨t1, t2, t3, t4⟩ := tru hC
          refine ⟨?_, fun _ => ⟨by show p + 1 ≠ 0; omega, t3, t4, G * 10000 + N, by omega, Int.le_refl _, t1⟩⟩
          have o1 : okN f G = true := okN_iff.2 (by omega)
          have o2 : decide (1 ≤ p + 1 ∧ p + 1 ≤ 60) = true := decide_eq_true (by omega)
          simp [vldT, t2, o1, o2]
        · rw [if_neg hC]
          refine ⟨q1, fun hs => ?_⟩
          obtain ⟨x1, x2, x3, t, t0, t1, t2⟩ := q2 hs
          exact ⟨x1, x2, x3, t, t0, by omega, t2⟩
      have tk : ∀ v : Stt, Gd v e (G * 10000 + N) → Gd (tckS v loc) e (G * 10000 + N) := by
        intro v hg
        unfold tckS
        split
        · exact gd_off _ _
        · exact hg
      exact tk _ good

end Go.Proofs.Ythnilgmafbkdkaa

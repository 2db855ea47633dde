/- The walk of DownTells. -/
import Derived.Test.YtheifmdaladfdaaHead21
import Derived.Test.YtheifmdaladfdaaLaw21p
import Derived.Laws.AppendOwnNone
namespace Go.Proofs.Ytheifmdaladfdaa
open Go.RowKit

theorem nwF_length {own : Dn} : ∀ {l : List Dn}, AscD l → (∀ d ∈ l, d.t ≠ own.t) → (nwF own true l).length = l.length + 1
  | [], _, _ => rfl
  | d :: l, ha, hn => by
    have ha' := List.pairwise_cons.1 ha
    have hd := hn d List.mem_cons_self
    by_cases h1 : own.t < d.t
    · have h2 : decide (d.t < own.t) = false := decide_eq_false (by omega)
      rw [nwF, h2, nwF_false fun e he => by have := ha'.1 e he; omega]; simp [h1]
    · have h2 : decide (d.t < own.t) = true := decide_eq_true (by omega)
      have ih := nwF_length ha'.2 (fun e he => hn e (List.mem_cons_of_mem _ he))
      rw [nwF, h2]; simp [h1, ih]
theorem mrg_nil_map {c f : Int} : ∀ xs : List Dn, mrg c f xs [] = xs.map (nwD c f)
  | [] => rfl
  | x :: xs => by rw [mrg_nil, mrg_nil_map xs]; rfl
theorem tel_lrn {l : List Dn} {c s f : Int} (hv : vldD l = true) (hm : ∀ d ∈ l, d.t ≠ c) (h1 : 0 ≤ c ∧ c < 60) (h2 : 0 ≤ s ∧ s ≤ 1000000000) (h3 : 0 ≤ f ∧ f ≤ 999999997) : lrnB [] (telL l) c s f = true := by
  obtain ⟨a1, a2⟩ := vld_spec hv
  have e : telL l = l.map telD := by rw [telL, if_pos hv]
  have ht : toldB (telL l) = true := by
    rw [e]
    refine toldF_mk (List.pairwise_map.2 a1) fun d hd => ?_
    obtain ⟨x, hx, rfl⟩ := List.mem_map.1 hd
    have := a2 x hx
    exact ⟨by simp only [telD]; omega, this.1, this.2.1⟩
  have hall : (telL l).all (fun d => d.t != c) = true := by
    rw [e]
    refine List.all_eq_true.2 fun d hd => ?_
    obtain ⟨x, hx, rfl⟩ := List.mem_map.1 hd
    simpa [telD] using hm x hx
  have hv0 : vldD [] = true := rfl
  rw [lrnB, hv0, nodB_iff.2 h1, toldC, ht, hall]
  simp [h2.1, h2.2, h3.1, h3.2]
theorem tel_len {l : List Dn} {c s f : Int} (hv : vldD l = true) (h : lrnB [] (telL l) c s f = true) : (lrL [] (telL l) c s f).length = l.length + 1 := by
  obtain ⟨_, _, _, _, h5, h6⟩ := lrnB_spec h
  rw [← mrg_lrL h, mrg_nil_map, List.length_map]
  have := nwF_length (own := ⟨c, 0, s, 0⟩) (toldB_spec h5).1 h6
  rw [show newsL c s (telL l) = nwF ⟨c, 0, s, 0⟩ true (telL l) from rfl, this, telL, if_pos hv, List.length_map]
theorem tel_find {l : List Dn} {c s f : Int} (hv : vldD l = true) (h : lrnB [] (telL l) c s f = true) {d : Dn} (hd : d ∈ (⟨c, 0, s, 0⟩ : Dn) :: l) :
    ∃ (k : Nat) (r : Dn), (lrL [] (telL l) c s f)[k]? = some r ∧ idxD (fun e => e.t == d.t) (lrL [] (telL l) c s f) = (k : Int) ∧ r.n = c ∧ r.s = d.s := by
  obtain ⟨_, h2, _, _, h5, h6⟩ := lrnB_spec h
  obtain ⟨a1, a2⟩ := vld_spec hv
  obtain ⟨b1, _⟩ := toldB_spec h5
  have e : telL l = l.map telD := by rw [telL, if_pos hv]
  have key : getD' (lrL [] (telL l) c s f) d.t = some (lrN (telL l) c s f d.t) ∧ (lrN (telL l) c s f d.t).s = d.s := by
    rcases List.mem_cons.1 hd with rfl | hd
    · have hb : getD' (telL l) c = none := getD_none.2 h6
      rw [lrL_get, if_pos h2, lrOf, if_pos (by simp [lrIn])]
      exact ⟨rfl, by simp [lrN, hb]⟩
    · have hb : getD' (telL l) d.t = some (telD d) := getD_mem b1 (d := telD d) (by rw [e]; exact List.mem_map_of_mem hd)
      rw [lrL_get, if_pos (a2 d hd).1, lrOf, if_pos (by simp [lrIn, hb])]
      exact ⟨rfl, by simp [lrN, hb, telD]⟩
  rcases idx_get (lrL [] (telL l) c s f) d.t with ⟨_, g⟩ | ⟨k, r, g1, g2, g3⟩
  · rw [key.1] at g; cases g
  · rw [key.1] at g3
    have hr := Option.some.inj g3
    exact ⟨k, r, g1, g2, by rw [← hr]; rfl, by rw [← hr]; exact key.2⟩
theorem built_own (w : World) (ds : List Dn) (hl : ds.length ≤ 100) : (w.alloc (.cells (flatT dnL ds).toArray 35)).ownsRow w.heap.size 35 4 (.slice (some ⟨w.heap.size, 0, none⟩) ds.length ds.length) ds.length (flatT dnL ds) := by
  have hf : (flatT dnL ds).length = ds.length * 4 := flatT_len ds
  have hf2 : (flatT dnL ds).toArray.toList.length = ds.length * 4 := by simpa using hf
  refine ⟨hf, .inr ⟨w.heap.size, ds.length, (flatT dnL ds).toArray, rfl, Nat.le_refl _, own_new w _ _, Nat.le_refl _, by unfold maxLen; omega, by simpa using hf, ?_⟩⟩
  exact List.take_of_length_le (by omega)

set_option linter.unusedSimpArgs false in
set_option linter.unusedVariables false in
set_option maxRecDepth 100000 in
set_option maxHeartbeats 2000000 in
theorem tells_w0 (v : Value) (ls : List Dn) (c s f : Int) (w : World) (sl : SlD w v ls) (h70 : 70 < ls.length) : Calls Try.prog 9 #[v, .int .i64 c, .int .i64 s, .int .i64 f] w fun e w' => e = .returned (.bool true) ∧ Below w.heap.size w w' := by
  obtain ⟨p1, cap1, e0, hlc1, hcm1, hpn1⟩ := sl.form ls.length rfl
  subst e0
  have SL := Lib.hid sl
  have SLN := Lib.hid sl.none_len
  have HPN := Lib.hid hpn1
  have HS := Lib.hid (show (decide (ls.length ≤ 70) && decide (([] : List Dn).length ≤ 70)) = false by simp; omega)
  clear hpn1 sl
  go_enter Try.func9, Try.ntmps9
  go_wp2_with fail
  refine (head_true _).mono ?_
  rintro e w1 ⟨rfl, hb⟩
  replace SL := Lib.hid (SL.out.below hb)
  have B := Lib.hid hb
  clear hb
  go_wp2_with fail
  refine (short_lit _ (.slice none 0 0) ls [] false _ SL.out (slt_nil _) HS.out).mono ?_
  rintro e w2 ⟨rfl, rfl⟩

  go_wp2_with fail
  all_goals (go_ret; exact ⟨rfl, B.out⟩)

set_option linter.unusedSimpArgs false in
set_option linter.unusedVariables false in
set_option maxRecDepth 100000 in
set_option maxHeartbeats 2000000 in
theorem tells_w1 (v : Value) (ls : List Dn) (c s f : Int) (w : World) (sl : SlD w v ls) (h70 : ls.length ≤ 70) (hv : vldD ls = false) : Calls Try.prog 9 #[v, .int .i64 c, .int .i64 s, .int .i64 f] w fun e w' => e = .returned (.bool true) ∧ Below w.heap.size w w' := by
  obtain ⟨p1, cap1, e0, hlc1, hcm1, hpn1⟩ := sl.form ls.length rfl
  subst e0
  have SL := Lib.hid sl
  have SLN := Lib.hid sl.none_len
  have HPN := Lib.hid hpn1
  have HS := Lib.hid (show (decide (ls.length ≤ 70) && decide (([] : List Dn).length ≤ 70)) = true by simp; omega)
  have HV := Lib.hid hv
  clear hv
  clear hpn1 sl
  go_enter Try.func9, Try.ntmps9
  go_wp2_with fail
  refine (head_true _).mono ?_
  rintro e w1 ⟨rfl, hb⟩
  replace SL := Lib.hid (SL.out.below hb)
  have B := Lib.hid hb
  clear hb
  go_wp2_with fail
  refine (short_lit _ (.slice none 0 0) ls [] true _ SL.out (slt_nil _) HS.out).mono ?_
  rintro e w2 ⟨rfl, rfl⟩
  go_wp2_with fail
  refine (rdvalid_lit _ ls false _ SL.out HV.out).mono ?_
  rintro e w3 ⟨rfl, hb⟩
  replace SL := Lib.hid (SL.out.below hb)
  replace B := Lib.hid (B.out.trans (hb.mono B.out.size))
  clear hb
  go_wp2_with fail
  all_goals (go_ret; exact ⟨rfl, B.out⟩)

set_option linter.unusedSimpArgs false in
set_option linter.unusedVariables false in
set_option maxRecDepth 100000 in
set_option maxHeartbeats 2000000 in
theorem tells_w2 (v : Value) (ls : List Dn) (c s f : Int) (w : World) (sl : SlD w v ls) (h70 : ls.length ≤ 70) (hv : vldD ls = true) (hx : 0 ≤ idxD (fun e => e.t == c) ls) : Calls Try.prog 9 #[v, .int .i64 c, .int .i64 s, .int .i64 f] w fun e w' => e = .returned (.bool true) ∧ Below w.heap.size w w' := by
  obtain ⟨p1, cap1, e0, hlc1, hcm1, hpn1⟩ := sl.form ls.length rfl
  subst e0
  have SL := Lib.hid sl
  have SLN := Lib.hid sl.none_len
  have HPN := Lib.hid hpn1
  have HS := Lib.hid (show (decide (ls.length ≤ 70) && decide (([] : List Dn).length ≤ 70)) = true by simp; omega)
  have HV := Lib.hid hv
  clear hv
  obtain ⟨X, hX⟩ : ∃ X, idxD (fun e => e.t == c) ls = X := ⟨_, rfl⟩
  rw [hX] at hx
  have HX := Lib.hid hX
  clear hX
  clear hpn1 sl
  go_enter Try.func9, Try.ntmps9
  go_wp2_with fail
  refine (head_true _).mono ?_
  rintro e w1 ⟨rfl, hb⟩
  replace SL := Lib.hid (SL.out.below hb)
  have B := Lib.hid hb
  clear hb
  go_wp2_with fail
  refine (short_lit _ (.slice none 0 0) ls [] true _ SL.out (slt_nil _) HS.out).mono ?_
  rintro e w2 ⟨rfl, rfl⟩
  go_wp2_with fail
  refine (rdvalid_lit _ ls true _ SL.out HV.out).mono ?_
  rintro e w3 ⟨rfl, hb⟩
  replace SL := Lib.hid (SL.out.below hb)
  replace B := Lib.hid (B.out.trans (hb.mono B.out.size))
  clear hb
  go_wp2_with fail
  refine (rfind_lit _ ls c X _ SL.out HX.out).mono ?_
  rintro e w4 ⟨rfl, rfl⟩
  go_wp2_with fail
  all_goals (go_ret; exact ⟨rfl, B.out⟩)

set_option linter.unusedSimpArgs false in
set_option linter.unusedVariables false in
set_option maxRecDepth 100000 in
set_option maxHeartbeats 2000000 in
theorem tells_w3 (v : Value) (ls : List Dn) (c s f : Int) (w : World) (sl : SlD w v ls) (h70 : ls.length ≤ 70) (hv : vldD ls = true) (hx : ¬ 0 ≤ idxD (fun e => e.t == c) ls) (k1 : decide (c < 0) = true) : Calls Try.prog 9 #[v, .int .i64 c, .int .i64 s, .int .i64 f] w fun e w' => e = .returned (.bool true) ∧ Below w.heap.size w w' := by
  obtain ⟨p1, cap1, e0, hlc1, hcm1, hpn1⟩ := sl.form ls.length rfl
  subst e0
  have SL := Lib.hid sl
  have SLN := Lib.hid sl.none_len
  have HPN := Lib.hid hpn1
  have HS := Lib.hid (show (decide (ls.length ≤ 70) && decide (([] : List Dn).length ≤ 70)) = true by simp; omega)
  have HV := Lib.hid hv
  clear hv
  obtain ⟨X, hX⟩ : ∃ X, idxD (fun e => e.t == c) ls = X := ⟨_, rfl⟩
  rw [hX] at hx
  have HX := Lib.hid hX
  clear hX
  clear hpn1 sl
  go_enter Try.func9, Try.ntmps9
  go_wp2_with fail
  refine (head_true _).mono ?_
  rintro e w1 ⟨rfl, hb⟩
  replace SL := Lib.hid (SL.out.below hb)
  have B := Lib.hid hb
  clear hb
  go_wp2_with fail
  refine (short_lit _ (.slice none 0 0) ls [] true _ SL.out (slt_nil _) HS.out).mono ?_
  rintro e w2 ⟨rfl, rfl⟩
  go_wp2_with fail
  refine (rdvalid_lit _ ls true _ SL.out HV.out).mono ?_
  rintro e w3 ⟨rfl, hb⟩
  replace SL := Lib.hid (SL.out.below hb)
  replace B := Lib.hid (B.out.trans (hb.mono B.out.size))
  clear hb
  go_wp2_with fail
  refine (rfind_lit _ ls c X _ SL.out HX.out).mono ?_
  rintro e w4 ⟨rfl, rfl⟩
  go_wp2_with fail
  all_goals (go_ret; exact ⟨rfl, B.out⟩)

set_option linter.unusedSimpArgs false in
set_option linter.unusedVariables false in
set_option maxRecDepth 100000 in
set_option maxHeartbeats 2000000 in
theorem tells_w4 (v : Value) (ls : List Dn) (c s f : Int) (w : World) (sl : SlD w v ls) (h70 : ls.length ≤ 70) (hv : vldD ls = true) (hx : ¬ 0 ≤ idxD (fun e => e.t == c) ls) (k1 : decide (c < 0) = false) (k2 : decide (60 ≤ c) = true) : Calls Try.prog 9 #[v, .int .i64 c, .int .i64 s, .int .i64 f] w fun e w' => e = .returned (.bool true) ∧ Below w.heap.size w w' := by
  obtain ⟨p1, cap1, e0, hlc1, hcm1, hpn1⟩ := sl.form ls.length rfl
  subst e0
  have SL := Lib.hid sl
  have SLN := Lib.hid sl.none_len
  have HPN := Lib.hid hpn1
  have HS := Lib.hid (show (decide (ls.length ≤ 70) && decide (([] : List Dn).length ≤ 70)) = true by simp; omega)
  have HV := Lib.hid hv
  clear hv
  obtain ⟨X, hX⟩ : ∃ X, idxD (fun e => e.t == c) ls = X := ⟨_, rfl⟩
  rw [hX] at hx
  have HX := Lib.hid hX
  clear hX
  clear hpn1 sl
  go_enter Try.func9, Try.ntmps9
  go_wp2_with fail
  refine (head_true _).mono ?_
  rintro e w1 ⟨rfl, hb⟩
  replace SL := Lib.hid (SL.out.below hb)
  have B := Lib.hid hb
  clear hb
  go_wp2_with fail
  refine (short_lit _ (.slice none 0 0) ls [] true _ SL.out (slt_nil _) HS.out).mono ?_
  rintro e w2 ⟨rfl, rfl⟩
  go_wp2_with fail
  refine (rdvalid_lit _ ls true _ SL.out HV.out).mono ?_
  rintro e w3 ⟨rfl, hb⟩
  replace SL := Lib.hid (SL.out.below hb)
  replace B := Lib.hid (B.out.trans (hb.mono B.out.size))
  clear hb
  go_wp2_with fail
  refine (rfind_lit _ ls c X _ SL.out HX.out).mono ?_
  rintro e w4 ⟨rfl, rfl⟩
  go_wp2_with fail
  all_goals (go_ret; exact ⟨rfl, B.out⟩)

set_option linter.unusedSimpArgs false in
set_option linter.unusedVariables false in
set_option maxRecDepth 100000 in
set_option maxHeartbeats 2000000 in
theorem tells_w5 (v : Value) (ls : List Dn) (c s f : Int) (w : World) (sl : SlD w v ls) (h70 : ls.length ≤ 70) (hv : vldD ls = true) (hx : ¬ 0 ≤ idxD (fun e => e.t == c) ls) (k1 : decide (c < 0) = false) (k2 : decide (60 ≤ c) = false) (k3 : decide (s < 0) = true) : Calls Try.prog 9 #[v, .int .i64 c, .int .i64 s, .int .i64 f] w fun e w' => e = .returned (.bool true) ∧ Below w.heap.size w w' := by
  obtain ⟨p1, cap1, e0, hlc1, hcm1, hpn1⟩ := sl.form ls.length rfl
  subst e0
  have SL := Lib.hid sl
  have SLN := Lib.hid sl.none_len
  have HPN := Lib.hid hpn1
  have HS := Lib.hid (show (decide (ls.length ≤ 70) && decide (([] : List Dn).length ≤ 70)) = true by simp; omega)
  have HV := Lib.hid hv
  clear hv
  obtain ⟨X, hX⟩ : ∃ X, idxD (fun e => e.t == c) ls = X := ⟨_, rfl⟩
  rw [hX] at hx
  have HX := Lib.hid hX
  clear hX
  clear hpn1 sl
  go_enter Try.func9, Try.ntmps9
  go_wp2_with fail
  refine (head_true _).mono ?_
  rintro e w1 ⟨rfl, hb⟩
  replace SL := Lib.hid (SL.out.below hb)
  have B := Lib.hid hb
  clear hb
  go_wp2_with fail
  refine (short_lit _ (.slice none 0 0) ls [] true _ SL.out (slt_nil _) HS.out).mono ?_
  rintro e w2 ⟨rfl, rfl⟩
  go_wp2_with fail
  refine (rdvalid_lit _ ls true _ SL.out HV.out).mono ?_
  rintro e w3 ⟨rfl, hb⟩
  replace SL := Lib.hid (SL.out.below hb)
  replace B := Lib.hid (B.out.trans (hb.mono B.out.size))
  clear hb
  go_wp2_with fail
  refine (rfind_lit _ ls c X _ SL.out HX.out).mono ?_
  rintro e w4 ⟨rfl, rfl⟩
  go_wp2_with fail
  all_goals (go_ret; exact ⟨rfl, B.out⟩)

set_option linter.unusedSimpArgs false in
set_option linter.unusedVariables false in
set_option maxRecDepth 100000 in
set_option maxHeartbeats 2000000 in
theorem tells_w6 (v : Value) (ls : List Dn) (c s f : Int) (w : World) (sl : SlD w v ls) (h70 : ls.length ≤ 70) (hv : vldD ls = true) (hx : ¬ 0 ≤ idxD (fun e => e.t == c) ls) (k1 : decide (c < 0) = false) (k2 : decide (60 ≤ c) = false) (k3 : decide (s < 0) = false) (k4 : decide (1000000000 < s) = true) : Calls Try.prog 9 #[v, .int .i64 c, .int .i64 s, .int .i64 f] w fun e w' => e = .returned (.bool true) ∧ Below w.heap.size w w' := by
  obtain ⟨p1, cap1, e0, hlc1, hcm1, hpn1⟩ := sl.form ls.length rfl
  subst e0
  have SL := Lib.hid sl
  have SLN := Lib.hid sl.none_len
  have HPN := Lib.hid hpn1
  have HS := Lib.hid (show (decide (ls.length ≤ 70) && decide (([] : List Dn).length ≤ 70)) = true by simp; omega)
  have HV := Lib.hid hv
  clear hv
  obtain ⟨X, hX⟩ : ∃ X, idxD (fun e => e.t == c) ls = X := ⟨_, rfl⟩
  rw [hX] at hx
  have HX := Lib.hid hX
  clear hX
  clear hpn1 sl
  go_enter Try.func9, Try.ntmps9
  go_wp2_with fail
  refine (head_true _).mono ?_
  rintro e w1 ⟨rfl, hb⟩
  replace SL := Lib.hid (SL.out.below hb)
  have B := Lib.hid hb
  clear hb
  go_wp2_with fail
  refine (short_lit _ (.slice none 0 0) ls [] true _ SL.out (slt_nil _) HS.out).mono ?_
  rintro e w2 ⟨rfl, rfl⟩
  go_wp2_with fail
  refine (rdvalid_lit _ ls true _ SL.out HV.out).mono ?_
  rintro e w3 ⟨rfl, hb⟩
  replace SL := Lib.hid (SL.out.below hb)
  replace B := Lib.hid (B.out.trans (hb.mono B.out.size))
  clear hb
  go_wp2_with fail
  refine (rfind_lit _ ls c X _ SL.out HX.out).mono ?_
  rintro e w4 ⟨rfl, rfl⟩
  go_wp2_with fail
  all_goals (go_ret; exact ⟨rfl, B.out⟩)

set_option linter.unusedSimpArgs false in
set_option linter.unusedVariables false in
set_option maxRecDepth 100000 in
set_option maxHeartbeats 2000000 in
theorem tells_w7 (v : Value) (ls : List Dn) (c s f : Int) (w : World) (sl : SlD w v ls) (h70 : ls.length ≤ 70) (hv : vldD ls = true) (hx : ¬ 0 ≤ idxD (fun e => e.t == c) ls) (k1 : decide (c < 0) = false) (k2 : decide (60 ≤ c) = false) (k3 : decide (s < 0) = false) (k4 : decide (1000000000 < s) = false) (k5 : decide (f < 0) = true) : Calls Try.prog 9 #[v, .int .i64 c, .int .i64 s, .int .i64 f] w fun e w' => e = .returned (.bool true) ∧ Below w.heap.size w w' := by
  obtain ⟨p1, cap1, e0, hlc1, hcm1, hpn1⟩ := sl.form ls.length rfl
  subst e0
  have SL := Lib.hid sl
  have SLN := Lib.hid sl.none_len
  have HPN := Lib.hid hpn1
  have HS := Lib.hid (show (decide (ls.length ≤ 70) && decide (([] : List Dn).length ≤ 70)) = true by simp; omega)
  have HV := Lib.hid hv
  clear hv
  obtain ⟨X, hX⟩ : ∃ X, idxD (fun e => e.t == c) ls = X := ⟨_, rfl⟩
  rw [hX] at hx
  have HX := Lib.hid hX
  clear hX
  clear hpn1 sl
  go_enter Try.func9, Try.ntmps9
  go_wp2_with fail
  refine (head_true _).mono ?_
  rintro e w1 ⟨rfl, hb⟩
  replace SL := Lib.hid (SL.out.below hb)
  have B := Lib.hid hb
  clear hb
  go_wp2_with fail
  refine (short_lit _ (.slice none 0 0) ls [] true _ SL.out (slt_nil _) HS.out).mono ?_
  rintro e w2 ⟨rfl, rfl⟩
  go_wp2_with fail
  refine (rdvalid_lit _ ls true _ SL.out HV.out).mono ?_
  rintro e w3 ⟨rfl, hb⟩
  replace SL := Lib.hid (SL.out.below hb)
  replace B := Lib.hid (B.out.trans (hb.mono B.out.size))
  clear hb
  go_wp2_with fail
  refine (rfind_lit _ ls c X _ SL.out HX.out).mono ?_
  rintro e w4 ⟨rfl, rfl⟩
  go_wp2_with fail
  all_goals (go_ret; exact ⟨rfl, B.out⟩)

set_option linter.unusedSimpArgs false in
set_option linter.unusedVariables false in
set_option maxRecDepth 100000 in
set_option maxHeartbeats 2000000 in
theorem tells_w8 (v : Value) (ls : List Dn) (c s f : Int) (w : World) (sl : SlD w v ls) (h70 : ls.length ≤ 70) (hv : vldD ls = true) (hx : ¬ 0 ≤ idxD (fun e => e.t == c) ls) (k1 : decide (c < 0) = false) (k2 : decide (60 ≤ c) = false) (k3 : decide (s < 0) = false) (k4 : decide (1000000000 < s) = false) (k5 : decide (f < 0) = false) (k6 : decide (999999997 < f) = true) : Calls Try.prog 9 #[v, .int .i64 c, .int .i64 s, .int .i64 f] w fun e w' => e = .returned (.bool true) ∧ Below w.heap.size w w' := by
  obtain ⟨p1, cap1, e0, hlc1, hcm1, hpn1⟩ := sl.form ls.length rfl
  subst e0
  have SL := Lib.hid sl
  have SLN := Lib.hid sl.none_len
  have HPN := Lib.hid hpn1
  have HS := Lib.hid (show (decide (ls.length ≤ 70) && decide (([] : List Dn).length ≤ 70)) = true by simp; omega)
  have HV := Lib.hid hv
  clear hv
  obtain ⟨X, hX⟩ : ∃ X, idxD (fun e => e.t == c) ls = X := ⟨_, rfl⟩
  rw [hX] at hx
  have HX := Lib.hid hX
  clear hX
  clear hpn1 sl
  go_enter Try.func9, Try.ntmps9
  go_wp2_with fail
  refine (head_true _).mono ?_
  rintro e w1 ⟨rfl, hb⟩
  replace SL := Lib.hid (SL.out.below hb)
  have B := Lib.hid hb
  clear hb
  go_wp2_with fail
  refine (short_lit _ (.slice none 0 0) ls [] true _ SL.out (slt_nil _) HS.out).mono ?_
  rintro e w2 ⟨rfl, rfl⟩
  go_wp2_with fail
  refine (rdvalid_lit _ ls true _ SL.out HV.out).mono ?_
  rintro e w3 ⟨rfl, hb⟩
  replace SL := Lib.hid (SL.out.below hb)
  replace B := Lib.hid (B.out.trans (hb.mono B.out.size))
  clear hb
  go_wp2_with fail
  refine (rfind_lit _ ls c X _ SL.out HX.out).mono ?_
  rintro e w4 ⟨rfl, rfl⟩
  go_wp2_with fail
  all_goals (go_ret; exact ⟨rfl, B.out⟩)

set_option linter.unusedSimpArgs false in
set_option linter.unusedVariables false in
set_option maxRecDepth 100000 in
set_option maxHeartbeats 2000000 in
theorem tells_on (v : Value) (ls : List Dn) (c s f : Int) (w : World) (sl : SlD w v ls) (h70 : ls.length ≤ 70) (hv : vldD ls = true) (hx : ¬ 0 ≤ idxD (fun e => e.t == c) ls) (k1 : decide (c < 0) = false) (k2 : decide (60 ≤ c) = false) (k3 : decide (s < 0) = false) (k4 : decide (1000000000 < s) = false) (k5 : decide (f < 0) = false) (k6 : decide (999999997 < f) = false) : Calls Try.prog 9 #[v, .int .i64 c, .int .i64 s, .int .i64 f] w fun e w' => e = .returned (.bool true) ∧ Below w.heap.size w w' := by
  obtain ⟨p1, cap1, e0, hlc1, hcm1, hpn1⟩ := sl.form ls.length rfl
  subst e0
  have SL := Lib.hid sl
  have SLN := Lib.hid sl.none_len
  have HPN := Lib.hid hpn1
  have hc := of_decide_eq_false k1
  have hc2 := of_decide_eq_false k2
  have hs := of_decide_eq_false k3
  have hs2 := of_decide_eq_false k4
  have hf := of_decide_eq_false k5
  have hf2 := of_decide_eq_false k6
  have hgood : lrnB [] (telL ls) c s f = true := tel_lrn hv (fun d hd e => hx (idx_nonneg.2 (by rw [← e, getD_mem (vld_spec hv).1 hd]; rfl))) ⟨by omega, by omega⟩ ⟨by omega, by omega⟩ ⟨by omega, by omega⟩
  obtain ⟨ms, hms⟩ : ∃ ms, lrL [] (telL ls) c s f = ms := ⟨_, rfl⟩
  have HG := Lib.hid (show lrX [] (telL ls) c s f = ms ∧ lrE [] (telL ls) c s f = 0 by rw [← hms]; exact lrX_good hgood)
  have hml : ms.length = ls.length + 1 := by rw [← hms]; exact tel_len hv hgood
  have FND := Lib.hid (show ∀ d ∈ (⟨c, 0, s, 0⟩ : Dn) :: ls, ∃ (k : Nat) (r : Dn), ms[k]? = some r ∧ idxD (fun e => e.t == d.t) ms = (k : Int) ∧ r.n = c ∧ r.s = d.s by rw [← hms]; exact fun d hd => tel_find hv hgood hd)
  have ht70 : (telL ls).length ≤ 70 := by rw [telL, if_pos hv, List.length_map]; exact h70
  obtain ⟨i0, hi, hz, hs0, hb0⟩ := info_parts info_dn
  clear hc hc2 hs hs2 hf hf2 hgood hms
  have HS := Lib.hid (show (decide (ls.length ≤ 70) && decide (([] : List Dn).length ≤ 70)) = true by simp; omega)
  have HV := Lib.hid hv
  clear hv
  obtain ⟨X, hX⟩ : ∃ X, idxD (fun e => e.t == c) ls = X := ⟨_, rfl⟩
  rw [hX] at hx
  have HX := Lib.hid hX
  clear hX
  clear hpn1 sl
  go_enter Try.func9, Try.ntmps9
  go_wp2_with fail
  refine (head_true _).mono ?_
  rintro e w1 ⟨rfl, hb⟩
  replace SL := Lib.hid (SL.out.below hb)
  have B := Lib.hid hb
  clear hb
  go_wp2_with fail
  refine (short_lit _ (.slice none 0 0) ls [] true _ SL.out (slt_nil _) HS.out).mono ?_
  rintro e w2 ⟨rfl, rfl⟩
  go_wp2_with fail
  refine (rdvalid_lit _ ls true _ SL.out HV.out).mono ?_
  rintro e w3 ⟨rfl, hb⟩
  replace SL := Lib.hid (SL.out.below hb)
  replace B := Lib.hid (B.out.trans (hb.mono B.out.size))
  clear hb
  go_wp2_with fail
  refine (rfind_lit _ ls c X _ SL.out HX.out).mono ?_
  rintro e w4 ⟨rfl, rfl⟩
  go_wp2_with fail
  refine (tel_any _ ls _ SL.out h70).mono ?_
  rintro e w4 ⟨vt, rfl, hs, hb⟩
  have STL := Lib.hid (hs)
  replace SL := Lib.hid (SL.out.below hb)
  replace B := Lib.hid (B.out.trans (hb.mono B.out.size))
  clear hb hs
  go_wp2_with fail
  refine (learn_lit (.slice none 0 0) _ [] (telL ls) c s f ms 0 _ (slt_nil _) STL.out (by decide) ht70 HG.out).mono ?_
  rintro e w5 ⟨vm, rfl, hs, hb⟩
  have SM := Lib.hid (hs)
  replace SL := Lib.hid (SL.out.below hb)
  replace B := Lib.hid (B.out.trans (hb.mono B.out.size))
  clear hb STL hs
  obtain ⟨M, hM⟩ : ∃ M, ms.length = M := ⟨_, rfl⟩
  obtain ⟨pm, cm, e0, hmc, hmm, _⟩ := SM.out.form M hM
  subst e0
  have HM := Lib.hid hM
  have wl : IntKind.i64.wrap ((ls.length : Int) + 1) = (ls.length : Int) + 1 := IntWalk.i64_in _ (by omega)
  have hq1 : ((M : Int) != (ls.length : Int) + 1) = false := by simp [bne]; omega
  have hq2 : ((M : Int) == (ls.length : Int) + 1) = true := by simp; omega
  clear hml hM
  cases p1 with
  | none =>
    obtain rfl : cap1 = 0 := HPN.out rfl
    obtain rfl : ls = [] := SLN.out rfl
    go_wp2_with (first | (at_builtin; refine wpList_append_own_none rfl _ _ 22 rfl w5.heap.size 35 i0 4 (by kernel_rfl) hi _ _ _ rfl (built_own w5 [(⟨c, 0, s, 0⟩ : Dn)] (by simp)) rfl ?_) | fail)
    have SC := Lib.hid (show SlD (w5.alloc (.cells (flatT dnL [(⟨c, 0, s, 0⟩ : Dn)]).toArray 35)) (.slice (some ⟨w5.heap.size, 0, none⟩) 1 1) [(⟨c, 0, s, 0⟩ : Dn)] from built w5 [(⟨c, 0, s, 0⟩ : Dn)] _ rfl (by simp))
    have SMz := Lib.hid (SM.out.below (belowNew w5 (.cells (flatT dnL [(⟨c, 0, s, 0⟩ : Dn)]).toArray 35)))
    have BZ := Lib.hid (B.out.trans ((belowNew w5 (.cells (flatT dnL [(⟨c, 0, s, 0⟩ : Dn)]).toArray 35)).mono B.out.size))
    have HN := Lib.hid (show ([(⟨c, 0, s, 0⟩ : Dn)] : List Dn).length = 1 from rfl)
    clear SM
    have SM := SMz
    clear SMz
    obtain ⟨b9, hb9⟩ : ∃ b9, w5.heap.size = b9 := ⟨_, rfl⟩
    rw [hb9] at SC ⊢
    clear hb9
    change Code.wp _ _ _ _ (w5.alloc (.cells (flatT dnL [(⟨c, 0, s, 0⟩ : Dn)]).toArray 35))
    generalize w5.alloc (.cells (flatT dnL [(⟨c, 0, s, 0⟩ : Dn)]).toArray 35) = wz at SC SM BZ ⊢
    go_loopw [81] (fun ii wr => ∃ (i : Nat), i ≤ 1 ∧ ii = .int .i64 i ∧ Below wz.heap.size wz wr) (fun i _ => 1 - (intOf i).toNat)
    case atStart => exact ⟨0, by omega, rfl, Below.refl _ _⟩
    case round =>
      obtain ⟨i, hi', rfl, hb⟩ := hrel
      have BL := Lib.hid hb
      clear hb
      have j0 : (0 : Int) ≤ (i : Int) := Int.natCast_nonneg _
      by_cases hlt : i < 1
      · obtain ⟨d, b, off, hd, e9, hbl, _, d0, d1, d2, d3⟩ := SC.out.at4 BL.out (i := i) (by rw [HN.out]; exact hlt)
        cases e9
        (try simp only [Nat.zero_add] at d0 d1 d2 d3)
        have j1 : (i : Int) < (1 : Int) := by omega
        obtain ⟨k, r, hk, hidx, hn, hs'⟩ := FND.out d (List.mem_of_getElem? hd)
        have hkl := (List.getElem?_eq_some_iff.1 hk).1
        obtain ⟨r', bm, offm, hr', rfl, hbm, _, e0, e1, e2, e3⟩ := SM.out.at4 BL.out hkl
        obtain rfl : r = r' := by rw [hk] at hr'; exact Option.some.inj hr'
        rw [hn] at e1
        rw [hs'] at e2
        have k0 : (0 : Int) ≤ (k : Int) := Int.natCast_nonneg _
        have kk0 : ¬ (k : Int) < 0 := by omega
        have kk1 : (k : Int) < (M : Int) := by have := HM.out; omega
        clear hkl
        have HK := Lib.hid hidx
        have SM1 := Lib.hid (SM.out.below BL.out)
        clear hd hk hidx hr' hn hs' e0 e3
        go_wp2_with (first | (go_at_call 22; refine (rfind_lit _ ms d.t (k : Int) _ (SM1.out.below (belowNew _ _)) HK.out).mono ?_; rintro e w9 ⟨rfl, rfl⟩) | fail)
        go_quiet (fail)
        go_wp2_with fail
        go_roundw
        case rel => exact ⟨i + 1, by omega, by go_num, belowN (BL.out.trans ((belowNew _ _).mono BL.out.size))⟩
        case measure => simp [intOf]; omega
      · go_wp2_with fail
        go_ret
        exact ⟨rfl, BZ.out.trans (BL.out.mono BZ.out.size)⟩
  | some ad =>
    have OL := Lib.hid ((SL.out.below (belowNew w5 (.cells (flatT dnL [(⟨c, 0, s, 0⟩ : Dn)]).toArray 35))).olds ad rfl)
    go_wp2_with (first | (at_builtin; refine wpList_append_own _ rfl _ _ 22 rfl w5.heap.size 35 i0 _ 4 32 (by kernel_rfl) hi hz hs0 hb0 rfl (by decide) _ 1 (flatT dnL [(⟨c, 0, s, 0⟩ : Dn)]) rfl (built_own w5 [(⟨c, 0, s, 0⟩ : Dn)] (by simp)) ad ls.length cap1 (flatT dnL ls) rfl (flatT_len ls) OL.out flatT_cell ?qc4 ?qc5 ?qc6 ?_) | fail)
    case qc4 => unfold maxLen; omega
    case qc5 => omega
    case qc6 => simp
    intro v2 wz hown hg2 _
    obtain ⟨N, hN⟩ : ∃ N, 1 + ls.length = N := ⟨_, rfl⟩
    have HN := Lib.hid (show ((⟨c, 0, s, 0⟩ : Dn) :: ls).length = N by rw [← hN, List.length_cons]; omega)
    have hb2 := Lib.hid (show Below w5.heap.size w5 wz from (belowNew w5 _).grown hg2 (by simp) (fun k hk => Nat.le_of_eq (by simpa [Value.ownBlock] using hk)))
    have SC := Lib.hid (show SlD wz v2 ((⟨c, 0, s, 0⟩ : Dn) :: ls) by
      have h2 : wz.ownsRow w5.heap.size 35 dnL.k v2 ((⟨c, 0, s, 0⟩ : Dn) :: ls).length (flatT dnL ((⟨c, 0, s, 0⟩ : Dn) :: ls)) := by
        rw [HN.out, ← hN]; exact hown
      exact slt_of_own (L := dnL) h2)
    have SMz := Lib.hid (SM.out.below hb2.out)
    have BZ := Lib.hid (B.out.trans (hb2.out.mono B.out.size))
    obtain ⟨p9, c9, e9, hn9, hc9, _⟩ := SC.out.form N HN.out
    subst e9
    clear hown hg2 hb2 SM
    have SM := SMz
    clear SMz
    go_wp2_with fail
    go_loopw [81] (fun ii wr => ∃ (i : Nat), i ≤ N ∧ ii = .int .i64 i ∧ Below wz.heap.size wz wr) (fun i _ => N - (intOf i).toNat)
    case atStart => exact ⟨0, by omega, rfl, Below.refl _ _⟩
    case round =>
      obtain ⟨i, hi', rfl, hb⟩ := hrel
      have BL := Lib.hid hb
      clear hb
      have j0 : (0 : Int) ≤ (i : Int) := Int.natCast_nonneg _
      by_cases hlt : i < N
      · obtain ⟨d, b, off, hd, e9, hbl, _, d0, d1, d2, d3⟩ := SC.out.at4 BL.out (i := i) (by rw [HN.out]; exact hlt)
        cases e9
        (try simp only [Nat.zero_add] at d0 d1 d2 d3)
        have j1 : (i : Int) < (N : Int) := by omega
        obtain ⟨k, r, hk, hidx, hn, hs'⟩ := FND.out d (List.mem_of_getElem? hd)
        have hkl := (List.getElem?_eq_some_iff.1 hk).1
        obtain ⟨r', bm, offm, hr', rfl, hbm, _, e0, e1, e2, e3⟩ := SM.out.at4 BL.out hkl
        obtain rfl : r = r' := by rw [hk] at hr'; exact Option.some.inj hr'
        rw [hn] at e1
        rw [hs'] at e2
        have k0 : (0 : Int) ≤ (k : Int) := Int.natCast_nonneg _
        have kk0 : ¬ (k : Int) < 0 := by omega
        have kk1 : (k : Int) < (M : Int) := by have := HM.out; omega
        clear hkl
        have HK := Lib.hid hidx
        have SM1 := Lib.hid (SM.out.below BL.out)
        clear hd hk hidx hr' hn hs' e0 e3
        go_wp2_with (first | (go_at_call 22; refine (rfind_lit _ ms d.t (k : Int) _ (SM1.out.below (belowNew _ _)) HK.out).mono ?_; rintro e w9 ⟨rfl, rfl⟩) | fail)
        go_quiet (fail)
        go_wp2_with fail
        go_roundw
        case rel => exact ⟨i + 1, by omega, by go_num, belowN (BL.out.trans ((belowNew _ _).mono BL.out.size))⟩
        case measure => simp [intOf]; omega
      · go_wp2_with fail
        go_ret
        exact ⟨rfl, BZ.out.trans (BL.out.mono BZ.out.size)⟩

theorem downTells_walk (v : Value) (ls : List Dn) (c s f : Int) (w : World) (sl : SlD w v ls) {q0 q1 q2 q3 : Prop} (_ : q0) (_ : q1) (_ : q2) (_ : q3) :
    Calls Try.prog 9 #[v, .int .i64 c, .int .i64 s, .int .i64 f] w fun e w' => e = .returned (.bool true) ∧ Below w.heap.size w w' := by
  by_cases h70 : ls.length ≤ 70
  · cases hv : vldD ls with
    | false => exact tells_w1 v ls c s f w sl h70 hv
    | true =>
      by_cases hx : 0 ≤ idxD (fun e => e.t == c) ls
      · exact tells_w2 v ls c s f w sl h70 hv hx
      · cases k1 : decide (c < 0) with
        | true => exact tells_w3 v ls c s f w sl h70 hv hx k1
        | false =>
          cases k2 : decide (60 ≤ c) with
          | true => exact tells_w4 v ls c s f w sl h70 hv hx k1 k2
          | false =>
            cases k3 : decide (s < 0) with
            | true => exact tells_w5 v ls c s f w sl h70 hv hx k1 k2 k3
            | false =>
              cases k4 : decide (1000000000 < s) with
              | true => exact tells_w6 v ls c s f w sl h70 hv hx k1 k2 k3 k4
              | false =>
                cases k5 : decide (f < 0) with
                | true => exact tells_w7 v ls c s f w sl h70 hv hx k1 k2 k3 k4 k5
                | false =>
                  cases k6 : decide (999999997 < f) with
                  | true => exact tells_w8 v ls c s f w sl h70 hv hx k1 k2 k3 k4 k5 k6
                  | false => exact tells_on v ls c s f w sl h70 hv hx k1 k2 k3 k4 k5 k6
  · exact tells_w0 v ls c s f w sl (by omega)

end Go.Proofs.Ytheifmdaladfdaa

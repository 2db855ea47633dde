/- The contract of queue.Drop. -/
import Derived.Test.YtlfdbmndikdhdaaConcat27
import Derived.Deep.RegionWith
namespace Go.Proofs.Ytlfdbmndikdhdaa
open Go.RowKit

/-- A queue is returned. -/
def SPost (w : World) (rs : List Rd) (e : Ending) (w' : World) : Prop :=
  ∃ v', e = .returned (.agg #[v']) ∧ SlR w' v' rs ∧ NilOk v' ∧ Below w.heap.size w w'
theorem SlR.front {w : World} {b off n cap k : Nat} {rs : List Rd} (h : SlR w (.slice (some ⟨b, off, none⟩) n cap) rs) (hk : k ≤ rs.length) : SlR w (.slice (some ⟨b, off, none⟩) k k) (rs.take k) := by
  obtain ⟨p', cap', e, h2, h3, h4⟩ := h
  obtain ⟨rfl, rfl, rfl⟩ : some (⟨b, off, none⟩ : Addr) = p' ∧ n = rs.length ∧ cap = cap' := by injection e with e1 e2 e3; exact ⟨e1, e2, e3⟩
  have hl : (rs.take k).length = k := by rw [List.length_take]; omega
  refine ⟨_, k, by rw [hl], by omega, by omega, fun i r hi => ?_⟩
  have hik : i < k := by have := (List.getElem?_eq_some_iff.1 hi).1; omega
  exact h4 i r (by rwa [List.getElem?_take_of_lt hik] at hi)
theorem SlR.back {w : World} {b off n cap k : Nat} {rs : List Rd} (h : SlR w (.slice (some ⟨b, off, none⟩) n cap) rs) : SlR w (.slice (some ⟨b, off + k * 5, none⟩) (n - k) (cap - k)) (rs.drop k) := by
  obtain ⟨p', cap', e, h2, h3, h4⟩ := h
  obtain ⟨rfl, rfl, rfl⟩ : some (⟨b, off, none⟩ : Addr) = p' ∧ n = rs.length ∧ cap = cap' := by injection e with e1 e2 e3; exact ⟨e1, e2, e3⟩
  refine ⟨_, cap - k, by rw [List.length_drop], by rw [List.length_drop]; omega, by omega, fun i r hi => ?_⟩
  rw [List.getElem?_drop] at hi
  obtain ⟨b', off', e', hlt, hc⟩ := h4 _ r hi
  injection e' with e'
  injection e' with e1 e2
  subst e1 e2
  refine ⟨_, _, rfl, hlt, fun j x hx => ?_⟩
  have := hc j x hx
  rwa [show off + (k + i) * 5 + j = off + k * 5 + i * 5 + j by omega] at this
theorem concat_lit (b : Nat) (p q : Addr) (n m cp cq : Nat) (rs ss : List Rd) (hn : n = rs.length) (hm : m = ss.length) (w : World) (hb : b < w.heap.size) (c0 : w.cell? ⟨b, 0, none⟩ = some (.slice (some p) n cp)) (c1 : w.cell? ⟨b, 1, none⟩ = some (.slice (some q) m cq))
    (s1 : SlR w (.slice (some p) n cp) rs) (s2 : SlR w (.slice (some q) m cq) ss) (h40 : n + m ≤ 100) :
    Calls Try.prog 29 #[.slice (some ⟨b, 0, none⟩) 2 2] w fun e w' => OwnP w (rs ++ ss) e w' := by
  subst hn hm
  exact concat_any b p q cp cq rs ss w hb c0 c1 s1 s2 h40
theorem spost_own {w w' : World} {B n b : Nat} {t : TypeId} {g gcap : Nat} {rs : List Rd} (hn : n = rs.length) (h : w'.ownsRow B t 5 (.slice (some ⟨g, 0, none⟩) n gcap) n (flat rs)) (hb : b < B) (bel : Below w.heap.size w w') (hw : w.heap.size ≤ b) :
    SPost w rs (.returned (.agg #[.slice (some ⟨g, 0, none⟩) n gcap])) (w'.setCell ⟨b, 0, none⟩ (.slice (some ⟨g, 0, none⟩) n gcap)) :=
  ⟨_, rfl, (slr_own_set hn h hb _).1, (slr_own_set hn h hb (.bool false)).2, belowSet bel _ _ _ hw⟩

set_option linter.unusedVariables false in
set_option maxRecDepth 100000 in
set_option maxHeartbeats 2000000 in
theorem drop_invalid (v : Value) (rs : List Rd) (o n : Int) (w : World) (sl : SlR w v rs) (hv : vdB rs = false) :
    Calls Try.prog 16 #[.agg #[v], .int .i64 o, .int .i64 n] w fun e w' => SPost w [] e w' := by
  obtain ⟨p, cap, rfl, hlc, hcm, parts⟩ := sl
  have sl0 : SlR w (.slice p rs.length cap) rs := ⟨_, cap, rfl, hlc, hcm, parts⟩
  have SL0 := Lib.hid sl0
  have SL := Lib.hid (sl0.below (((Below.refl w.heap.size w).alloc (by simp) (.cells #[.slice p rs.length cap] 24)).alloc (by simp) (.cells #[.slice none 0 0] 24)))
  unfold maxLen at hcm
  clear sl0 parts
  have HV := Lib.hid hv
  clear hv
  go_enter Try.func16, Try.ntmps16
  go_wp2_with fail
  refine (qvalid_lit (.slice p rs.length cap) rs false _ SL.out HV.out).mono ?_
  rintro e w1 ⟨rfl, hb⟩
  have oQ : Own w1 w.heap.size [.slice p rs.length cap] 24 := ((own_at _ _ rfl).alloc _).below hb
  have oP : Own w1 (w.heap.size + 1) [.slice none 0 0] 24 := (own_at _ _ (by simp)).below hb
  have bel := belowTo (((Below.refl w.heap.size w).alloc (by simp) _).alloc (by simp) _) hb (by simp; omega)
  clear hb 
  obtain ⟨cQ0, fQ, zQ⟩ := own1 oQ
  obtain ⟨cP0, fP, zP⟩ := own1 oP
  go_wp2_with fail
  refine bodyPost_ret (v := .agg #[.slice none 0 0]) (by simp [results, Try.results16, go_sem, *]) rfl ⟨.slice none 0 0, rfl, slr_nil _, nil_nil, ?_⟩
  repeat (first | (with_reducible exact bel) | (with_reducible refine belowSet ?_ _ _ _ ?_) | (with_reducible refine Below.drew ?_) | (with_reducible refine belowN ?_) | (with_reducible refine Below.alloc ?_ ?_ _))
  all_goals (first | omega | (simp; omega) | (simp; done) | (have := bel.size; simp; omega))

set_option linter.unusedVariables false in
set_option maxRecDepth 100000 in
set_option maxHeartbeats 2000000 in
theorem drop_none (v : Value) (rs : List Rd) (o n : Int) (w : World) (sl : SlR w v rs) (hv : vdB rs = true) (F : Int) (hd : fnd o n rs = F) (h0 : F < 0) :
    Calls Try.prog 16 #[.agg #[v], .int .i64 o, .int .i64 n] w fun e w' => SPost w rs e w' := by
  obtain ⟨p, cap, rfl, hlc, hcm, parts⟩ := sl
  have sl0 : SlR w (.slice p rs.length cap) rs := ⟨_, cap, rfl, hlc, hcm, parts⟩
  have SL0 := Lib.hid sl0
  have SL := Lib.hid (sl0.below (((Below.refl w.heap.size w).alloc (by simp) (.cells #[.slice p rs.length cap] 24)).alloc (by simp) (.cells #[.slice none 0 0] 24)))
  unfold maxLen at hcm
  clear sl0 parts
  have HD := Lib.hid hd
  clear hd
  have HV := Lib.hid hv
  clear hv
  go_enter Try.func16, Try.ntmps16
  go_wp2_with fail
  refine (qvalid_lit (.slice p rs.length cap) rs true _ SL.out HV.out).mono ?_
  rintro e w1 ⟨rfl, hb⟩
  have oQ : Own w1 w.heap.size [.slice p rs.length cap] 24 := ((own_at _ _ rfl).alloc _).below hb
  have oP : Own w1 (w.heap.size + 1) [.slice none 0 0] 24 := (own_at _ _ (by simp)).below hb
  have bel := belowTo (((Below.refl w.heap.size w).alloc (by simp) _).alloc (by simp) _) hb (by simp; omega)
  clear hb 
  obtain ⟨cQ0, fQ, zQ⟩ := own1 oQ
  obtain ⟨cP0, fP, zP⟩ := own1 oP
  have SL1 := Lib.hid (SL0.out.below bel)
  go_wp2_with fail
  refine (find_lit (.slice p rs.length cap) rs o n F _ SL1.out HD.out).mono ?_
  rintro e w2 ⟨rfl, hb⟩
  replace oQ := oQ.below hb
  replace oP := oP.below hb
  replace bel := belowTo bel hb (by exact bel.size)
  clear hb cQ0 fQ zQ cP0 fP zP
  obtain ⟨cQ0, fQ, zQ⟩ := own1 oQ
  obtain ⟨cP0, fP, zP⟩ := own1 oP
  have SL2 := Lib.hid (SL0.out.below bel)
  clear SL1
  go_wp2_with fail
  refine (clone_any (.slice p rs.length cap) rs _ SL2.out (by have := vd_len HV.out; omega)).mono ?_
  rintro e w3 ⟨v', rfl, hown, hbel⟩
  have HO := Lib.hid hown
  have HB := Lib.hid (belowTo bel hbel bel.size)
  replace oP := oP.below hbel
  have ZP := Lib.hid zP
  clear hown hbel bel cQ0 fQ zQ cP0 fP zP oQ
  obtain ⟨cP0, fP, zP⟩ := own1 oP
  rcases Joins.ownsRow_forms HO.out with ⟨rfl, h0⟩ | ⟨g, gcap, rfl⟩
  · obtain rfl : rs = [] := List.eq_nil_of_length_eq_zero h0
    go_wp2_with fail
    refine bodyPost_ret (v := .agg #[.slice none 0 0]) (by simp [results, Try.results16, go_sem, *]) rfl ⟨.slice none 0 0, rfl, slr_nil _, nil_nil, ?_⟩
    repeat (first | (with_reducible exact HB.out) | (with_reducible refine belowSet ?_ _ _ _ ?_) | (with_reducible refine Below.drew ?_) | (with_reducible refine belowN ?_) | (with_reducible refine Below.alloc ?_ ?_ _))
    all_goals (first | omega | (simp; omega) | (simp; done) | (have := HB.out.size; simp; omega))
  · go_wp2_with fail
    refine bodyPost_ret (v := .agg #[.slice (some ⟨g, 0, none⟩) rs.length gcap]) (by simp [results, Try.results16, go_sem, *]) rfl ?_
    exact spost_own rfl HO.out ZP.out HB.out (by omega)

theorem own_slice {w : World} {B n : Nat} {t : TypeId} {v : Value} {xs : List Value} (h : w.ownsRow B t 5 v n xs) : ∃ a m c, v = .slice a m c := by
  rcases h.2 with ⟨rfl, _⟩ | ⟨g, cap, cur, rfl, _⟩
  · exact ⟨_, _, _, rfl⟩
  · exact ⟨_, _, _, rfl⟩
theorem spost_any {w w' : World} {B n b : Nat} {t : TypeId} {v : Value} {rs : List Rd} (hn : n = rs.length) (h : w'.ownsRow B t 5 v n (flat rs)) (hb : b < B) (bel : Below w.heap.size w w') (hw : w.heap.size ≤ b) :
    SPost w rs (.returned (.agg #[v])) (w'.setCell ⟨b, 0, none⟩ v) := by
  have hs := slr_of_own hn (h.kept (Lib.grownBy_setCell w' b 0 v) (by
    cases e : v.ownBlock with
    | none => exact Or.inl rfl
    | some k =>
      refine Or.inr fun e2 => ?_
      have := (h.lt k e).1
      injection e2 with e2
      omega))
  exact ⟨_, rfl, hs.1, hs.2, belowSet bel _ _ _ hw⟩
theorem slr_zero (w : World) (p : Option Addr) (rs : List Rd) (h : rs = []) : SlR w (.slice p 0 0) rs := by
  subst h
  exact ⟨p, 0, rfl, Nat.le_refl _, by unfold maxLen; omega, fun i r h => by simp at h⟩

set_option linter.unusedVariables false in
set_option maxRecDepth 100000 in
set_option maxHeartbeats 2000000 in
theorem drop_mid (bb off : Nat) (cap : Nat) (rs : List Rd) (o n : Int) (w : World) (k : Nat) (hk : k < rs.length) (sl : SlR w (.slice (some ⟨bb, off, none⟩) rs.length cap) rs) (hv : vdB rs = true) (hd : fnd o n rs = (k : Int)) (hc : ¬ cap = k + 1) :
    Calls Try.prog 16 #[.agg #[.slice (some ⟨bb, off, none⟩) rs.length cap], .int .i64 o, .int .i64 n] w fun e w' => SPost w (rs.take k ++ rs.drop (k + 1)) e w' := by
  have SL0 := Lib.hid sl
  have SL := Lib.hid (sl.below (((Below.refl w.heap.size w).alloc (by simp) (.cells #[.slice (some ⟨bb, off, none⟩) rs.length cap] 24)).alloc (by simp) (.cells #[.slice none 0 0] 24)))
  obtain ⟨hlc, hcm⟩ : rs.length ≤ cap ∧ cap ≤ maxLen := by
    obtain ⟨p', cap', e, h2, h3, _⟩ := sl
    injection e with e1 e2 e3
    subst e3
    exact ⟨h2, h3⟩
  unfold maxLen at hcm
  clear sl
  have HD := Lib.hid hd
  clear hd
  have HV := Lib.hid hv
  clear hv
  go_enter Try.func16, Try.ntmps16
  go_wp2_with fail
  refine (qvalid_lit (.slice (some ⟨bb, off, none⟩) rs.length cap) rs true _ SL.out HV.out).mono ?_
  rintro e w1 ⟨rfl, hb⟩
  have oQ : Own w1 w.heap.size [.slice (some ⟨bb, off, none⟩) rs.length cap] 24 := ((own_at _ _ rfl).alloc _).below hb
  have oP : Own w1 (w.heap.size + 1) [.slice none 0 0] 24 := (own_at _ _ (by simp)).below hb
  have bel := belowTo (((Below.refl w.heap.size w).alloc (by simp) _).alloc (by simp) _) hb (by simp; omega)
  clear hb 
  obtain ⟨cQ0, fQ, zQ⟩ := own1 oQ
  obtain ⟨cP0, fP, zP⟩ := own1 oP
  have SL1 := Lib.hid (SL0.out.below bel)
  go_wp2_with fail
  refine (find_lit (.slice (some ⟨bb, off, none⟩) rs.length cap) rs o n (k : Int) _ SL1.out HD.out).mono ?_
  rintro e w2 ⟨rfl, hb⟩
  replace oQ := oQ.below hb
  replace oP := oP.below hb
  replace bel := belowTo bel hb (by exact bel.size)
  clear hb cQ0 fQ zQ cP0 fP zP
  obtain ⟨cQ0, fQ, zQ⟩ := own1 oQ
  obtain ⟨cP0, fP, zP⟩ := own1 oP
  have SL2 := Lib.hid (SL0.out.below bel)
  clear SL1
  go_wp2_with fail
  have hl16 := vd_len HV.out
  have k0 : (0:Int) ≤ (k : Int) := by omega
  have k1 : (k : Int) < (rs.length : Int) := by omega
  have k2 : (k : Int) + 1 ≤ (rs.length : Int) := by omega
  have k3 : (k : Int) ≤ (cap : Int) := by omega
  have k4 : (rs.length : Int) ≤ (cap : Int) := by omega
  have k5 : (rs.length : Int) ≤ 16 := by omega
  have k6 : (k : Int) + 1 ≤ (cap : Int) := by omega
  have k7 : ((k : Int) + 1).toNat = k + 1 := by omega
  have k8 : IntKind.i64.wrap ((k : Int) + 1) = (k : Int) + 1 := IntWalk.i64_in _ (by omega)
  have b3 : Below w2.heap.size w2 (w2.alloc (.cells #[.slice (some ⟨bb, off, none⟩) k k, .slice (some ⟨bb, off + (k + 1) * 5, none⟩) (rs.length - (k + 1)) (cap - (k + 1))] 22)).drew := ((Below.refl _ w2).alloc (Nat.le_refl _) _).drew
  have SA := Lib.hid ((SL2.out.below b3).front (k := k) (by omega))
  have SB := Lib.hid ((SL2.out.below b3).back (k := k + 1))
  have OP := Lib.hid (oP.below b3)
  have ZP := Lib.hid (Nat.lt_of_lt_of_le zP b3.size)
  have BA := Lib.hid (belowTo bel b3 bel.size)
  clear b3
  have HC := Lib.hid (concat_lit w2.heap.size ⟨bb, off, none⟩ ⟨bb, off + (k + 1) * 5, none⟩ k (rs.length - (k + 1)) k (cap - (k + 1)) (rs.take k) (rs.drop (k + 1)) (by rw [List.length_take]; omega) (by have := List.length_drop (i := k + 1) (l := rs); omega) (w2.alloc (.cells #[.slice (some ⟨bb, off, none⟩) k k, .slice (some ⟨bb, off + (k + 1) * 5, none⟩) (rs.length - (k + 1)) (cap - (k + 1))] 22)).drew (by simp) (by simp) (by simp) SA.out SB.out (by omega))
  go_region_with (go_at_call 29; refine HC.out.mono ?_; rintro e w3 ⟨v', rfl, hown, hbel⟩; obtain ⟨va, vn, vc, rfl⟩ := own_slice hown; have HO := Lib.hid hown; have HB := Lib.hid (belowTo BA.out hbel BA.out.size); have oP' := OP.out.below hbel; clear hown hbel; obtain ⟨cP', fP', zP'⟩ := own1 oP'; clear oP')
  all_goals (
    go_wp2_with fail
    refine bodyPost_ret (v := .agg #[.slice va vn vc]) (by simp [results, Try.results16, go_sem, *]) rfl ?_
    exact spost_any rfl HO.out ZP.out HB.out (by omega))

set_option linter.unusedVariables false in
set_option maxRecDepth 100000 in
set_option maxHeartbeats 2000000 in
theorem drop_last (bb off : Nat) (cap : Nat) (rs : List Rd) (o n : Int) (w : World) (k : Nat) (hk : k < rs.length) (sl : SlR w (.slice (some ⟨bb, off, none⟩) rs.length (k + 1)) rs) (hv : vdB rs = true) (hd : fnd o n rs = (k : Int)) :
    Calls Try.prog 16 #[.agg #[.slice (some ⟨bb, off, none⟩) rs.length (k + 1)], .int .i64 o, .int .i64 n] w fun e w' => SPost w (rs.take k ++ rs.drop (k + 1)) e w' := by
  have SL0 := Lib.hid sl
  have SL := Lib.hid (sl.below (((Below.refl w.heap.size w).alloc (by simp) (.cells #[.slice (some ⟨bb, off, none⟩) rs.length (k + 1)] 24)).alloc (by simp) (.cells #[.slice none 0 0] 24)))
  obtain ⟨hlc, hcm⟩ : rs.length ≤ (k + 1) ∧ (k + 1) ≤ maxLen := by
    obtain ⟨p', cap', e, h2, h3, _⟩ := sl
    injection e with e1 e2 e3
    subst e3
    exact ⟨h2, h3⟩
  unfold maxLen at hcm
  clear sl
  have HD := Lib.hid hd
  clear hd
  have HV := Lib.hid hv
  clear hv
  go_enter Try.func16, Try.ntmps16
  go_wp2_with fail
  refine (qvalid_lit (.slice (some ⟨bb, off, none⟩) rs.length (k + 1)) rs true _ SL.out HV.out).mono ?_
  rintro e w1 ⟨rfl, hb⟩
  have oQ : Own w1 w.heap.size [.slice (some ⟨bb, off, none⟩) rs.length (k + 1)] 24 := ((own_at _ _ rfl).alloc _).below hb
  have oP : Own w1 (w.heap.size + 1) [.slice none 0 0] 24 := (own_at _ _ (by simp)).below hb
  have bel := belowTo (((Below.refl w.heap.size w).alloc (by simp) _).alloc (by simp) _) hb (by simp; omega)
  clear hb 
  obtain ⟨cQ0, fQ, zQ⟩ := own1 oQ
  obtain ⟨cP0, fP, zP⟩ := own1 oP
  have SL1 := Lib.hid (SL0.out.below bel)
  go_wp2_with fail
  refine (find_lit (.slice (some ⟨bb, off, none⟩) rs.length (k + 1)) rs o n (k : Int) _ SL1.out HD.out).mono ?_
  rintro e w2 ⟨rfl, hb⟩
  replace oQ := oQ.below hb
  replace oP := oP.below hb
  replace bel := belowTo bel hb (by exact bel.size)
  clear hb cQ0 fQ zQ cP0 fP zP
  obtain ⟨cQ0, fQ, zQ⟩ := own1 oQ
  obtain ⟨cP0, fP, zP⟩ := own1 oP
  have SL2 := Lib.hid (SL0.out.below bel)
  clear SL1
  go_wp2_with fail
  have hl16 := vd_len HV.out
  have k0 : (0:Int) ≤ (k : Int) := by omega
  have k1 : (k : Int) < (rs.length : Int) := by omega
  have k2 : (k : Int) + 1 ≤ (rs.length : Int) := by omega
  have k3 : (k : Int) ≤ ((k + 1 : Nat) : Int) := by omega
  have k4 : (rs.length : Int) ≤ ((k + 1 : Nat) : Int) := by omega
  have k5 : (rs.length : Int) ≤ 16 := by omega
  have k6 : (k : Int) + 1 ≤ ((k + 1 : Nat) : Int) := by omega
  have k7 : ((k : Int) + 1).toNat = k + 1 := by omega
  have k8 : IntKind.i64.wrap ((k : Int) + 1) = (k : Int) + 1 := IntWalk.i64_in _ (by omega)
  have k9 : rs.length - (k + 1) = 0 := by omega
  have k10 : k + 1 - (k + 1) = 0 := by omega
  have b3 : Below w2.heap.size w2 (w2.alloc (.cells #[.slice (some ⟨bb, off, none⟩) k k, .slice (some ⟨bb, off, none⟩) 0 0] 22)).drew := ((Below.refl _ w2).alloc (Nat.le_refl _) _).drew
  have SA := Lib.hid ((SL2.out.below b3).front (k := k) (by omega))
  have SB := Lib.hid (slr_zero (w2.alloc (.cells #[.slice (some ⟨bb, off, none⟩) k k, .slice (some ⟨bb, off, none⟩) 0 0] 22)).drew (some ⟨bb, off, none⟩) (rs.drop (k + 1)) (List.drop_of_length_le (by omega)))
  have OP := Lib.hid (oP.below b3)
  have ZP := Lib.hid (Nat.lt_of_lt_of_le zP b3.size)
  have BA := Lib.hid (belowTo bel b3 bel.size)
  clear b3
  have HC := Lib.hid (concat_lit w2.heap.size ⟨bb, off, none⟩ ⟨bb, off, none⟩ k 0 k 0 (rs.take k) (rs.drop (k + 1)) (by rw [List.length_take]; omega) (by have := List.length_drop (i := k + 1) (l := rs); omega) (w2.alloc (.cells #[.slice (some ⟨bb, off, none⟩) k k, .slice (some ⟨bb, off, none⟩) 0 0] 22)).drew (by simp) (by simp) (by simp) SA.out SB.out (by omega))
  go_region_with (go_at_call 29; refine HC.out.mono ?_; rintro e w3 ⟨v', rfl, hown, hbel⟩; obtain ⟨va, vn, vc, rfl⟩ := own_slice hown; have HO := Lib.hid hown; have HB := Lib.hid (belowTo BA.out hbel BA.out.size); have oP' := OP.out.below hbel; clear hown hbel; obtain ⟨cP', fP', zP'⟩ := own1 oP'; clear oP')
  all_goals (
    go_wp2_with fail
    refine bodyPost_ret (v := .agg #[.slice va vn vc]) (by simp [results, Try.results16, go_sem, *]) rfl ?_
    exact spost_any rfl HO.out ZP.out HB.out (by omega))

theorem drop_some (v : Value) (rs : List Rd) (o n : Int) (w : World) (sl : SlR w v rs) (hv : vdB rs = true) (k : Nat) (hk : k < rs.length) (hd : fnd o n rs = (k : Int)) :
    Calls Try.prog 16 #[.agg #[v], .int .i64 o, .int .i64 n] w fun e w' => SPost w (rs.take k ++ rs.drop (k + 1)) e w' := by
  obtain ⟨p, cap, rfl, hlc, hcm, parts⟩ := sl
  obtain ⟨bb, off, rfl⟩ : ∃ bb off, p = some ⟨bb, off, none⟩ := by
    obtain ⟨bb, off, e, _⟩ := parts k _ (List.getElem?_eq_getElem hk)
    exact ⟨bb, off, e⟩
  have sl : SlR w (.slice (some ⟨bb, off, none⟩) rs.length cap) rs := ⟨_, cap, rfl, hlc, hcm, parts⟩
  by_cases hc : cap = k + 1
  · subst hc
    exact drop_last bb off 0 rs o n w k hk sl hv hd
  · exact drop_mid bb off cap rs o n w k hk sl hv hd hc

end Go.Proofs.Ytlfdbmndikdhdaa

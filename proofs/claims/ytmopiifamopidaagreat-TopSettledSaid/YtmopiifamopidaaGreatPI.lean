/- Sets of numbers as maps; what cells refuses. No condition but those named. -/
import Derived.Test.YtmopiifamopidaaGreatPG
import Derived.Test.YtmopiifamopidaaGreatPE
import Derived.Test.YtmopiifamopidaaGreatPF
import Derived.Test.YtmopiifamopidaaGreatPC
import Derived.Test.YtmopiifamopidaaGreatPA
set_option linter.unusedVariables false
set_option linter.unusedSimpArgs false
section
namespace Go.Proofs.YtmopiifamopidaaGreat
open Go.RowKit
structure Belo (B b : Nat) (w w' : World) : Prop where
 os : w'.os = w.os
 tape : w'.tape = w.tape
 output : w'.output = w.output
 size : w.heap.size ≤ w'.heap.size
 block : ∀ k, k < B → k ≠ b → w'.heap[k]? = w.heap[k]?
theorem Belo.refl (B b : Nat) (w : World) : Belo B b w w := ⟨rfl, rfl, rfl, Nat.le_refl _, fun _ _ _ => rfl⟩
theorem Belo.to {B b : Nat} {a w w' : World} (h : Belo B b a w) (k : Below B w w') : Belo B b a w' :=
 ⟨k.os.trans h.os, k.tape.trans h.tape, k.output.trans h.output, Nat.le_trans h.size k.size, fun i hi hn => (k.block i hi).trans (h.block i hi hn)⟩
theorem Belo.next {B b : Nat} {a w w' : World} (h : Belo B b a w) (k : Below w.heap.size w w') (hB : B ≤ w.heap.size) : Belo B b a w' := h.to (k.mono hB)
theorem Belo.set {B b : Nat} {a w : World} (h : Belo B b a w) (i : Nat) (v : Value) : Belo B b a (w.setCell ⟨b, i, none⟩ v) := by
 have k := (Below.refl b w).setCell (p := ⟨b, i, none⟩) (Nat.le_refl _) v
 exact ⟨k.os.trans h.os, k.tape.trans h.tape, k.output.trans h.output, Nat.le_trans h.size k.size, fun j hj hn => (Below.heap_setCell w ⟨b, i, none⟩ v j hn).trans (h.block j hj hn)⟩
theorem Belo.setB {B b c : Nat} {a w : World} (h : Belo B b a w) (hc : B ≤ c) (i : Nat) (v : Value) : Belo B b a (w.setCell ⟨c, i, none⟩ v) := h.to ((Below.refl B w).setCell (p := ⟨c, i, none⟩) hc v)
theorem Belo.grown {B b : Nat} {a w w' : World} {row : Option Nat} (h : Belo B b a w) (hg : w.grownBy w' row) (hB : B ≤ w.heap.size) (hr : ∀ k, row = some k → B ≤ k) : Belo B b a w' := h.to ((Below.refl B w).grown hg hB hr)
theorem Belo.below {B b C : Nat} {a w : World} (h : Belo B b a w) (h1 : C ≤ b) (h2 : C ≤ B) : Below C a w := ⟨h.os, h.tape, h.output, h.size, fun k hk => h.block k (by omega) (by omega)⟩
theorem Belo.own {B b k : Nat} {a w : World} {cs : List Value} {t : TypeId} (h : Belo B b a w) (o : Own a k cs t) (h1 : k < B) (h2 : k ≠ b) : Own w k cs t := (h.block k h1 h2).trans o
theorem Belo.slt {α : Type} {L : Lay α} {b : Nat} {a w : World} {v : Value} {l : List α} {p1 p2 p3 : Option Addr} {n1 n2 n3 c1 c2 c3 : Nat} {t : TypeId} (h : Belo a.heap.size b a w) (s : SlT L a v l) (hN : NumL L) (o : Own a b [.slice p1 n1 c1, .slice p2 n2 c2, .slice p3 n3 c3] t) : SlT L w v l :=
 s.apart hN o (fun c hc k n e => by
  simp only [List.mem_cons, List.not_mem_nil, or_false] at hc
  rcases hc with rfl | rfl | rfl <;> cases e) h.size (fun b' hne hlt => h.block b' hlt hne)
theorem SlT.small {α : Type} {L : Lay α} {w w' : World} {v : Value} {l : List α} {b : Nat} {cs : List Value} {t : TypeId} (h : SlT L w v l) (o : Own w b cs t) (hk : cs.length < L.k) (hs : w.heap.size ≤ w'.heap.size)
  (hw : ∀ b', b' ≠ b → b' < w.heap.size → w'.heap[b']? = w.heap[b']?) : SlT L w' v l := by
 obtain ⟨p, cap, h1, h2, h3, h4, h5⟩ := h
 refine ⟨p, cap, h1, h2, h3, h4, fun i cs' hi => ?_⟩
 obtain ⟨b', off, e, hlt, hc⟩ := h5 i cs' hi
 refine ⟨b', off, e, Nat.lt_of_lt_of_le hlt hs, fun j x hx => ?_⟩
 have hne : b' ≠ b := fun e => by
  subst e
  rw [List.getElem?_map] at hi
  cases ha : l[i]? with
  | none => rw [ha] at hi; cases hi
  | some a =>
   rw [ha] at hi
   obtain rfl : L.f a = cs' := by simpa using hi
   have hp := L.pos
   have hlt2 : L.k - 1 < (L.f a).length := by rw [L.len]; omega
   have h0 := hc (L.k - 1) _ (List.getElem?_eq_getElem hlt2)
   simp only [World.cell?, show w.heap[b']? = _ from o] at h0
   have h9 := (Array.getElem?_eq_some_iff.1 (by simpa using h0 : cs.toArray[off + i * L.k + (L.k - 1)]? = some _)).1
   simp at h9
   omega
 rw [← hc j x hx]
 exact World.cell?_of_block (a := ⟨b', _, none⟩) (hw b' hne hlt)
theorem Belo.small {α : Type} {L : Lay α} {b : Nat} {a w : World} {v : Value} {l : List α} {cs : List Value} {t : TypeId} (h : Belo a.heap.size b a w) (s : SlT L a v l) (o : Own a b cs t) (hk : cs.length < L.k) : SlT L w v l :=
 s.small o hk h.size (fun b' hne hlt => h.block b' hlt hne)
theorem Belo.nsok {b : Nat} {a w : World} {l : List Nr} {p1 p2 p3 : Option Addr} {n1 n2 n3 c1 c2 c3 : Nat} {t : TypeId} (h : Belo a.heap.size b a w) (s : NsOk a l) (o : Own a b [.slice p1 n1 c1, .slice p2 n2 c2, .slice p3 n3 c3] t) : NsOk w l :=
 fun r hr => ⟨h.slt (s r hr).1 numU o, h.slt (s r hr).2.1 numG o, h.slt (s r hr).2.2 numA o⟩
theorem Belo.sln {b : Nat} {a w : World} {v : Value} {l : List Nr} {p1 p2 p3 : Option Addr} {n1 n2 n3 c1 c2 c3 : Nat} {t : TypeId} (h : Belo a.heap.size b a w) (s : SlN a v l) (o : Own a b [.slice p1 n1 c1, .slice p2 n2 c2, .slice p3 n3 c3] t) : SlN w v l := h.small s o (by show 3 < 31; omega)
def TabW (w : World) (b : Nat) (T : Tb) : Prop := ∃ su sg sa : Sv, Own w b [.slice su.p su.n su.c, .slice sg.p sg.n sg.c, .slice sa.p sa.n sa.c] 43 ∧ SlU w (.slice su.p su.n su.c) T.us ∧ SlG w (.slice sg.p sg.n sg.c) T.gs ∧ SlA w (.slice sa.p sa.n sa.c) T.ks
theorem TabW.below {w w' : World} {b : Nat} {T : Tb} (h : TabW w b T) (hb : Below w.heap.size w w') : TabW w' b T := by
 obtain ⟨su, sg, sa, o, h1, h2, h3⟩ := h
 exact ⟨su, sg, sa, o.below hb, h1.below hb, h2.below hb, h3.below hb⟩
theorem set3_tab {w : World} {b : Nat} {T : Tb} {p1 p2 p3 : Option Addr} {n1 n2 n3 c1 c2 c3 : Nat} (o : Own w b [.slice p1 n1 c1, .slice p2 n2 c2, .slice p3 n3 c3] 43) {su sg sa : Sv} (h1 : SlU w (.slice su.p su.n su.c) T.us) (h2 : SlG w (.slice sg.p sg.n sg.c) T.gs) (h3 : SlA w (.slice sa.p sa.n sa.c) T.ks) :
  TabW (((w.setCell ⟨b, 0, none⟩ (.slice su.p su.n su.c)).setCell ⟨b, 1, none⟩ (.slice sg.p sg.n sg.c)).setCell ⟨b, 2, none⟩ (.slice sa.p sa.n sa.c)) b T :=
 ⟨su, sg, sa, ((o.set 0 _).set 1 _).set 2 _, h1.set3 numU o _ _ _, h2.set3 numG o _ _ _, h3.set3 numA o _ _ _⟩
theorem Belo.set3 {B b : Nat} {a w : World} (h : Belo B b a w) (x y z : Value) : Belo B b a (((w.setCell ⟨b, 0, none⟩ x).setCell ⟨b, 1, none⟩ y).setCell ⟨b, 2, none⟩ z) := ((h.set 0 x).set 1 y).set 2 z
theorem flatG_set : ∀ {ls : List Gr} {i : Nat} {g : Gr} (u : Int), ls[i]? = some g → (flatT grL ls).set (i * 5 + 4) (.int .i64 u) = flatT grL (ls.set i ⟨g.s, g.o, g.p, g.m, u⟩)
 | [], i, g, u, h => by simp at h
 | a :: ls, 0, g, u, h => by
  obtain rfl : a = g := by simpa using h
  rfl
 | a :: ls, i + 1, g, u, h => by
  have ih := flatG_set (ls := ls) (i := i) u (by simpa using h)
  show (grL.f a ++ flatT grL ls).set ((i + 1) * 5 + 4) (.int .i64 u) = grL.f a ++ flatT grL (ls.set i ⟨g.s, g.o, g.p, g.m, u⟩)
  rw [← ih]
  have hl : (grL.f a).length = 5 := rfl
  rw [List.set_append_right _ _ (by rw [hl]; omega), hl, show (i + 1) * 5 + 4 - 5 = i * 5 + 4 by omega]
theorem rowG_set {w : World} {B g cap n : Nat} {ls : List Gr} {i : Nat} {d : Gr} (u : Int) (h : w.ownsRow B 52 5 (.slice (some ⟨g, 0, none⟩) n cap) n (flatT grL ls)) (hd : ls[i]? = some d) :
  (w.setCell ⟨g, i * 5 + 4, none⟩ (.int .i64 u)).ownsRow B 52 5 (.slice (some ⟨g, 0, none⟩) n cap) n (flatT grL (ls.set i ⟨d.s, d.o, d.p, d.m, u⟩)) := by
 rw [← flatG_set u hd]; exact (h.stored _ _).1
def mixG (q : Gr → Gr) (ls : List Gr) (i : Nat) : List Gr := (ls.take i).map q ++ ls.drop i
theorem mixG_at {q : Gr → Gr} {ls : List Gr} {i : Nat} {d : Gr} (h : ls[i]? = some d) : (mixG q ls i)[i]? = some d := by
 have hl := (List.getElem?_eq_some_iff.1 h).1
 unfold mixG
 rw [List.getElem?_append_right (by simp; omega), List.length_map, List.length_take, Nat.min_eq_left (by omega), Nat.sub_self, List.getElem?_drop]
 simpa using h
theorem mixG_step {q : Gr → Gr} {ls : List Gr} {i : Nat} {d : Gr} (h : ls[i]? = some d) : (mixG q ls i).set i (q d) = mixG q ls (i + 1) := by
 have hl := (List.getElem?_eq_some_iff.1 h).1
 have he := (List.getElem?_eq_some_iff.1 h).2
 unfold mixG
 rw [List.set_append_right _ _ (by simp; omega), List.length_map, List.length_take, Nat.min_eq_left (by omega), Nat.sub_self, take_snocG h, List.map_append, List.append_assoc, List.drop_eq_getElem_cons hl, he]
 rfl
theorem mixG_same {q : Gr → Gr} {ls : List Gr} {i : Nat} {d : Gr} (h : ls[i]? = some d) (hq : q d = d) : mixG q ls (i + 1) = mixG q ls i := by
 rw [← mixG_step h, hq]
 obtain ⟨hl, he⟩ := List.getElem?_eq_some_iff.1 (mixG_at (q := q) h)
 have h9 := List.set_getElem_self hl
 rwa [he] at h9
theorem mixG_end {q : Gr → Gr} {ls : List Gr} : mixG q ls ls.length = ls.map q := by simp [mixG]
theorem row_form {w : World} {B k n : Nat} {t : TypeId} {v : Value} {xs : List Value} (h : w.ownsRow B t k v n xs) : ∃ p c, v = .slice p n c := by
 rcases h.2 with ⟨h1, h2⟩ | ⟨g, cap, cur, h1, _⟩
 ·subst h2; exact ⟨none, 0, h1⟩
 ·exact ⟨_, cap, h1⟩
theorem row_some {w : World} {B k n c : Nat} {p : Option Addr} {t : TypeId} {xs : List Value} (h : w.ownsRow B t k (.slice p n c) n xs) (hn : 0 < n) : ∃ g, p = some ⟨g, 0, none⟩ ∧ B ≤ g ∧ g < w.heap.size := by
 rcases h.2 with ⟨_, h2⟩ | ⟨g, cap, cur, h1, h2, h3, _⟩
 ·omega
 ·injection h1 with e1 e2 e3
  exact ⟨g, e1, h2, (Array.getElem?_eq_some_iff.1 h3).1⟩
theorem gL1_yes {me f : Int} {S : List Nb} {d : Gr} {n : Nb} (h : fndF d.p S = some n) (h1 : hrdB f n = true) (h2 : telB me n d.s d.o = true) : gL1 me f S d = ⟨d.s, d.o, d.p, d.m, max d.u (f + 8)⟩ := by
 unfold gL1; rw [h]; simp [h1, h2]
theorem gL1_no1 {me f : Int} {S : List Nb} {d : Gr} {n : Nb} (h : fndF d.p S = some n) (h1 : hrdB f n = false) : gL1 me f S d = d := by
 unfold gL1; rw [h]; simp [h1]
theorem gL1_no2 {me f : Int} {S : List Nb} {d : Gr} {n : Nb} (h : fndF d.p S = some n) (h1 : telB me n d.s d.o = false) : gL1 me f S d = d := by
 unfold gL1; rw [h]; simp [h1]
theorem gL1_none {me f : Int} {S : List Nb} {d : Gr} (h : fndF d.p S = none) : gL1 me f S d = d := by
 unfold gL1; rw [h]
theorem gtA_skip {N D me f fm : Int} {S : List Nb} {T : Tb} {a : Ak} (h : (a.p == me && !usdB S a.s a.o fm) = false) : gtA N D me f S fm T a = T := by
 unfold gtA; simp [h]
theorem gtA_ok {N D me f fm : Int} {S : List Nb} {T : Tb} {a : Ak} (h : (a.p == me && !usdB S a.s a.o fm) = true) (h0 : agE N D T.us T.gs T.ks ⟨a.s, a.o, fm, f, f + 8⟩ = 0) : gtA N D me f S fm T a = ⟨T.us, adG ⟨a.s, a.o, fm, f, f + 8⟩ T.gs, una a.s T.ks⟩ := by
 unfold gtA; rw [if_pos h, if_pos h0]
theorem gtA_not {N D me f fm : Int} {S : List Nb} {T : Tb} {a : Ak} (h : (a.p == me && !usdB S a.s a.o fm) = true) (h0 : ¬ agE N D T.us T.gs T.ks ⟨a.s, a.o, fm, f, f + 8⟩ = 0) : gtA N D me f S fm T a = T := by
 unfold gtA; rw [if_pos h, if_neg h0]
theorem gtN_skip {N D me f : Int} {S : List Nb} {T : Tb} {n : Nb} (h : hrdB f n = false) : gtN N D me f S T n = T := by
 unfold gtN; simp [h]
theorem gtN_do {N D me f : Int} {S : List Nb} {T : Tb} {n : Nb} (h : hrdB f n = true) : gtN N D me f S T n = n.ks.foldl (gtA N D me f S n.fm) T := by
 unfold gtN; rw [if_pos h]
theorem fold_step {α β : Type} {g : β → α → β} {l : List α} {i : Nat} {d : α} {b : β} (h : l[i]? = some d) : (l.take (i + 1)).foldl g b = g ((l.take i).foldl g b) d := by
 rw [take_snocG h, List.foldl_append]; rfl
theorem fold_stepM {β : Type} {g : β → Nb → β} {l : List Nr} {i : Nat} {d : Nr} {b : β} (h : l[i]? = some d) : ((l.take (i + 1)).map Nr.b).foldl g b = g (((l.take i).map Nr.b).foldl g b) d.b := by
 rw [take_snocG h, List.map_append, List.foldl_append]; rfl
theorem SlT.len_eq {α : Type} {L : Lay α} {w : World} {p : Option Addr} {n c : Nat} {l : List α} (h : SlT L w (.slice p n c) l) : n = l.length := by
 obtain ⟨p', cap', e, _⟩ := h
 rw [List.length_map] at e
 injection e with e1 e2 e3
end Go.Proofs.YtmopiifamopidaaGreat
end
section
namespace Go.Proofs.YtmopiifamopidaaGreat
open Go.RowKit Go.Maps
theorem zeroB (w : World) : (zeroValue 4).run Tryz.prog w = .ok (.bool false) w := by kernel_rfl
theorem plainElem_bool_inv {H : Type} {P : Program} {e : TypeId} (he : P.underlying e = some .bool) {v : Value} {z : DataW H × List MemPlace} (h : plainElem P e v = some z) : ∃ a, v = .bool a ∧ z = (.lit (.bool a), []) := by
 unfold plainElem at h
 rw [he] at h
 cases v <;> simp at h
 exact ⟨_, rfl, h.symm⟩
theorem wpList_lookup_own_bool {H : Type} {P : Program} (w : World) {ops : Array Oper} {rest : List Oper} {o : Oper} {a : Act} {Q : Exit → Act → World → Prop}
  (hg : o.guard = none) (m x : Operand) (t : TypeId) (hop : o.op = Op.lookup t m x false)
  (k e : TypeId) (K : Keyed P k) (ht : P.underlying t = some (.map k e)) (he : P.underlying e = some .bool) (hz : (zeroValue e).run P w = .ok (.bool false) w) (b n : Nat) (D : DataW H)
  (hm : a.eval m = .map (some b)) (hown : w.ownsMap P k (plainElem P e) b n D) (key : Value) (kl : Lit) (hx : a.eval x = key) (hkey : keyOf P k key = some kl)
  (hK : ∀ c : Bool, D.atKey kl (.lit (.bool false)) = .lit (.bool c) → wpList P ops Q rest (a.put o.dst (.bool c)) w) :
  wpList P ops Q (o :: rest) a w := by
 refine wpList_plain hg fun K' hK' => ?_
 obtain ⟨v, ps, hrun, hv⟩ := hown.lookup K ht hz (plainElem_bool he false) hkey
 obtain ⟨c, rfl, hc⟩ := plainElem_bool_inv he hv
 simp only [Prod.mk.injEq] at hc
 unfold Oper.wp
 simp [execOp, hop, hm, hx, hrun, Result.andThen]
 exact hK' _ _ (hK c hc.1)
def SetM (w : World) (b n : Nat) (ps : List Int) : Prop := ∃ D, w.ownsMap Tryz.prog 3 (plainElem (H := Unit) Tryz.prog 4) b n D ∧ Maps.IsMap D ∧ ∀ k : Int, D.atKey (.int .i64 k) (.lit (.bool false)) = .lit (.bool (ps.contains k))
theorem setM_made (w : World) : SetM (w.alloc (.map #[] 0)) w.heap.size 0 [] :=
 ⟨.map [], World.ownsMap_made _ _ _ _, Maps.isMap_empty, fun k => by simp [DataW.atKey]⟩
theorem SetM.lt {w : World} {b n : Nat} {ps : List Int} (h : SetM w b n ps) : b < w.heap.size := by
 obtain ⟨D, ho, _⟩ := h; exact ho.lt
theorem SetM.shape {w : World} {b n : Nat} {ps : List Int} (h : SetM w b n ps) : ∃ es c, w.heap[b]? = some (.map es c) := by
 obtain ⟨D, ⟨es, clock, h1, _⟩, _⟩ := h; exact ⟨es, clock, h1⟩
theorem SetM.same {w w' : World} {b n : Nat} {ps : List Int} (h : SetM w b n ps) (hb : w'.heap[b]? = w.heap[b]?) : SetM w' b n ps := by
 obtain ⟨D, ⟨es, clock, h1, F, hs, hD⟩, h2⟩ := h
 exact ⟨D, ⟨es, clock, hb.trans h1, F, hs, hD⟩, h2⟩
theorem SetM.below {w w' : World} {b n : Nat} {ps : List Int} (h : SetM w b n ps) (hb : Below w.heap.size w w') : SetM w' b n ps := h.same (hb.block b h.lt)
theorem SetM.set {w : World} {b n c : Nat} {ps : List Int} {cs : List Value} {t : TypeId} (h : SetM w b n ps) (o : Own w c cs t) (i : Nat) (v : Value) : SetM (w.setCell ⟨c, i, none⟩ v) b n ps :=
 h.same (Below.heap_setCell w ⟨c, i, none⟩ v b (by
  rintro rfl
  obtain ⟨es, cl, h1⟩ := h.shape
  have e := o.symm.trans h1
  injection e with e
  cases e))
theorem SetM.row {w w' : World} {b n B k m : Nat} {ps : List Int} {t : TypeId} {v : Value} {xs : List Value} (h : SetM w b n ps) (r : w.ownsRow B t k v m xs) (hg : w.grownBy w' v.ownBlock) : SetM w' b n ps :=
 h.same (hg.block b h.lt (by
  obtain ⟨es, cl, h1⟩ := h.shape
  rcases row_shape r with rfl | ⟨g, cap, cur, rfl, hq⟩
  ·intro e; simp [Value.ownBlock] at e
  ·intro e
   simp [Value.ownBlock] at e
   subst e
   have e := hq.symm.trans h1
   injection e with e
   cases e))
theorem SetM.belo {B b n c : Nat} {ps : List Int} {a w : World} (h : SetM a b n ps) (hB : Belo B c a w) (h1 : b < B) (h2 : b ≠ c) : SetM w b n ps := h.same (hB.block b h1 h2)
theorem row_map {w w' : World} {b n B k m : Nat} {ps : List Int} {t : TypeId} {v : Value} {xs : List Value} (r : w.ownsRow B t k v m xs) (h : SetM w b n ps) (hg : w.grownBy w' (some b)) : w'.ownsRow B t k v m xs :=
 r.kept hg (by
  obtain ⟨es, cl, h1⟩ := h.shape
  rcases row_shape r with rfl | ⟨g, cap, cur, rfl, hq⟩
  ·exact Or.inl rfl
  ·right
   intro e
   simp [Value.ownBlock] at e
   subst e
   have e := hq.symm.trans h1
   injection e with e
   cases e)
theorem own_map {w w' : World} {b n c : Nat} {ps : List Int} {cs : List Value} {t : TypeId} (o : Own w c cs t) (h : SetM w b n ps) (hg : w.grownBy w' (some b)) : Own w' c cs t := by
 refine (hg.block c o.lt ?_).trans o
 obtain ⟨es, cl, h1⟩ := h.shape
 intro e
 injection e with e
 subst e
 have e := o.symm.trans h1
 injection e with e
 cases e
theorem SetM.step {w' : World} {b n : Nat} {ps : List Int} {D : DataW Unit} {k : Int} (hm : Maps.IsMap D) (hD : ∀ k : Int, D.atKey (.int .i64 k) (.lit (.bool false)) = .lit (.bool (ps.contains k)))
  (ho : w'.ownsMap Tryz.prog 3 (plainElem (H := Unit) Tryz.prog 4) b (n + 1) (D.put (.int .i64 k) (.lit (.bool true)))) : SetM w' b (n + 1) (ps ++ [k]) := by
 refine ⟨_, ho, hm.put _ _, fun j => ?_⟩
 by_cases e : j = k
 ·subst e
  rw [Maps.atKey_put_same hm (show WideAt.IsKeyLit (.int .i64 j) from trivial)]
  simp
 ·have hne : (Lit.int .i64 j) ≠ .int .i64 k := fun h => e (by injection h)
  rw [Maps.atKey_put_other hne, hD j]
  congr 2
  rw [Bool.eq_iff_iff]
  simp [e]
theorem setM_add {w : World} {ops : Array Oper} {rest : List Oper} {o : Oper} {a : Act} {Q : Exit → Act → World → Prop} (b n : Nat) (k : Int) (ps : List Int) (hg : o.guard = none)
  (hs : ∃ m x v : Operand, o.op = Op.mapUpdate 75 m x v ∧ a.eval m = .map (some b) ∧ a.eval x = .int .i64 k ∧ a.eval v = .bool true) (h : SetM w b n ps) (hn : n < 1000000) (hk : -1000000 ≤ k ∧ k ≤ 1000000)
  (hK : ∀ w', SetM w' b (n + 1) (ps ++ [k]) → w.grownBy w' (some b) → wpList Tryz.prog ops Q rest (a.put o.dst undef) w') : wpList Tryz.prog ops Q (o :: rest) a w := by
 obtain ⟨m, x, v, ho, hm, hx, hv⟩ := hs
 obtain ⟨D, h1, h2, h3⟩ := h
 exact wpList_mapUpdate_own w hg m x v 75 ho 3 4 lawK Tryz.underlying75 _ b n D hm h1 (by unfold maxLen; omega) _ _ (.int .i64 k) hx hv (keyOf_int_mk Tryz.underlying3 (WalkArith.wf_i64 (by omega))) _ [] (plainElem_bool Tryz.underlying4 true)
  fun w' g1 g2 => hK w' (SetM.step h2 h3 g1) g2
theorem setM_look {w : World} {ops : Array Oper} {rest : List Oper} {o : Oper} {a : Act} {Q : Exit → Act → World → Prop} (b n : Nat) (k : Int) (ps : List Int) (hg : o.guard = none)
  (hs : ∃ m x : Operand, o.op = Op.lookup 75 m x false ∧ a.eval m = .map (some b) ∧ a.eval x = .int .i64 k) (h : SetM w b n ps) (hk : -1000000 ≤ k ∧ k ≤ 1000000) (y : Bool) (hy : ps.contains k = y)
  (hK : wpList Tryz.prog ops Q rest (a.put o.dst (.bool y)) w) : wpList Tryz.prog ops Q (o :: rest) a w := by
 obtain ⟨m, x, ho, hm, hx⟩ := hs
 obtain ⟨D, h1, h2, h3⟩ := h
 refine wpList_lookup_own_bool w hg m x 75 ho 3 4 lawK Tryz.underlying75 Tryz.underlying4 (zeroB w) b n D hm h1 _ (.int .i64 k) hx (keyOf_int_mk Tryz.underlying3 (WalkArith.wf_i64 (by omega))) fun c hc => ?_
 rw [h3 k] at hc
 have : c = ps.contains k := by simpa using hc.symm
 rw [this, hy]; exact hK
def FindG (w : World) (S : List Nr) (z : Int) (e : Ending) (w' : World) : Prop := ∃ (r : Nr) (x : Bool), e = .returned (.tuple #[.agg #[.int .i64 r.b.fr, .int .i64 r.b.fm, .int .i64 0, .int .i64 0, .int .i64 0, .int .i64 0, .int .i64 0, .int .i64 0, .int .i64 0, .int .i64 0, .int .i64 0, .int .i64 0, .slice r.vu.p r.vu.n r.vu.c, .slice r.vg.p r.vg.n r.vg.c, .slice r.va.p r.va.n r.va.c, .slice none 0 0, .bool false, .slice none 0 0, .slice none 0 0, .slice none 0 0, .int .i64 0, .int .i64 0, .int .u64 0, .int .i64 0, .int .i64 0, .int .i64 0, .int .i64 0, .int .i64 0, .slice none 0 0, .slice none 0 0, .bool false], .bool x]) ∧ NrOk w' r ∧ r.b = (fndF z (S.map Nr.b)).getD nb0 ∧ Below w.heap.size w w'
theorem find_any (bs : Nat) (N D me f : Int) (sv : Sv) (S : List Nr) (z : Int) (w : World) (os : Own w bs [.int .i64 N, .int .i64 D, .int .i64 me, .slice sv.p sv.n sv.c, .int .i64 f] 93) (sl : SlN w (.slice sv.p sv.n sv.c) S) (ho : NsOk w S) (h1000 : S.length ≤ 1000) : Calls Tryz.prog 20 #[.pointer (some ⟨bs, 0, none⟩), .int .i64 z] w (FindG w S z) := by
 cases h : fndF z (S.map Nr.b) with
 | none => exact (find_none bs N D me f sv S z w os sl ho h1000 h).mono fun e w' ⟨he, hb⟩ => ⟨nr0, false, he, nr0_ok _, by rw [h]; rfl, hb⟩
 | some n => exact (find_some bs N D me f sv S z n w os sl ho h1000 h).mono fun e w' ⟨r, he, hk, hr, hb⟩ => ⟨r, true, he, hk, by rw [h]; exact hr, hb⟩
theorem tkU1_of {me f : Int} {S : List Nb} {u : Us} {L : List Gr} (h : grdF me f ((fndF u.p S).getD nb0).gs = L) : tkU1 me f S u = (L.find? (fun g => g.s == u.s && g.o == u.o)).map fun g => ⟨u.s, u.o, u.p, g.m⟩ := by
 rw [← h]; rfl
theorem tkA_ok {N D fm : Int} {T : Tb} {g : Gr} (h : auE N D T.us T.gs T.ks ⟨g.s, g.o, fm, g.m⟩ = 0) : tkA N D fm T g = ⟨adU ⟨g.s, g.o, fm, g.m⟩ T.us, T.gs, una g.s T.ks⟩ := by unfold tkA; rw [if_pos h]
theorem tkA_not {N D fm : Int} {T : Tb} {g : Gr} (h : ¬ auE N D T.us T.gs T.ks ⟨g.s, g.o, fm, g.m⟩ = 0) : tkA N D fm T g = T := by unfold tkA; rw [if_neg h]
theorem tkN_skip {N D me f : Int} {ps : List Int} {T : Tb} {n : Nb} (h : ps.contains n.fm = false) : tkN N D me f ps T n = T := by unfold tkN; rw [if_neg (by rw [h]; simp)]
theorem tkN_do {N D me f : Int} {ps : List Int} {T : Tb} {n : Nb} (h : ps.contains n.fm = true) : tkN N D me f ps T n = (grdF me f n.gs).foldl (tkA N D n.fm) T := by unfold tkN; rw [if_pos h]
theorem take_fm {α β : Type} {p : α → Option β} {l : List α} {i : Nat} {d : α} (h : l[i]? = some d) : (l.take (i + 1)).filterMap p = (l.take i).filterMap p ++ (p d).toList := by
 rw [take_snocG h, List.filterMap_append]
 cases e : p d <;> simp [e]
end Go.Proofs.YtmopiifamopidaaGreat
end
section
namespace Go.Proofs.YtmopiifamopidaaGreat
open Go.RowKit
set_option maxRecDepth 100000 in
set_option maxHeartbeats 2000000 in
theorem rfs_u_v0 (vu vg va : Value) (us : List Us) (gs : List Gr) (ks : List Ak) (N D : Int) (w : World) (su : SlU w vu us) (sg : SlG w vg gs) (sa : SlA w va ks) (x : Us) (u70 : us.length ≤ 70) (g70 : gs.length ≤ 70) (k70 : ks.length ≤ 70) (hv : vldT N D us gs ks = false) : Calls Tryz.prog 55 #[.agg #[vu, vg, va], .agg #[.int .i64 N, .int .i64 D], (.iface 128 (.agg #[.int .i64 x.s, .int .i64 x.o, .int .i64 x.p, .int .i64 x.m]))] w fun e w' => e = .returned (.int .i64 1) ∧ Below w.heap.size w w' := by
 have hfc := field_cell
 obtain ⟨pu, cu, e0, hlu, hcu, _⟩ := su.form us.length rfl
 subst e0
 obtain ⟨pg, cg, e0, hlg, hcg, _⟩ := sg.form gs.length rfl
 subst e0
 obtain ⟨pa, ca, e0, hla, hca, _⟩ := sa.form ks.length rfl
 subst e0
 have SU := Lib.hid su
 have SG := Lib.hid sg
 have SA := Lib.hid sa
 clear su sg sa
 have iu0 : (0 : Int) ≤ (us.length : Int) := Int.natCast_nonneg _
 have ig0 : (0 : Int) ≤ (gs.length : Int) := Int.natCast_nonneg _
 have ia0 : (0 : Int) ≤ (ks.length : Int) := Int.natCast_nonneg _
 have iu : (us.length : Int) ≤ 70 := by omega
 have ig : (gs.length : Int) ≤ 70 := by omega
 have ia : (ks.length : Int) ≤ 70 := by omega
 have HV := Lib.hid hv
 clear hv
 go_enter Tryz.func55, Tryz.ntmps55
 have BW := Lib.hid (show Below w.heap.size w ((w.alloc (.cells #[.slice pu us.length cu, .slice pg gs.length cg, .slice pa ks.length ca] 43)).alloc (.cells #[.int .i64 N, .int .i64 D] 31)) from (((Below.refl _ _).alloc (Nat.le_refl _) _).alloc (by simp) _))
 go_wp2_with fail
 refine (valid_lit _ _ _ us gs ks N D _ (SU.out.below BW.out) (SG.out.below BW.out) (SA.out.below BW.out) (by omega) (by omega) (by omega) false HV.out).mono ?_
 rintro e w1 ⟨rfl, hb⟩
 have oT : Own w1 w.heap.size [.slice pu us.length cu, .slice pg gs.length cg, .slice pa ks.length ca] 43 := ((own_at _ _ rfl).alloc _).below hb
 have oL : Own w1 (w.heap.size + 1) [.int .i64 N, .int .i64 D] 31 := (own_at _ _ (by simp)).below hb
 have bel := belowTo (((Below.refl w.heap.size w).alloc (by simp) _).alloc (by simp) _) hb (by simp; omega)
 clear hb
 obtain ⟨cT0, cT1, cT2, fT, zT⟩ := own3 oT
 obtain ⟨cL0, cL1, fL, zL⟩ := own2 oL
 go_wp2_with fail
 go_ret
 exact ⟨rfl, bel⟩
set_option maxRecDepth 100000 in
set_option maxHeartbeats 2000000 in
theorem rfs_u_v1 (vu vg va : Value) (us : List Us) (gs : List Gr) (ks : List Ak) (N D : Int) (w : World) (su : SlU w vu us) (sg : SlG w vg gs) (sa : SlA w va ks) (x : Us) (u70 : us.length ≤ 70) (g70 : gs.length ≤ 70) (k70 : ks.length ≤ 70) (hv : vldT N D us gs ks = true) (ho : usB N D x = false) : Calls Tryz.prog 55 #[.agg #[vu, vg, va], .agg #[.int .i64 N, .int .i64 D], (.iface 128 (.agg #[.int .i64 x.s, .int .i64 x.o, .int .i64 x.p, .int .i64 x.m]))] w fun e w' => e = .returned (.int .i64 1) ∧ Below w.heap.size w w' := by
 have hfc := field_cell
 obtain ⟨pu, cu, e0, hlu, hcu, _⟩ := su.form us.length rfl
 subst e0
 obtain ⟨pg, cg, e0, hlg, hcg, _⟩ := sg.form gs.length rfl
 subst e0
 obtain ⟨pa, ca, e0, hla, hca, _⟩ := sa.form ks.length rfl
 subst e0
 have SU := Lib.hid su
 have SG := Lib.hid sg
 have SA := Lib.hid sa
 clear su sg sa
 have iu0 : (0 : Int) ≤ (us.length : Int) := Int.natCast_nonneg _
 have ig0 : (0 : Int) ≤ (gs.length : Int) := Int.natCast_nonneg _
 have ia0 : (0 : Int) ≤ (ks.length : Int) := Int.natCast_nonneg _
 have iu : (us.length : Int) ≤ 70 := by omega
 have ig : (gs.length : Int) ≤ 70 := by omega
 have ia : (ks.length : Int) ≤ 70 := by omega
 have HV := Lib.hid hv
 have HO := Lib.hid ho
 clear hv ho
 go_enter Tryz.func55, Tryz.ntmps55
 have BW := Lib.hid (show Below w.heap.size w ((w.alloc (.cells #[.slice pu us.length cu, .slice pg gs.length cg, .slice pa ks.length ca] 43)).alloc (.cells #[.int .i64 N, .int .i64 D] 31)) from (((Below.refl _ _).alloc (Nat.le_refl _) _).alloc (by simp) _))
 go_wp2_with fail
 refine (valid_lit _ _ _ us gs ks N D _ (SU.out.below BW.out) (SG.out.below BW.out) (SA.out.below BW.out) (by omega) (by omega) (by omega) true HV.out).mono ?_
 rintro e w1 ⟨rfl, hb⟩
 have oT : Own w1 w.heap.size [.slice pu us.length cu, .slice pg gs.length cg, .slice pa ks.length ca] 43 := ((own_at _ _ rfl).alloc _).below hb
 have oL : Own w1 (w.heap.size + 1) [.int .i64 N, .int .i64 D] 31 := (own_at _ _ (by simp)).below hb
 have bel := belowTo (((Below.refl w.heap.size w).alloc (by simp) _).alloc (by simp) _) hb (by simp; omega)
 clear hb
 obtain ⟨cT0, cT1, cT2, fT, zT⟩ := own3 oT
 obtain ⟨cL0, cL1, fL, zL⟩ := own2 oL
 go_wp2_with fail
 refine (uval_lit x N D false _ HO.out).mono ?_
 rintro e w2 ⟨rfl, hb⟩
 replace oT := oT.below hb
 replace oL := oL.below hb
 replace bel := belowTo bel hb (by exact bel.size)
 clear hb
 clear cT0 cT1 cT2 fT zT cL0 cL1 fL zL
 obtain ⟨cT0, cT1, cT2, fT, zT⟩ := own3 oT
 obtain ⟨cL0, cL1, fL, zL⟩ := own2 oL
 go_wp2_with fail
 go_ret
 exact ⟨rfl, bel⟩
set_option maxRecDepth 100000 in
set_option maxHeartbeats 2000000 in
theorem rfs_u_b (vu vg va : Value) (us : List Us) (gs : List Gr) (ks : List Ak) (N D : Int) (w : World) (su : SlU w vu us) (sg : SlG w vg gs) (sa : SlA w va ks) (x : Us) (u70 : us.length ≤ 70) (g70 : gs.length ≤ 70) (k70 : ks.length ≤ 70) (hv : vldT N D us gs ks = true) (ho : usB N D x = true) (hb : bsyB x.s us gs = true) : Calls Tryz.prog 55 #[.agg #[vu, vg, va], .agg #[.int .i64 N, .int .i64 D], (.iface 128 (.agg #[.int .i64 x.s, .int .i64 x.o, .int .i64 x.p, .int .i64 x.m]))] w fun e w' => e = .returned (.int .i64 5) ∧ Below w.heap.size w w' := by
 have hfc := field_cell
 obtain ⟨pu, cu, e0, hlu, hcu, _⟩ := su.form us.length rfl
 subst e0
 obtain ⟨pg, cg, e0, hlg, hcg, _⟩ := sg.form gs.length rfl
 subst e0
 obtain ⟨pa, ca, e0, hla, hca, _⟩ := sa.form ks.length rfl
 subst e0
 have SU := Lib.hid su
 have SG := Lib.hid sg
 have SA := Lib.hid sa
 clear su sg sa
 have iu0 : (0 : Int) ≤ (us.length : Int) := Int.natCast_nonneg _
 have ig0 : (0 : Int) ≤ (gs.length : Int) := Int.natCast_nonneg _
 have ia0 : (0 : Int) ≤ (ks.length : Int) := Int.natCast_nonneg _
 have iu : (us.length : Int) ≤ 70 := by omega
 have ig : (gs.length : Int) ≤ 70 := by omega
 have ia : (ks.length : Int) ≤ 70 := by omega
 have HV := Lib.hid hv
 have HO := Lib.hid ho
 have HB := Lib.hid hb
 clear hv ho hb
 go_enter Tryz.func55, Tryz.ntmps55
 have BW := Lib.hid (show Below w.heap.size w ((w.alloc (.cells #[.slice pu us.length cu, .slice pg gs.length cg, .slice pa ks.length ca] 43)).alloc (.cells #[.int .i64 N, .int .i64 D] 31)) from (((Below.refl _ _).alloc (Nat.le_refl _) _).alloc (by simp) _))
 go_wp2_with fail
 refine (valid_lit _ _ _ us gs ks N D _ (SU.out.below BW.out) (SG.out.below BW.out) (SA.out.below BW.out) (by omega) (by omega) (by omega) true HV.out).mono ?_
 rintro e w1 ⟨rfl, hb⟩
 have oT : Own w1 w.heap.size [.slice pu us.length cu, .slice pg gs.length cg, .slice pa ks.length ca] 43 := ((own_at _ _ rfl).alloc _).below hb
 have oL : Own w1 (w.heap.size + 1) [.int .i64 N, .int .i64 D] 31 := (own_at _ _ (by simp)).below hb
 have bel := belowTo (((Below.refl w.heap.size w).alloc (by simp) _).alloc (by simp) _) hb (by simp; omega)
 clear hb
 obtain ⟨cT0, cT1, cT2, fT, zT⟩ := own3 oT
 obtain ⟨cL0, cL1, fL, zL⟩ := own2 oL
 go_wp2_with fail
 refine (uval_lit x N D true _ HO.out).mono ?_
 rintro e w2 ⟨rfl, hb⟩
 replace oT := oT.below hb
 replace oL := oL.below hb
 replace bel := belowTo bel hb (by exact bel.size)
 clear hb
 clear cT0 cT1 cT2 fT zT cL0 cL1 fL zL
 obtain ⟨cT0, cT1, cT2, fT, zT⟩ := own3 oT
 obtain ⟨cL0, cL1, fL, zL⟩ := own2 oL
 go_wp2_with fail
 have OTd := Lib.hid oT.drew
 have BDd := Lib.hid (Below.refl w2.heap.size w2).drew
 obtain ⟨e0, e1, e2, _, _⟩ := own3 OTd.out
 refine region_H 6 #[false, false, false, false, false, false] (by kernel_rfl) (by kernel_rfl) (fun w' => w'.cell? ⟨w.heap.size, 0, none⟩ = some (.slice pu us.length cu) ∧ w'.cell? ⟨w.heap.size, 1, none⟩ = some (.slice pg gs.length cg) ∧ w'.cell? ⟨w.heap.size, 2, none⟩ = some (.slice pa ks.length ca)) (by kernel_rfl) ?x1s (fun hHeld => ?x1r)
 case x1s => exact ⟨e0, e1, e2⟩
 refine tH 0 19 ?_
 refine tH 1 20 ?_
 refine wpH_one (i := 2) (by kernel_rfl) rfl (fun K hK => ?_)
 rw [if_pos (by rfl)]
 go_simp
 refine (ucell_any x.s x.o x.p x.m _).mono ?_
 rintro e w3 ⟨rfl, hbb⟩
 have OT3 := Lib.hid (OTd.out.below hbb)
 have B3 := Lib.hid (belowTo BDd.out hbb BDd.out.size)
 clear hbb
 obtain ⟨g0, g1, g2, _, _⟩ := own3 OT3.out
 have BT3 := Lib.hid (belowTo bel B3.out bel.size)
 refine hK.out _ _ (⟨g0, g1, g2⟩) ?_
 clear hK K hHeld
 intro hHeld
 try simp only [Act.put, List.setIfInBounds_toArray, List.set_cons_zero, List.set_cons_succ]
 refine tH 3 22 ?_
 refine wpH_one (i := 4) (by kernel_rfl) rfl (fun K hK => ?_)
 rw [if_pos (by rfl)]
 go_simp
 refine (busy_lit _ _ _ us gs x.s _ (SU.out.below BT3.out) (SG.out.below BT3.out) true HB.out).mono ?_
 rintro e w4 ⟨rfl, hbb⟩
 have OT4 := Lib.hid (OT3.out.below hbb)
 have BT4 := Lib.hid (belowTo BT3.out hbb BT3.out.size)
 clear hbb
 obtain ⟨h0, h1, h2, _, _⟩ := own3 OT4.out
 refine hK.out _ _ (⟨h0, h1, h2⟩) ?_
 clear hK K hHeld
 intro hHeld
 try simp only [Act.put, List.setIfInBounds_toArray, List.set_cons_zero, List.set_cons_succ]
 refine tH 5 18 ?_
 refine wpAnyH_done (by kernel_rfl) ?_ _
 clear cT0 cT1 cT2 fT zT e0 e1 e2 g0 g1 g2
 go_wp2_with fail
 go_ret
 exact ⟨rfl, BT4.out⟩
set_option maxRecDepth 100000 in
set_option maxHeartbeats 2000000 in
theorem rfs_u_f (vu vg va : Value) (us : List Us) (gs : List Gr) (ks : List Ak) (N D : Int) (w : World) (su : SlU w vu us) (sg : SlG w vg gs) (sa : SlA w va ks) (x : Us) (u70 : us.length ≤ 70) (g70 : gs.length ≤ 70) (k70 : ks.length ≤ 70) (hv : vldT N D us gs ks = true) (ho : usB N D x = true) (hb : bsyB x.s us gs = false) (hf : 24 ≤ (us.length : Int) + (gs.length : Int)) : Calls Tryz.prog 55 #[.agg #[vu, vg, va], .agg #[.int .i64 N, .int .i64 D], (.iface 128 (.agg #[.int .i64 x.s, .int .i64 x.o, .int .i64 x.p, .int .i64 x.m]))] w fun e w' => e = .returned (.int .i64 10) ∧ Below w.heap.size w w' := by
 have hfc := field_cell
 obtain ⟨pu, cu, e0, hlu, hcu, _⟩ := su.form us.length rfl
 subst e0
 obtain ⟨pg, cg, e0, hlg, hcg, _⟩ := sg.form gs.length rfl
 subst e0
 obtain ⟨pa, ca, e0, hla, hca, _⟩ := sa.form ks.length rfl
 subst e0
 have SU := Lib.hid su
 have SG := Lib.hid sg
 have SA := Lib.hid sa
 clear su sg sa
 have iu0 : (0 : Int) ≤ (us.length : Int) := Int.natCast_nonneg _
 have ig0 : (0 : Int) ≤ (gs.length : Int) := Int.natCast_nonneg _
 have ia0 : (0 : Int) ≤ (ks.length : Int) := Int.natCast_nonneg _
 have iu : (us.length : Int) ≤ 70 := by omega
 have ig : (gs.length : Int) ≤ 70 := by omega
 have ia : (ks.length : Int) ≤ 70 := by omega
 have HV := Lib.hid hv
 have HO := Lib.hid ho
 have HB := Lib.hid hb
 clear hv ho hb
 have hfb : (24 : Int) ≤ (us.length : Int) + (gs.length : Int) := hf
 go_enter Tryz.func55, Tryz.ntmps55
 have BW := Lib.hid (show Below w.heap.size w ((w.alloc (.cells #[.slice pu us.length cu, .slice pg gs.length cg, .slice pa ks.length ca] 43)).alloc (.cells #[.int .i64 N, .int .i64 D] 31)) from (((Below.refl _ _).alloc (Nat.le_refl _) _).alloc (by simp) _))
 go_wp2_with fail
 refine (valid_lit _ _ _ us gs ks N D _ (SU.out.below BW.out) (SG.out.below BW.out) (SA.out.below BW.out) (by omega) (by omega) (by omega) true HV.out).mono ?_
 rintro e w1 ⟨rfl, hb⟩
 have oT : Own w1 w.heap.size [.slice pu us.length cu, .slice pg gs.length cg, .slice pa ks.length ca] 43 := ((own_at _ _ rfl).alloc _).below hb
 have oL : Own w1 (w.heap.size + 1) [.int .i64 N, .int .i64 D] 31 := (own_at _ _ (by simp)).below hb
 have bel := belowTo (((Below.refl w.heap.size w).alloc (by simp) _).alloc (by simp) _) hb (by simp; omega)
 clear hb
 obtain ⟨cT0, cT1, cT2, fT, zT⟩ := own3 oT
 obtain ⟨cL0, cL1, fL, zL⟩ := own2 oL
 go_wp2_with fail
 refine (uval_lit x N D true _ HO.out).mono ?_
 rintro e w2 ⟨rfl, hb⟩
 replace oT := oT.below hb
 replace oL := oL.below hb
 replace bel := belowTo bel hb (by exact bel.size)
 clear hb
 clear cT0 cT1 cT2 fT zT cL0 cL1 fL zL
 obtain ⟨cT0, cT1, cT2, fT, zT⟩ := own3 oT
 obtain ⟨cL0, cL1, fL, zL⟩ := own2 oL
 go_wp2_with fail
 have OTd := Lib.hid oT.drew
 have BDd := Lib.hid (Below.refl w2.heap.size w2).drew
 obtain ⟨e0, e1, e2, _, _⟩ := own3 OTd.out
 refine region_H 6 #[false, false, false, false, false, false] (by kernel_rfl) (by kernel_rfl) (fun w' => w'.cell? ⟨w.heap.size, 0, none⟩ = some (.slice pu us.length cu) ∧ w'.cell? ⟨w.heap.size, 1, none⟩ = some (.slice pg gs.length cg) ∧ w'.cell? ⟨w.heap.size, 2, none⟩ = some (.slice pa ks.length ca)) (by kernel_rfl) ?x8s (fun hHeld => ?x8r)
 case x8s => exact ⟨e0, e1, e2⟩
 refine tH 0 19 ?_
 refine tH 1 20 ?_
 refine wpH_one (i := 2) (by kernel_rfl) rfl (fun K hK => ?_)
 rw [if_pos (by rfl)]
 go_simp
 refine (ucell_any x.s x.o x.p x.m _).mono ?_
 rintro e w3 ⟨rfl, hbb⟩
 have OT3 := Lib.hid (OTd.out.below hbb)
 have B3 := Lib.hid (belowTo BDd.out hbb BDd.out.size)
 clear hbb
 obtain ⟨g0, g1, g2, _, _⟩ := own3 OT3.out
 have BT3 := Lib.hid (belowTo bel B3.out bel.size)
 refine hK.out _ _ (⟨g0, g1, g2⟩) ?_
 clear hK K hHeld
 intro hHeld
 try simp only [Act.put, List.setIfInBounds_toArray, List.set_cons_zero, List.set_cons_succ]
 refine tH 3 22 ?_
 refine wpH_one (i := 4) (by kernel_rfl) rfl (fun K hK => ?_)
 rw [if_pos (by rfl)]
 go_simp
 refine (busy_lit _ _ _ us gs x.s _ (SU.out.below BT3.out) (SG.out.below BT3.out) false HB.out).mono ?_
 rintro e w4 ⟨rfl, hbb⟩
 have OT4 := Lib.hid (OT3.out.below hbb)
 have BT4 := Lib.hid (belowTo BT3.out hbb BT3.out.size)
 clear hbb
 obtain ⟨h0, h1, h2, _, _⟩ := own3 OT4.out
 refine hK.out _ _ (⟨h0, h1, h2⟩) ?_
 clear hK K hHeld
 intro hHeld
 try simp only [Act.put, List.setIfInBounds_toArray, List.set_cons_zero, List.set_cons_succ]
 refine tH 5 18 ?_
 refine wpAnyH_done (by kernel_rfl) ?_ _
 clear cT0 cT1 cT2 fT zT e0 e1 e2 g0 g1 g2
 go_wp2_with fail
 go_ret
 exact ⟨rfl, BT4.out⟩
set_option maxRecDepth 100000 in
set_option maxHeartbeats 2000000 in
theorem rfs_u_o (vu vg va : Value) (us : List Us) (gs : List Gr) (ks : List Ak) (N D : Int) (w : World) (su : SlU w vu us) (sg : SlG w vg gs) (sa : SlA w va ks) (x : Us) (u70 : us.length ≤ 70) (g70 : gs.length ≤ 70) (k70 : ks.length ≤ 70) (hv : vldT N D us gs ks = true) (ho : usB N D x = true) (hb : bsyB x.s us gs = false) (hf : ¬ 24 ≤ (us.length : Int) + (gs.length : Int)) : Calls Tryz.prog 55 #[.agg #[vu, vg, va], .agg #[.int .i64 N, .int .i64 D], (.iface 128 (.agg #[.int .i64 x.s, .int .i64 x.o, .int .i64 x.p, .int .i64 x.m]))] w fun e w' => e = .returned (.int .i64 0) ∧ Below w.heap.size w w' := by
 have hfc := field_cell
 obtain ⟨pu, cu, e0, hlu, hcu, _⟩ := su.form us.length rfl
 subst e0
 obtain ⟨pg, cg, e0, hlg, hcg, _⟩ := sg.form gs.length rfl
 subst e0
 obtain ⟨pa, ca, e0, hla, hca, _⟩ := sa.form ks.length rfl
 subst e0
 have SU := Lib.hid su
 have SG := Lib.hid sg
 have SA := Lib.hid sa
 clear su sg sa
 have iu0 : (0 : Int) ≤ (us.length : Int) := Int.natCast_nonneg _
 have ig0 : (0 : Int) ≤ (gs.length : Int) := Int.natCast_nonneg _
 have ia0 : (0 : Int) ≤ (ks.length : Int) := Int.natCast_nonneg _
 have iu : (us.length : Int) ≤ 70 := by omega
 have ig : (gs.length : Int) ≤ 70 := by omega
 have ia : (ks.length : Int) ≤ 70 := by omega
 have HV := Lib.hid hv
 have HO := Lib.hid ho
 have HB := Lib.hid hb
 clear hv ho hb
 go_enter Tryz.func55, Tryz.ntmps55
 have BW := Lib.hid (show Below w.heap.size w ((w.alloc (.cells #[.slice pu us.length cu, .slice pg gs.length cg, .slice pa ks.length ca] 43)).alloc (.cells #[.int .i64 N, .int .i64 D] 31)) from (((Below.refl _ _).alloc (Nat.le_refl _) _).alloc (by simp) _))
 go_wp2_with fail
 refine (valid_lit _ _ _ us gs ks N D _ (SU.out.below BW.out) (SG.out.below BW.out) (SA.out.below BW.out) (by omega) (by omega) (by omega) true HV.out).mono ?_
 rintro e w1 ⟨rfl, hb⟩
 have oT : Own w1 w.heap.size [.slice pu us.length cu, .slice pg gs.length cg, .slice pa ks.length ca] 43 := ((own_at _ _ rfl).alloc _).below hb
 have oL : Own w1 (w.heap.size + 1) [.int .i64 N, .int .i64 D] 31 := (own_at _ _ (by simp)).below hb
 have bel := belowTo (((Below.refl w.heap.size w).alloc (by simp) _).alloc (by simp) _) hb (by simp; omega)
 clear hb
 obtain ⟨cT0, cT1, cT2, fT, zT⟩ := own3 oT
 obtain ⟨cL0, cL1, fL, zL⟩ := own2 oL
 go_wp2_with fail
 refine (uval_lit x N D true _ HO.out).mono ?_
 rintro e w2 ⟨rfl, hb⟩
 replace oT := oT.below hb
 replace oL := oL.below hb
 replace bel := belowTo bel hb (by exact bel.size)
 clear hb
 clear cT0 cT1 cT2 fT zT cL0 cL1 fL zL
 obtain ⟨cT0, cT1, cT2, fT, zT⟩ := own3 oT
 obtain ⟨cL0, cL1, fL, zL⟩ := own2 oL
 go_wp2_with fail
 have OTd := Lib.hid oT.drew
 have BDd := Lib.hid (Below.refl w2.heap.size w2).drew
 obtain ⟨e0, e1, e2, _, _⟩ := own3 OTd.out
 refine region_H 6 #[false, false, false, false, false, false] (by kernel_rfl) (by kernel_rfl) (fun w' => w'.cell? ⟨w.heap.size, 0, none⟩ = some (.slice pu us.length cu) ∧ w'.cell? ⟨w.heap.size, 1, none⟩ = some (.slice pg gs.length cg) ∧ w'.cell? ⟨w.heap.size, 2, none⟩ = some (.slice pa ks.length ca)) (by kernel_rfl) ?x15s (fun hHeld => ?x15r)
 case x15s => exact ⟨e0, e1, e2⟩
 refine tH 0 19 ?_
 refine tH 1 20 ?_
 refine wpH_one (i := 2) (by kernel_rfl) rfl (fun K hK => ?_)
 rw [if_pos (by rfl)]
 go_simp
 refine (ucell_any x.s x.o x.p x.m _).mono ?_
 rintro e w3 ⟨rfl, hbb⟩
 have OT3 := Lib.hid (OTd.out.below hbb)
 have B3 := Lib.hid (belowTo BDd.out hbb BDd.out.size)
 clear hbb
 obtain ⟨g0, g1, g2, _, _⟩ := own3 OT3.out
 have BT3 := Lib.hid (belowTo bel B3.out bel.size)
 refine hK.out _ _ (⟨g0, g1, g2⟩) ?_
 clear hK K hHeld
 intro hHeld
 try simp only [Act.put, List.setIfInBounds_toArray, List.set_cons_zero, List.set_cons_succ]
 refine tH 3 22 ?_
 refine wpH_one (i := 4) (by kernel_rfl) rfl (fun K hK => ?_)
 rw [if_pos (by rfl)]
 go_simp
 refine (busy_lit _ _ _ us gs x.s _ (SU.out.below BT3.out) (SG.out.below BT3.out) false HB.out).mono ?_
 rintro e w4 ⟨rfl, hbb⟩
 have OT4 := Lib.hid (OT3.out.below hbb)
 have BT4 := Lib.hid (belowTo BT3.out hbb BT3.out.size)
 clear hbb
 obtain ⟨h0, h1, h2, _, _⟩ := own3 OT4.out
 refine hK.out _ _ (⟨h0, h1, h2⟩) ?_
 clear hK K hHeld
 intro hHeld
 try simp only [Act.put, List.setIfInBounds_toArray, List.set_cons_zero, List.set_cons_succ]
 refine tH 5 18 ?_
 refine wpAnyH_done (by kernel_rfl) ?_ _
 clear cT0 cT1 cT2 fT zT e0 e1 e2 g0 g1 g2
 go_wp2_with fail
 go_ret
 exact ⟨rfl, BT4.out⟩
theorem rfs_u (vu vg va : Value) (us : List Us) (gs : List Gr) (ks : List Ak) (N D : Int) (w : World) (su : SlU w vu us) (sg : SlG w vg gs) (sa : SlA w va ks) (x : Us) (u70 : us.length ≤ 70) (g70 : gs.length ≤ 70) (k70 : ks.length ≤ 70) : Calls Tryz.prog 55 #[.agg #[vu, vg, va], .agg #[.int .i64 N, .int .i64 D], (.iface 128 (.agg #[.int .i64 x.s, .int .i64 x.o, .int .i64 x.p, .int .i64 x.m]))] w fun e w' => e = .returned (.int .i64 (refE N D us gs ks (usB N D x) x.s)) ∧ Below w.heap.size w w' := by
 cases hv : vldT N D us gs ks with
 | false => rw [refE_v0 hv]; exact rfs_u_v0 vu vg va us gs ks N D w su sg sa x u70 g70 k70 hv
 | true =>
  cases ho : usB N D x with
  | false => rw [refE_v1 rfl]; exact rfs_u_v1 vu vg va us gs ks N D w su sg sa x u70 g70 k70 hv ho
  | true =>
   cases hb : bsyB x.s us gs with
   | true => rw [refE_b hv rfl hb]; exact rfs_u_b vu vg va us gs ks N D w su sg sa x u70 g70 k70 hv ho hb
   | false =>
    by_cases hf : 24 ≤ (us.length : Int) + (gs.length : Int)
    ·rw [refE_f hv rfl hb hf]; exact rfs_u_f vu vg va us gs ks N D w su sg sa x u70 g70 k70 hv ho hb hf
    ·rw [refE_o hv rfl hb hf]; exact rfs_u_o vu vg va us gs ks N D w su sg sa x u70 g70 k70 hv ho hb hf
theorem rfs_u_lit (vu vg va : Value) (us : List Us) (gs : List Gr) (ks : List Ak) (N D : Int) (w : World) (su : SlU w vu us) (sg : SlG w vg gs) (sa : SlA w va ks) (x : Us) (u70 : us.length ≤ 70) (g70 : gs.length ≤ 70) (k70 : ks.length ≤ 70) (r : Int) (h : auE N D us gs ks x = r) : Calls Tryz.prog 55 #[.agg #[vu, vg, va], .agg #[.int .i64 N, .int .i64 D], (.iface 128 (.agg #[.int .i64 x.s, .int .i64 x.o, .int .i64 x.p, .int .i64 x.m]))] w fun e w' => e = .returned (.int .i64 r) ∧ Below w.heap.size w w' := by
 rw [← h]; exact rfs_u vu vg va us gs ks N D w su sg sa x u70 g70 k70
set_option maxRecDepth 100000 in
set_option maxHeartbeats 2000000 in
theorem rfs_g_v0 (vu vg va : Value) (us : List Us) (gs : List Gr) (ks : List Ak) (N D : Int) (w : World) (su : SlU w vu us) (sg : SlG w vg gs) (sa : SlA w va ks) (x : Gr) (u70 : us.length ≤ 70) (g70 : gs.length ≤ 70) (k70 : ks.length ≤ 70) (hv : vldT N D us gs ks = false) : Calls Tryz.prog 55 #[.agg #[vu, vg, va], .agg #[.int .i64 N, .int .i64 D], (.iface 138 (.agg #[.int .i64 x.s, .int .i64 x.o, .int .i64 x.p, .int .i64 x.m, .int .i64 x.u]))] w fun e w' => e = .returned (.int .i64 1) ∧ Below w.heap.size w w' := by
 have hfc := field_cell
 obtain ⟨pu, cu, e0, hlu, hcu, _⟩ := su.form us.length rfl
 subst e0
 obtain ⟨pg, cg, e0, hlg, hcg, _⟩ := sg.form gs.length rfl
 subst e0
 obtain ⟨pa, ca, e0, hla, hca, _⟩ := sa.form ks.length rfl
 subst e0
 have SU := Lib.hid su
 have SG := Lib.hid sg
 have SA := Lib.hid sa
 clear su sg sa
 have iu0 : (0 : Int) ≤ (us.length : Int) := Int.natCast_nonneg _
 have ig0 : (0 : Int) ≤ (gs.length : Int) := Int.natCast_nonneg _
 have ia0 : (0 : Int) ≤ (ks.length : Int) := Int.natCast_nonneg _
 have iu : (us.length : Int) ≤ 70 := by omega
 have ig : (gs.length : Int) ≤ 70 := by omega
 have ia : (ks.length : Int) ≤ 70 := by omega
 have HV := Lib.hid hv
 clear hv
 go_enter Tryz.func55, Tryz.ntmps55
 have BW := Lib.hid (show Below w.heap.size w ((w.alloc (.cells #[.slice pu us.length cu, .slice pg gs.length cg, .slice pa ks.length ca] 43)).alloc (.cells #[.int .i64 N, .int .i64 D] 31)) from (((Below.refl _ _).alloc (Nat.le_refl _) _).alloc (by simp) _))
 go_wp2_with fail
 refine (valid_lit _ _ _ us gs ks N D _ (SU.out.below BW.out) (SG.out.below BW.out) (SA.out.below BW.out) (by omega) (by omega) (by omega) false HV.out).mono ?_
 rintro e w1 ⟨rfl, hb⟩
 have oT : Own w1 w.heap.size [.slice pu us.length cu, .slice pg gs.length cg, .slice pa ks.length ca] 43 := ((own_at _ _ rfl).alloc _).below hb
 have oL : Own w1 (w.heap.size + 1) [.int .i64 N, .int .i64 D] 31 := (own_at _ _ (by simp)).below hb
 have bel := belowTo (((Below.refl w.heap.size w).alloc (by simp) _).alloc (by simp) _) hb (by simp; omega)
 clear hb
 obtain ⟨cT0, cT1, cT2, fT, zT⟩ := own3 oT
 obtain ⟨cL0, cL1, fL, zL⟩ := own2 oL
 go_wp2_with fail
 go_ret
 exact ⟨rfl, bel⟩
set_option maxRecDepth 100000 in
set_option maxHeartbeats 2000000 in
theorem rfs_g_v1 (vu vg va : Value) (us : List Us) (gs : List Gr) (ks : List Ak) (N D : Int) (w : World) (su : SlU w vu us) (sg : SlG w vg gs) (sa : SlA w va ks) (x : Gr) (u70 : us.length ≤ 70) (g70 : gs.length ≤ 70) (k70 : ks.length ≤ 70) (hv : vldT N D us gs ks = true) (ho : grB N D x = false) : Calls Tryz.prog 55 #[.agg #[vu, vg, va], .agg #[.int .i64 N, .int .i64 D], (.iface 138 (.agg #[.int .i64 x.s, .int .i64 x.o, .int .i64 x.p, .int .i64 x.m, .int .i64 x.u]))] w fun e w' => e = .returned (.int .i64 1) ∧ Below w.heap.size w w' := by
 have hfc := field_cell
 obtain ⟨pu, cu, e0, hlu, hcu, _⟩ := su.form us.length rfl
 subst e0
 obtain ⟨pg, cg, e0, hlg, hcg, _⟩ := sg.form gs.length rfl
 subst e0
 obtain ⟨pa, ca, e0, hla, hca, _⟩ := sa.form ks.length rfl
 subst e0
 have SU := Lib.hid su
 have SG := Lib.hid sg
 have SA := Lib.hid sa
 clear su sg sa
 have iu0 : (0 : Int) ≤ (us.length : Int) := Int.natCast_nonneg _
 have ig0 : (0 : Int) ≤ (gs.length : Int) := Int.natCast_nonneg _
 have ia0 : (0 : Int) ≤ (ks.length : Int) := Int.natCast_nonneg _
 have iu : (us.length : Int) ≤ 70 := by omega
 have ig : (gs.length : Int) ≤ 70 := by omega
 have ia : (ks.length : Int) ≤ 70 := by omega
 have HV := Lib.hid hv
 have HO := Lib.hid ho
 clear hv ho
 go_enter Tryz.func55, Tryz.ntmps55
 have BW := Lib.hid (show Below w.heap.size w ((w.alloc (.cells #[.slice pu us.length cu, .slice pg gs.length cg, .slice pa ks.length ca] 43)).alloc (.cells #[.int .i64 N, .int .i64 D] 31)) from (((Below.refl _ _).alloc (Nat.le_refl _) _).alloc (by simp) _))
 go_wp2_with fail
 refine (valid_lit _ _ _ us gs ks N D _ (SU.out.below BW.out) (SG.out.below BW.out) (SA.out.below BW.out) (by omega) (by omega) (by omega) true HV.out).mono ?_
 rintro e w1 ⟨rfl, hb⟩
 have oT : Own w1 w.heap.size [.slice pu us.length cu, .slice pg gs.length cg, .slice pa ks.length ca] 43 := ((own_at _ _ rfl).alloc _).below hb
 have oL : Own w1 (w.heap.size + 1) [.int .i64 N, .int .i64 D] 31 := (own_at _ _ (by simp)).below hb
 have bel := belowTo (((Below.refl w.heap.size w).alloc (by simp) _).alloc (by simp) _) hb (by simp; omega)
 clear hb
 obtain ⟨cT0, cT1, cT2, fT, zT⟩ := own3 oT
 obtain ⟨cL0, cL1, fL, zL⟩ := own2 oL
 go_wp2_with fail
 refine (gval_lit x N D false _ HO.out).mono ?_
 rintro e w2 ⟨rfl, hb⟩
 replace oT := oT.below hb
 replace oL := oL.below hb
 replace bel := belowTo bel hb (by exact bel.size)
 clear hb
 clear cT0 cT1 cT2 fT zT cL0 cL1 fL zL
 obtain ⟨cT0, cT1, cT2, fT, zT⟩ := own3 oT
 obtain ⟨cL0, cL1, fL, zL⟩ := own2 oL
 go_wp2_with fail
 go_ret
 exact ⟨rfl, bel⟩
set_option maxRecDepth 100000 in
set_option maxHeartbeats 2000000 in
theorem rfs_g_b (vu vg va : Value) (us : List Us) (gs : List Gr) (ks : List Ak) (N D : Int) (w : World) (su : SlU w vu us) (sg : SlG w vg gs) (sa : SlA w va ks) (x : Gr) (u70 : us.length ≤ 70) (g70 : gs.length ≤ 70) (k70 : ks.length ≤ 70) (hv : vldT N D us gs ks = true) (ho : grB N D x = true) (hb : bsyB x.s us gs = true) : Calls Tryz.prog 55 #[.agg #[vu, vg, va], .agg #[.int .i64 N, .int .i64 D], (.iface 138 (.agg #[.int .i64 x.s, .int .i64 x.o, .int .i64 x.p, .int .i64 x.m, .int .i64 x.u]))] w fun e w' => e = .returned (.int .i64 5) ∧ Below w.heap.size w w' := by
 have hfc := field_cell
 obtain ⟨pu, cu, e0, hlu, hcu, _⟩ := su.form us.length rfl
 subst e0
 obtain ⟨pg, cg, e0, hlg, hcg, _⟩ := sg.form gs.length rfl
 subst e0
 obtain ⟨pa, ca, e0, hla, hca, _⟩ := sa.form ks.length rfl
 subst e0
 have SU := Lib.hid su
 have SG := Lib.hid sg
 have SA := Lib.hid sa
 clear su sg sa
 have iu0 : (0 : Int) ≤ (us.length : Int) := Int.natCast_nonneg _
 have ig0 : (0 : Int) ≤ (gs.length : Int) := Int.natCast_nonneg _
 have ia0 : (0 : Int) ≤ (ks.length : Int) := Int.natCast_nonneg _
 have iu : (us.length : Int) ≤ 70 := by omega
 have ig : (gs.length : Int) ≤ 70 := by omega
 have ia : (ks.length : Int) ≤ 70 := by omega
 have HV := Lib.hid hv
 have HO := Lib.hid ho
 have HB := Lib.hid hb
 clear hv ho hb
 go_enter Tryz.func55, Tryz.ntmps55
 have BW := Lib.hid (show Below w.heap.size w ((w.alloc (.cells #[.slice pu us.length cu, .slice pg gs.length cg, .slice pa ks.length ca] 43)).alloc (.cells #[.int .i64 N, .int .i64 D] 31)) from (((Below.refl _ _).alloc (Nat.le_refl _) _).alloc (by simp) _))
 go_wp2_with fail
 refine (valid_lit _ _ _ us gs ks N D _ (SU.out.below BW.out) (SG.out.below BW.out) (SA.out.below BW.out) (by omega) (by omega) (by omega) true HV.out).mono ?_
 rintro e w1 ⟨rfl, hb⟩
 have oT : Own w1 w.heap.size [.slice pu us.length cu, .slice pg gs.length cg, .slice pa ks.length ca] 43 := ((own_at _ _ rfl).alloc _).below hb
 have oL : Own w1 (w.heap.size + 1) [.int .i64 N, .int .i64 D] 31 := (own_at _ _ (by simp)).below hb
 have bel := belowTo (((Below.refl w.heap.size w).alloc (by simp) _).alloc (by simp) _) hb (by simp; omega)
 clear hb
 obtain ⟨cT0, cT1, cT2, fT, zT⟩ := own3 oT
 obtain ⟨cL0, cL1, fL, zL⟩ := own2 oL
 go_wp2_with fail
 refine (gval_lit x N D true _ HO.out).mono ?_
 rintro e w2 ⟨rfl, hb⟩
 replace oT := oT.below hb
 replace oL := oL.below hb
 replace bel := belowTo bel hb (by exact bel.size)
 clear hb
 clear cT0 cT1 cT2 fT zT cL0 cL1 fL zL
 obtain ⟨cT0, cT1, cT2, fT, zT⟩ := own3 oT
 obtain ⟨cL0, cL1, fL, zL⟩ := own2 oL
 go_wp2_with fail
 have OTd := Lib.hid oT.drew
 have BDd := Lib.hid (Below.refl w2.heap.size w2).drew
 obtain ⟨e0, e1, e2, _, _⟩ := own3 OTd.out
 refine region_H 6 #[false, false, false, false, false, false] (by kernel_rfl) (by kernel_rfl) (fun w' => w'.cell? ⟨w.heap.size, 0, none⟩ = some (.slice pu us.length cu) ∧ w'.cell? ⟨w.heap.size, 1, none⟩ = some (.slice pg gs.length cg) ∧ w'.cell? ⟨w.heap.size, 2, none⟩ = some (.slice pa ks.length ca)) (by kernel_rfl) ?x22s (fun hHeld => ?x22r)
 case x22s => exact ⟨e0, e1, e2⟩
 refine tH 0 19 ?_
 refine tH 1 20 ?_
 refine wpH_one (i := 2) (by kernel_rfl) rfl (fun K hK => ?_)
 rw [if_pos (by rfl)]
 go_simp
 refine (gcell_any x.s x.o x.p x.m x.u _).mono ?_
 rintro e w3 ⟨rfl, hbb⟩
 have OT3 := Lib.hid (OTd.out.below hbb)
 have B3 := Lib.hid (belowTo BDd.out hbb BDd.out.size)
 clear hbb
 obtain ⟨g0, g1, g2, _, _⟩ := own3 OT3.out
 have BT3 := Lib.hid (belowTo bel B3.out bel.size)
 refine hK.out _ _ (⟨g0, g1, g2⟩) ?_
 clear hK K hHeld
 intro hHeld
 try simp only [Act.put, List.setIfInBounds_toArray, List.set_cons_zero, List.set_cons_succ]
 refine tH 3 22 ?_
 refine wpH_one (i := 4) (by kernel_rfl) rfl (fun K hK => ?_)
 rw [if_pos (by rfl)]
 go_simp
 refine (busy_lit _ _ _ us gs x.s _ (SU.out.below BT3.out) (SG.out.below BT3.out) true HB.out).mono ?_
 rintro e w4 ⟨rfl, hbb⟩
 have OT4 := Lib.hid (OT3.out.below hbb)
 have BT4 := Lib.hid (belowTo BT3.out hbb BT3.out.size)
 clear hbb
 obtain ⟨h0, h1, h2, _, _⟩ := own3 OT4.out
 refine hK.out _ _ (⟨h0, h1, h2⟩) ?_
 clear hK K hHeld
 intro hHeld
 try simp only [Act.put, List.setIfInBounds_toArray, List.set_cons_zero, List.set_cons_succ]
 refine tH 5 18 ?_
 refine wpAnyH_done (by kernel_rfl) ?_ _
 clear cT0 cT1 cT2 fT zT e0 e1 e2 g0 g1 g2
 go_wp2_with fail
 go_ret
 exact ⟨rfl, BT4.out⟩
set_option maxRecDepth 100000 in
set_option maxHeartbeats 2000000 in
theorem rfs_g_f (vu vg va : Value) (us : List Us) (gs : List Gr) (ks : List Ak) (N D : Int) (w : World) (su : SlU w vu us) (sg : SlG w vg gs) (sa : SlA w va ks) (x : Gr) (u70 : us.length ≤ 70) (g70 : gs.length ≤ 70) (k70 : ks.length ≤ 70) (hv : vldT N D us gs ks = true) (ho : grB N D x = true) (hb : bsyB x.s us gs = false) (hf : 24 ≤ (us.length : Int) + (gs.length : Int)) : Calls Tryz.prog 55 #[.agg #[vu, vg, va], .agg #[.int .i64 N, .int .i64 D], (.iface 138 (.agg #[.int .i64 x.s, .int .i64 x.o, .int .i64 x.p, .int .i64 x.m, .int .i64 x.u]))] w fun e w' => e = .returned (.int .i64 10) ∧ Below w.heap.size w w' := by
 have hfc := field_cell
 obtain ⟨pu, cu, e0, hlu, hcu, _⟩ := su.form us.length rfl
 subst e0
 obtain ⟨pg, cg, e0, hlg, hcg, _⟩ := sg.form gs.length rfl
 subst e0
 obtain ⟨pa, ca, e0, hla, hca, _⟩ := sa.form ks.length rfl
 subst e0
 have SU := Lib.hid su
 have SG := Lib.hid sg
 have SA := Lib.hid sa
 clear su sg sa
 have iu0 : (0 : Int) ≤ (us.length : Int) := Int.natCast_nonneg _
 have ig0 : (0 : Int) ≤ (gs.length : Int) := Int.natCast_nonneg _
 have ia0 : (0 : Int) ≤ (ks.length : Int) := Int.natCast_nonneg _
 have iu : (us.length : Int) ≤ 70 := by omega
 have ig : (gs.length : Int) ≤ 70 := by omega
 have ia : (ks.length : Int) ≤ 70 := by omega
 have HV := Lib.hid hv
 have HO := Lib.hid ho
 have HB := Lib.hid hb
 clear hv ho hb
 have hfb : (24 : Int) ≤ (us.length : Int) + (gs.length : Int) := hf
 go_enter Tryz.func55, Tryz.ntmps55
 have BW := Lib.hid (show Below w.heap.size w ((w.alloc (.cells #[.slice pu us.length cu, .slice pg gs.length cg, .slice pa ks.length ca] 43)).alloc (.cells #[.int .i64 N, .int .i64 D] 31)) from (((Below.refl _ _).alloc (Nat.le_refl _) _).alloc (by simp) _))
 go_wp2_with fail
 refine (valid_lit _ _ _ us gs ks N D _ (SU.out.below BW.out) (SG.out.below BW.out) (SA.out.below BW.out) (by omega) (by omega) (by omega) true HV.out).mono ?_
 rintro e w1 ⟨rfl, hb⟩
 have oT : Own w1 w.heap.size [.slice pu us.length cu, .slice pg gs.length cg, .slice pa ks.length ca] 43 := ((own_at _ _ rfl).alloc _).below hb
 have oL : Own w1 (w.heap.size + 1) [.int .i64 N, .int .i64 D] 31 := (own_at _ _ (by simp)).below hb
 have bel := belowTo (((Below.refl w.heap.size w).alloc (by simp) _).alloc (by simp) _) hb (by simp; omega)
 clear hb
 obtain ⟨cT0, cT1, cT2, fT, zT⟩ := own3 oT
 obtain ⟨cL0, cL1, fL, zL⟩ := own2 oL
 go_wp2_with fail
 refine (gval_lit x N D true _ HO.out).mono ?_
 rintro e w2 ⟨rfl, hb⟩
 replace oT := oT.below hb
 replace oL := oL.below hb
 replace bel := belowTo bel hb (by exact bel.size)
 clear hb
 clear cT0 cT1 cT2 fT zT cL0 cL1 fL zL
 obtain ⟨cT0, cT1, cT2, fT, zT⟩ := own3 oT
 obtain ⟨cL0, cL1, fL, zL⟩ := own2 oL
 go_wp2_with fail
 have OTd := Lib.hid oT.drew
 have BDd := Lib.hid (Below.refl w2.heap.size w2).drew
 obtain ⟨e0, e1, e2, _, _⟩ := own3 OTd.out
 refine region_H 6 #[false, false, false, false, false, false] (by kernel_rfl) (by kernel_rfl) (fun w' => w'.cell? ⟨w.heap.size, 0, none⟩ = some (.slice pu us.length cu) ∧ w'.cell? ⟨w.heap.size, 1, none⟩ = some (.slice pg gs.length cg) ∧ w'.cell? ⟨w.heap.size, 2, none⟩ = some (.slice pa ks.length ca)) (by kernel_rfl) ?x29s (fun hHeld => ?x29r)
 case x29s => exact ⟨e0, e1, e2⟩
 refine tH 0 19 ?_
 refine tH 1 20 ?_
 refine wpH_one (i := 2) (by kernel_rfl) rfl (fun K hK => ?_)
 rw [if_pos (by rfl)]
 go_simp
 refine (gcell_any x.s x.o x.p x.m x.u _).mono ?_
 rintro e w3 ⟨rfl, hbb⟩
 have OT3 := Lib.hid (OTd.out.below hbb)
 have B3 := Lib.hid (belowTo BDd.out hbb BDd.out.size)
 clear hbb
 obtain ⟨g0, g1, g2, _, _⟩ := own3 OT3.out
 have BT3 := Lib.hid (belowTo bel B3.out bel.size)
 refine hK.out _ _ (⟨g0, g1, g2⟩) ?_
 clear hK K hHeld
 intro hHeld
 try simp only [Act.put, List.setIfInBounds_toArray, List.set_cons_zero, List.set_cons_succ]
 refine tH 3 22 ?_
 refine wpH_one (i := 4) (by kernel_rfl) rfl (fun K hK => ?_)
 rw [if_pos (by rfl)]
 go_simp
 refine (busy_lit _ _ _ us gs x.s _ (SU.out.below BT3.out) (SG.out.below BT3.out) false HB.out).mono ?_
 rintro e w4 ⟨rfl, hbb⟩
 have OT4 := Lib.hid (OT3.out.below hbb)
 have BT4 := Lib.hid (belowTo BT3.out hbb BT3.out.size)
 clear hbb
 obtain ⟨h0, h1, h2, _, _⟩ := own3 OT4.out
 refine hK.out _ _ (⟨h0, h1, h2⟩) ?_
 clear hK K hHeld
 intro hHeld
 try simp only [Act.put, List.setIfInBounds_toArray, List.set_cons_zero, List.set_cons_succ]
 refine tH 5 18 ?_
 refine wpAnyH_done (by kernel_rfl) ?_ _
 clear cT0 cT1 cT2 fT zT e0 e1 e2 g0 g1 g2
 go_wp2_with fail
 go_ret
 exact ⟨rfl, BT4.out⟩
set_option maxRecDepth 100000 in
set_option maxHeartbeats 2000000 in
theorem rfs_g_o (vu vg va : Value) (us : List Us) (gs : List Gr) (ks : List Ak) (N D : Int) (w : World) (su : SlU w vu us) (sg : SlG w vg gs) (sa : SlA w va ks) (x : Gr) (u70 : us.length ≤ 70) (g70 : gs.length ≤ 70) (k70 : ks.length ≤ 70) (hv : vldT N D us gs ks = true) (ho : grB N D x = true) (hb : bsyB x.s us gs = false) (hf : ¬ 24 ≤ (us.length : Int) + (gs.length : Int)) : Calls Tryz.prog 55 #[.agg #[vu, vg, va], .agg #[.int .i64 N, .int .i64 D], (.iface 138 (.agg #[.int .i64 x.s, .int .i64 x.o, .int .i64 x.p, .int .i64 x.m, .int .i64 x.u]))] w fun e w' => e = .returned (.int .i64 0) ∧ Below w.heap.size w w' := by
 have hfc := field_cell
 obtain ⟨pu, cu, e0, hlu, hcu, _⟩ := su.form us.length rfl
 subst e0
 obtain ⟨pg, cg, e0, hlg, hcg, _⟩ := sg.form gs.length rfl
 subst e0
 obtain ⟨pa, ca, e0, hla, hca, _⟩ := sa.form ks.length rfl
 subst e0
 have SU := Lib.hid su
 have SG := Lib.hid sg
 have SA := Lib.hid sa
 clear su sg sa
 have iu0 : (0 : Int) ≤ (us.length : Int) := Int.natCast_nonneg _
 have ig0 : (0 : Int) ≤ (gs.length : Int) := Int.natCast_nonneg _
 have ia0 : (0 : Int) ≤ (ks.length : Int) := Int.natCast_nonneg _
 have iu : (us.length : Int) ≤ 70 := by omega
 have ig : (gs.length : Int) ≤ 70 := by omega
 have ia : (ks.length : Int) ≤ 70 := by omega
 have HV := Lib.hid hv
 have HO := Lib.hid ho
 have HB := Lib.hid hb
 clear hv ho hb
 go_enter Tryz.func55, Tryz.ntmps55
 have BW := Lib.hid (show Below w.heap.size w ((w.alloc (.cells #[.slice pu us.length cu, .slice pg gs.length cg, .slice pa ks.length ca] 43)).alloc (.cells #[.int .i64 N, .int .i64 D] 31)) from (((Below.refl _ _).alloc (Nat.le_refl _) _).alloc (by simp) _))
 go_wp2_with fail
 refine (valid_lit _ _ _ us gs ks N D _ (SU.out.below BW.out) (SG.out.below BW.out) (SA.out.below BW.out) (by omega) (by omega) (by omega) true HV.out).mono ?_
 rintro e w1 ⟨rfl, hb⟩
 have oT : Own w1 w.heap.size [.slice pu us.length cu, .slice pg gs.length cg, .slice pa ks.length ca] 43 := ((own_at _ _ rfl).alloc _).below hb
 have oL : Own w1 (w.heap.size + 1) [.int .i64 N, .int .i64 D] 31 := (own_at _ _ (by simp)).below hb
 have bel := belowTo (((Below.refl w.heap.size w).alloc (by simp) _).alloc (by simp) _) hb (by simp; omega)
 clear hb
 obtain ⟨cT0, cT1, cT2, fT, zT⟩ := own3 oT
 obtain ⟨cL0, cL1, fL, zL⟩ := own2 oL
 go_wp2_with fail
 refine (gval_lit x N D true _ HO.out).mono ?_
 rintro e w2 ⟨rfl, hb⟩
 replace oT := oT.below hb
 replace oL := oL.below hb
 replace bel := belowTo bel hb (by exact bel.size)
 clear hb
 clear cT0 cT1 cT2 fT zT cL0 cL1 fL zL
 obtain ⟨cT0, cT1, cT2, fT, zT⟩ := own3 oT
 obtain ⟨cL0, cL1, fL, zL⟩ := own2 oL
 go_wp2_with fail
 have OTd := Lib.hid oT.drew
 have BDd := Lib.hid (Below.refl w2.heap.size w2).drew
 obtain ⟨e0, e1, e2, _, _⟩ := own3 OTd.out
 refine region_H 6 #[false, false, false, false, false, false] (by kernel_rfl) (by kernel_rfl) (fun w' => w'.cell? ⟨w.heap.size, 0, none⟩ = some (.slice pu us.length cu) ∧ w'.cell? ⟨w.heap.size, 1, none⟩ = some (.slice pg gs.length cg) ∧ w'.cell? ⟨w.heap.size, 2, none⟩ = some (.slice pa ks.length ca)) (by kernel_rfl) ?x36s (fun hHeld => ?x36r)
 case x36s => exact ⟨e0, e1, e2⟩
 refine tH 0 19 ?_
 refine tH 1 20 ?_
 refine wpH_one (i := 2) (by kernel_rfl) rfl (fun K hK => ?_)
 rw [if_pos (by rfl)]
 go_simp
 refine (gcell_any x.s x.o x.p x.m x.u _).mono ?_
 rintro e w3 ⟨rfl, hbb⟩
 have OT3 := Lib.hid (OTd.out.below hbb)
 have B3 := Lib.hid (belowTo BDd.out hbb BDd.out.size)
 clear hbb
 obtain ⟨g0, g1, g2, _, _⟩ := own3 OT3.out
 have BT3 := Lib.hid (belowTo bel B3.out bel.size)
 refine hK.out _ _ (⟨g0, g1, g2⟩) ?_
 clear hK K hHeld
 intro hHeld
 try simp only [Act.put, List.setIfInBounds_toArray, List.set_cons_zero, List.set_cons_succ]
 refine tH 3 22 ?_
 refine wpH_one (i := 4) (by kernel_rfl) rfl (fun K hK => ?_)
 rw [if_pos (by rfl)]
 go_simp
 refine (busy_lit _ _ _ us gs x.s _ (SU.out.below BT3.out) (SG.out.below BT3.out) false HB.out).mono ?_
 rintro e w4 ⟨rfl, hbb⟩
 have OT4 := Lib.hid (OT3.out.below hbb)
 have BT4 := Lib.hid (belowTo BT3.out hbb BT3.out.size)
 clear hbb
 obtain ⟨h0, h1, h2, _, _⟩ := own3 OT4.out
 refine hK.out _ _ (⟨h0, h1, h2⟩) ?_
 clear hK K hHeld
 intro hHeld
 try simp only [Act.put, List.setIfInBounds_toArray, List.set_cons_zero, List.set_cons_succ]
 refine tH 5 18 ?_
 refine wpAnyH_done (by kernel_rfl) ?_ _
 clear cT0 cT1 cT2 fT zT e0 e1 e2 g0 g1 g2
 go_wp2_with fail
 go_ret
 exact ⟨rfl, BT4.out⟩
theorem rfs_g (vu vg va : Value) (us : List Us) (gs : List Gr) (ks : List Ak) (N D : Int) (w : World) (su : SlU w vu us) (sg : SlG w vg gs) (sa : SlA w va ks) (x : Gr) (u70 : us.length ≤ 70) (g70 : gs.length ≤ 70) (k70 : ks.length ≤ 70) : Calls Tryz.prog 55 #[.agg #[vu, vg, va], .agg #[.int .i64 N, .int .i64 D], (.iface 138 (.agg #[.int .i64 x.s, .int .i64 x.o, .int .i64 x.p, .int .i64 x.m, .int .i64 x.u]))] w fun e w' => e = .returned (.int .i64 (refE N D us gs ks (grB N D x) x.s)) ∧ Below w.heap.size w w' := by
 cases hv : vldT N D us gs ks with
 | false => rw [refE_v0 hv]; exact rfs_g_v0 vu vg va us gs ks N D w su sg sa x u70 g70 k70 hv
 | true =>
  cases ho : grB N D x with
  | false => rw [refE_v1 rfl]; exact rfs_g_v1 vu vg va us gs ks N D w su sg sa x u70 g70 k70 hv ho
  | true =>
   cases hb : bsyB x.s us gs with
   | true => rw [refE_b hv rfl hb]; exact rfs_g_b vu vg va us gs ks N D w su sg sa x u70 g70 k70 hv ho hb
   | false =>
    by_cases hf : 24 ≤ (us.length : Int) + (gs.length : Int)
    ·rw [refE_f hv rfl hb hf]; exact rfs_g_f vu vg va us gs ks N D w su sg sa x u70 g70 k70 hv ho hb hf
    ·rw [refE_o hv rfl hb hf]; exact rfs_g_o vu vg va us gs ks N D w su sg sa x u70 g70 k70 hv ho hb hf
theorem rfs_g_lit (vu vg va : Value) (us : List Us) (gs : List Gr) (ks : List Ak) (N D : Int) (w : World) (su : SlU w vu us) (sg : SlG w vg gs) (sa : SlA w va ks) (x : Gr) (u70 : us.length ≤ 70) (g70 : gs.length ≤ 70) (k70 : ks.length ≤ 70) (r : Int) (h : agE N D us gs ks x = r) : Calls Tryz.prog 55 #[.agg #[vu, vg, va], .agg #[.int .i64 N, .int .i64 D], (.iface 138 (.agg #[.int .i64 x.s, .int .i64 x.o, .int .i64 x.p, .int .i64 x.m, .int .i64 x.u]))] w fun e w' => e = .returned (.int .i64 r) ∧ Below w.heap.size w w' := by
 rw [← h]; exact rfs_g vu vg va us gs ks N D w su sg sa x u70 g70 k70
end Go.Proofs.YtmopiifamopidaaGreat
end

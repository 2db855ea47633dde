/- The plain law of the protocol (settled: behind a frame no grant and no use of others clash, if all tables were valid), and the closures of package cells. No condition but those named. -/
import Derived.Test.YtmopiifamopidaaGreatPA
import Derived.Deep.MidRow
import Derived.Laws.OwnMore
import Derived.Lib.SliceRun
import Derived.Maps.OwnOps
import Derived.Maps.RangeWalk
import Derived.Maps.Views
set_option linter.unusedVariables false
set_option linter.unusedSimpArgs false
section
namespace Go.Proofs.YtmopiifamopidaaGreat
open Go.RowKit
structure Nb where
 fr : Int
 fm : Int
 us : List Us
 gs : List Gr
 ks : List Ak
structure Tb where
 us : List Us
 gs : List Gr
 ks : List Ak
def Tb.ok (N D : Int) (t : Tb) : Bool := vldT N D t.us t.gs t.ks
def nbsB (N me f : Int) : Int → List Nb → Bool
 | _, [] => true
 | last, n :: l => inB n.fm (N - 1) && (!(n.fm == me) && (decide (last < n.fm) && (inB n.fr f && nbsB N me f n.fm l)))
def sideB (N D : Int) (t : Tb) (me : Int) (ns : List Nb) (f : Int) : Bool := t.ok N D && (inB me (N - 1) && (inB f 999999992 && nbsB N me f (-1) ns))
def sid1 (N D : Int) (n : Nb) : Nb := ⟨n.fr, n.fm, n.us.filter (fun d => usB N D d), n.gs.filter (fun d => grB N D d), n.ks.filter (fun d => plcB d.s d.o d.p N D)⟩
def sidL (N D : Int) (ns : List Nb) : List Nb := ns.map (sid1 N D)
def fndF (p : Int) (S : List Nb) : Option Nb := S.find? (fun n => n.fm == p)
def nb0 : Nb := ⟨0, 0, [], [], []⟩
def grdF (me f : Int) (gs : List Gr) : List Gr := gs.filter (fun g => g.p == me && decide (f ≤ g.u))
def tkU1 (me f : Int) (S : List Nb) (u : Us) : Option Us :=
 ((grdF me f ((fndF u.p S).getD nb0).gs).find? (fun g => g.s == u.s && g.o == u.o)).map fun g => ⟨u.s, u.o, u.p, g.m⟩
def tkU (me f : Int) (S : List Nb) (us : List Us) : List Us := us.filterMap (tkU1 me f S)
def tkA (N D fm : Int) (T : Tb) (g : Gr) : Tb := if auE N D T.us T.gs T.ks ⟨g.s, g.o, fm, g.m⟩ = 0 then ⟨adU ⟨g.s, g.o, fm, g.m⟩ T.us, T.gs, una g.s T.ks⟩ else T
def tkN (N D me f : Int) (ps : List Int) (T : Tb) (n : Nb) : Tb := if ps.contains n.fm = true then (grdF me f n.gs).foldl (tkA N D n.fm) T else T
def takF (N D : Int) (t : Tb) (me : Int) (ns : List Nb) (f : Int) : Tb :=
 if sideB N D t me ns f = true then (sidL N D ns).foldl (tkN N D me f (t.ks.map Ak.p ++ t.us.map Us.p)) ⟨tkU me f (sidL N D ns) t.us, t.gs, t.ks⟩ else t
def latB (f : Int) (n : Nb) : Bool := n.fr == f || n.fr == f - 1
def bgB (f me : Int) (u : Us) (n : Nb) : Bool := latB f n && n.gs.any fun g => (g.s == u.s && g.o == u.o && decide (f ≤ g.u)) && (!(g.p == me) && betB g.m g.p u.m me)
def buB (f : Int) (g : Gr) (n : Nb) : Bool := latB f n && n.us.any fun u => (u.s == g.s && u.o == g.o) && (!(n.fm == g.p) && betB u.m n.fm g.m g.p)
def yldF (t : Tb) (me : Int) (ns : List Nb) (f : Int) : Tb := ⟨t.us.filter (fun u => !ns.any (bgB f me u)), t.gs.filter (fun g => !ns.any (buB f g)), t.ks⟩
def hrdB (f : Int) (n : Nb) : Bool := decide (f - 1 ≤ n.fr)
def telB (me : Int) (n : Nb) (s o : Int) : Bool := n.us.any (fun u => u.s == s && u.o == o && u.p == me) || n.ks.any (fun a => a.s == s && a.o == o && a.p == me)
def usdB (S : List Nb) (s o but : Int) : Bool := S.any fun n => !(n.fm == but) && n.us.any fun u => u.s == s && u.o == o
def gL1 (me f : Int) (S : List Nb) (g : Gr) : Gr :=
 match fndF g.p S with
 | some n => if (hrdB f n && telB me n g.s g.o) = true then ⟨g.s, g.o, g.p, g.m, max g.u (f + 8)⟩ else g
 | none => g
def gtA (N D me f : Int) (S : List Nb) (fm : Int) (T : Tb) (a : Ak) : Tb :=
 if (a.p == me && !usdB S a.s a.o fm) = true then
  (if agE N D T.us T.gs T.ks ⟨a.s, a.o, fm, f, f + 8⟩ = 0 then ⟨T.us, adG ⟨a.s, a.o, fm, f, f + 8⟩ T.gs, una a.s T.ks⟩ else T)
 else T
def gtN (N D me f : Int) (S : List Nb) (T : Tb) (n : Nb) : Tb := if hrdB f n = true then n.ks.foldl (gtA N D me f S n.fm) T else T
def grtF (N D : Int) (t : Tb) (me : Int) (ns : List Nb) (f : Int) : Tb :=
 if sideB N D t me ns f = true then (sidL N D ns).foldl (gtN N D me f (sidL N D ns)) ⟨t.us, (t.gs.filter (fun g => !decide (g.u < f))).map (gL1 me f (sidL N D ns)), t.ks⟩ else t
def posB (me : Int) (S : List Nb) (us : List Us) (gs : List Gr) (n : Nb) (s o : Int) : Bool :=
 !bsyB s us gs && (!bsyB s n.us n.gs && !(S.any fun m => m.gs.any fun g => (g.s == s && g.o == o) && !(g.p == me)))
def triC (D me f : Int) (k : Nat) : Int × Int := (((17 * me + 5 * f + k) % (16 * D)) % D, ((17 * me + 5 * f + k) % (16 * D)) / D)
def askS (me : Int) (S : List Nb) (us : List Us) (gs : List Gr) (n : Nb) (p many : Int) (l : List Ak) (c : Int × Int) : List Ak :=
 if many ≤ (l.length : Int) then l
 else if (posB me S us gs n c.1 c.2 && !l.any (fun a => a.s == c.1)) = true then l ++ [⟨c.1, c.2, p⟩] else l
def ask0 (me : Int) (S : List Nb) (us : List Us) (gs : List Gr) (n : Nb) (p many : Int) (ks : List Ak) : List Ak := (ks.filter (fun a => a.p == p && posB me S us gs n a.s a.o)).take many.toNat
def askU (D me f : Int) (S : List Nb) (us : List Us) (gs : List Gr) (n : Nb) (p many : Int) (ks : List Ak) (k : Nat) : List Ak :=
 ((List.range k).map (triC D me f)).foldl (askS me S us gs n p many) (ask0 me S us gs n p many ks)
def srtA (l : List Ak) : List Ak := l.foldl (fun acc x => insL (fun d => decide (x.s < d.s)) x acc) []
def askF (N D : Int) (t : Tb) (me : Int) (ns : List Nb) (p many f : Int) : Tb :=
 if (sideB N D t me ns f && inB many 24) = true then
  (match fndF p (sidL N D ns) with
   | none => ⟨t.us, t.gs, []⟩
   | some n => ⟨t.us, t.gs, srtA (askU D me f (sidL N D ns) t.us t.gs n p many t.ks (16 * D).toNat)⟩)
 else t
def notF (b : Nb) : Bool → List Nb → List Nb
 | done, [] => if done = true then [] else [b]
 | done, n :: l => (if (!done && decide (b.fm ≤ n.fm)) = true then [b] else []) ++ (if (n.fm == b.fm) = true then [] else [n]) ++ notF b (done || decide (b.fm ≤ n.fm)) l
def updF {α : Type} (T : Nat → α) (i : Nat) (x : α) : Nat → α := fun j => if j = i then x else T j
def notA (n : Nat) (H : Nat → Nat → Bool) (i : Nat) (b : Nb) (R : Nat → List Nb) : Nat → List Nb := fun k => if k < n ∧ k ≠ i ∧ H k i = true then notF b false (R k) else R k
def ph1 (N D : Int) (n : Nat) (H : Nat → Nat → Bool) (f : Int) (T : Nat → Tb) (R : Nat → List Nb) : Nat → (Nat → Tb) × (Nat → List Nb)
 | 0 => (T, R)
 | i + 1 =>
  let t := takF N D ((ph1 N D n H f T R i).1 i) i ((ph1 N D n H f T R i).2 i) f
  (updF (ph1 N D n H f T R i).1 i t, notA n H i ⟨f, i, t.us, t.gs, t.ks⟩ (ph1 N D n H f T R i).2)
def ph2 (N D : Int) (f : Int) (par many : Nat → Int) (T : Nat → Tb) (R : Nat → List Nb) (i : Nat) : Tb :=
 askF N D (grtF N D (yldF (T i) i (R i) f) i (R i) f) i (R i) (par i) (many i) f
def frmT (N D : Int) (n : Nat) (H : Nat → Nat → Bool) (f : Int) (par many : Nat → Int) (T : Nat → Tb) (R : Nat → List Nb) : Nat → Tb := fun i => if i < n then ph2 N D f par many (ph1 N D n H f T R n).1 (ph1 N D n H f T R n).2 i else T i
def frmR (N D : Int) (n : Nat) (H : Nat → Nat → Bool) (f : Int) (T : Nat → Tb) (R : Nat → List Nb) : Nat → List Nb := (ph1 N D n H f T R n).2
def Tb.Val (N D : Int) (t : Tb) : Prop := Go.Proofs.YtmopiifamopidaaGreat.Val N D t.us t.gs t.ks
theorem tok_iff {N D : Int} {t : Tb} : t.ok N D = true ↔ t.Val N D := vld_iff
theorem val_us {N D : Int} {us us' : List Us} {gs : List Gr} {ks : List Ak} (h : Val N D us gs ks) (hl : us'.length ≤ us.length) (hs : Srt Us.s us') (ho : ∀ d ∈ us', usB N D d = true) (hm : ∀ d ∈ us', ∃ a ∈ us, a.s = d.s) : Val N D us' gs ks :=
 ⟨h.lay, by have := h.n24; omega, h.k24, hs, h.sg, h.sa, ho, h.og, h.oa, fun a ha b hb => by obtain ⟨c, hc, e⟩ := hm a ha; rw [← e]; exact h.ug c hc b hb, fun a ha b hb => by obtain ⟨c, hc, e⟩ := hm a ha; rw [← e]; exact h.ua c hc b hb, h.ga⟩
theorem val_gs {N D : Int} {us : List Us} {gs gs' : List Gr} {ks : List Ak} (h : Val N D us gs ks) (hl : gs'.length ≤ gs.length) (hs : Srt Gr.s gs') (ho : ∀ d ∈ gs', grB N D d = true) (hm : ∀ d ∈ gs', ∃ a ∈ gs, a.s = d.s) : Val N D us gs' ks :=
 ⟨h.lay, by have := h.n24; omega, h.k24, h.su, hs, h.sa, h.ou, ho, h.oa, fun a ha b hb => by obtain ⟨c, hc, e⟩ := hm b hb; rw [← e]; exact h.ug a ha c hc, h.ua, fun a ha b hb => by obtain ⟨c, hc, e⟩ := hm a ha; rw [← e]; exact h.ga c hc b hb⟩
theorem val_ks {N D : Int} {us : List Us} {gs : List Gr} {ks ks' : List Ak} (h : Val N D us gs ks) (hl : ks'.length ≤ 24) (hs : Srt Ak.s ks') (ho : ∀ d ∈ ks', akB N D d = true) (h1 : ∀ d ∈ ks', bsyB d.s us gs = false) : Val N D us gs ks' :=
 ⟨h.lay, h.n24, hl, h.su, h.sg, hs, h.ou, h.og, ho, h.ug, fun a ha b hb e => (bsy_false.1 (h1 b hb)).1 a ha e, fun a ha b hb e => (bsy_false.1 (h1 b hb)).2 a ha e⟩
theorem us_len {N D : Int} {t : Tb} (h : t.Val N D) : t.us.length + t.gs.length ≤ 24 ∧ t.ks.length ≤ 24 := ⟨h.n24, h.k24⟩
theorem tkU1_s {me f : Int} {S : List Nb} {u v : Us} (h : tkU1 me f S u = some v) : v.s = u.s := by
 unfold tkU1 at h
 cases e : (grdF me f ((fndF u.p S).getD nb0).gs).find? (fun g => g.s == u.s && g.o == u.o) with
 | none => rw [e] at h; cases h
 | some g => rw [e] at h; obtain rfl := Option.some.inj h; rfl
theorem srt_fm {α β : Type} {sl : α → Int} {sm : β → Int} {p : α → Option β} (hp : ∀ a b, p a = some b → sm b = sl a) : ∀ {l : List α}, Srt sl l → Srt sm (l.filterMap p)
 | [], _ => List.Pairwise.nil
 | a :: l, h => by
  obtain ⟨h1, h2⟩ := List.pairwise_cons.1 h
  rw [List.filterMap_cons]
  cases e : p a with
  | none => exact srt_fm hp h2
  | some b =>
   refine List.pairwise_cons.2 ⟨fun c hc => ?_, srt_fm hp h2⟩
   obtain ⟨d, hd, hd2⟩ := List.mem_filterMap.1 hc
   rw [hp _ _ e, hp _ _ hd2]
   exact h1 d hd
theorem mem_sidL {N D : Int} {ns : List Nb} {n : Nb} (h : n ∈ sidL N D ns) : (∀ d ∈ n.us, usB N D d = true) ∧ (∀ d ∈ n.gs, grB N D d = true) ∧ ∀ d ∈ n.ks, akB N D d = true := by
 obtain ⟨m, _, rfl⟩ := List.mem_map.1 h
 exact ⟨fun d hd => (List.mem_filter.1 hd).2, fun d hd => (List.mem_filter.1 hd).2, fun d hd => (List.mem_filter.1 hd).2⟩
theorem fnd_mem {p : Int} {S : List Nb} {n : Nb} (h : fndF p S = some n) : n ∈ S ∧ n.fm = p := ⟨List.mem_of_find?_eq_some h, by simpa using List.find?_some h⟩
theorem tkU_ok {N D me f : Int} {ns : List Nb} {us : List Us} (h : ∀ d ∈ us, usB N D d = true) : ∀ d ∈ tkU me f (sidL N D ns) us, usB N D d = true := by
 intro d hd
 obtain ⟨u, hu, e⟩ := List.mem_filterMap.1 hd
 have hv := h u hu
 unfold tkU1 at e
 cases eg : (grdF me f ((fndF u.p (sidL N D ns)).getD nb0).gs).find? (fun g => g.s == u.s && g.o == u.o) with
 | none => rw [eg] at e; cases e
 | some g =>
  rw [eg] at e
  obtain rfl := Option.some.inj e
  have hg := List.mem_of_find?_eq_some eg
  have hg2 := (List.mem_filter.1 hg).1
  cases ef : fndF u.p (sidL N D ns) with
  | none => rw [ef] at hg2; simp [nb0] at hg2
  | some n =>
   rw [ef] at hg2
   have := (mem_sidL (fnd_mem ef).1).2.1 g hg2
   simp only [grB, usB, Bool.and_eq_true, decide_eq_true_eq] at this hv ⊢
   exact ⟨⟨hv.1.1, this.1.1.2⟩, by have := this.1.2; have := this; omega⟩
theorem tkA_val {N D fm : Int} {T : Tb} {g : Gr} (h : T.Val N D) : (tkA N D fm T g).Val N D := by
 unfold tkA
 split
 ·rename_i he
  obtain ⟨h1, h2, h3, h4⟩ := auE_ok he
  exact val_addU h1 h2 h3 h4
 ·exact h
theorem foldl_inv {α β : Type} {P : β → Prop} {g : β → α → β} {l : List α} (hg : ∀ b a, a ∈ l → P b → P (g b a)) : ∀ {b : β}, P b → P (l.foldl g b) := by
 induction l with
 | nil => intro b h; exact h
 | cons a l ih => intro b h; exact ih (fun b c hc => hg b c (by simp [hc])) (hg b a (by simp) h)
theorem tkN_val {N D me f : Int} {ps : List Int} {T : Tb} {n : Nb} (h : T.Val N D) : (tkN N D me f ps T n).Val N D := by
 unfold tkN
 split
 ·exact foldl_inv (P := fun T : Tb => T.Val N D) (fun _ _ _ h => tkA_val h) h
 ·exact h
theorem side_val {N D me f : Int} {t : Tb} {ns : List Nb} (h : sideB N D t me ns f = true) : t.Val N D := by
 simp only [sideB, Bool.and_eq_true] at h; exact tok_iff.1 h.1
theorem tkU_val {N D me f : Int} {t : Tb} {ns : List Nb} (h : t.Val N D) : Val N D (tkU me f (sidL N D ns) t.us) t.gs t.ks :=
 val_us h (List.length_filterMap_le _ _) (srt_fm (fun a b e => tkU1_s e) h.su) (tkU_ok h.ou) fun d hd => by
  obtain ⟨u, hu, e⟩ := List.mem_filterMap.1 hd
  exact ⟨u, hu, (tkU1_s e).symm⟩
theorem tak_val {N D me f : Int} {t : Tb} {ns : List Nb} (h : t.Val N D) : (takF N D t me ns f).Val N D := by
 unfold takF
 split
 ·exact foldl_inv (P := fun T : Tb => T.Val N D) (fun _ _ _ h => tkN_val h) (tkU_val h)
 ·exact h
theorem yld_val {N D me f : Int} {t : Tb} {ns : List Nb} (h : t.Val N D) : (yldF t me ns f).Val N D := by
 have := val_sub (fun u => !ns.any (bgB f me u)) (fun g => !ns.any (buB f g)) (fun _ => true) h
 rw [filt_all (p := fun _ => true) fun _ _ => rfl] at this
 exact this
theorem gL1_s {me f : Int} {S : List Nb} {g : Gr} : (gL1 me f S g).s = g.s ∧ (gL1 me f S g).o = g.o ∧ (gL1 me f S g).p = g.p ∧ (gL1 me f S g).m = g.m ∧ ((gL1 me f S g).u = g.u ∨ (gL1 me f S g).u = max g.u (f + 8)) := by
 unfold gL1
 split
 ·split
  ·exact ⟨rfl, rfl, rfl, rfl, Or.inr rfl⟩
  ·exact ⟨rfl, rfl, rfl, rfl, Or.inl rfl⟩
 ·exact ⟨rfl, rfl, rfl, rfl, Or.inl rfl⟩
theorem gL1_ok {N D me f : Int} {S : List Nb} {g : Gr} (h : grB N D g = true) (hf : f ≤ 999999992) : grB N D (gL1 me f S g) = true := by
 obtain ⟨h1, h2, h3, h4, h5⟩ := gL1_s (me := me) (f := f) (S := S) (g := g)
 simp only [grB, Bool.and_eq_true, decide_eq_true_eq] at h ⊢
 rw [h1, h2, h3, h4]
 refine ⟨⟨h.1.1, ?_⟩, ?_⟩ <;> rcases h5 with h5 | h5 <;> rw [h5] <;> have := h.1.2 <;> have := h.2 <;> omega
theorem gtA_val {N D me f fm : Int} {S : List Nb} {T : Tb} {a : Ak} (h : T.Val N D) : (gtA N D me f S fm T a).Val N D := by
 unfold gtA
 split
 ·split
  ·rename_i he
   obtain ⟨h1, h2, h3, h4⟩ := agE_ok he
   exact val_addG h1 h2 h3 h4
  ·exact h
 ·exact h
theorem gtN_val {N D me f : Int} {S : List Nb} {T : Tb} {n : Nb} (h : T.Val N D) : (gtN N D me f S T n).Val N D := by
 unfold gtN
 split
 ·exact foldl_inv (P := fun T : Tb => T.Val N D) (fun _ _ _ h => gtA_val h) h
 ·exact h
theorem srt_mp {α : Type} {sl : α → Int} {p : α → α} (hp : ∀ a, sl (p a) = sl a) {l : List α} (h : Srt sl l) : Srt sl (l.map p) := by
 rw [Srt, List.pairwise_map]
 exact h.imp fun h => by rw [hp, hp]; exact h
theorem grt0_val {N D me f : Int} {t : Tb} {S : List Nb} (h : t.Val N D) (hf : f ≤ 999999992) : Val N D t.us ((t.gs.filter (fun g => !decide (g.u < f))).map (gL1 me f S)) t.ks := by
 refine val_gs h (by rw [List.length_map]; exact List.length_filter_le _ _) (srt_mp (fun g => gL1_s.1) (srt_filter h.sg)) (fun d hd => ?_) fun d hd => ?_
 ·obtain ⟨g, hg, rfl⟩ := List.mem_map.1 hd
  exact gL1_ok (h.og g (List.mem_filter.1 hg).1) hf
 ·obtain ⟨g, hg, rfl⟩ := List.mem_map.1 hd
  exact ⟨g, (List.mem_filter.1 hg).1, gL1_s.1.symm⟩
theorem side_f {N D me f : Int} {t : Tb} {ns : List Nb} (h : sideB N D t me ns f = true) : 0 ≤ f ∧ f ≤ 999999992 := by
 simp only [sideB, inB, Bool.and_eq_true, decide_eq_true_eq] at h; exact h.2.2.1
theorem grt_val {N D me f : Int} {t : Tb} {ns : List Nb} (h : t.Val N D) : (grtF N D t me ns f).Val N D := by
 unfold grtF
 split
 ·rename_i hs
  exact foldl_inv (P := fun T : Tb => T.Val N D) (fun _ _ _ h => gtN_val h) (grt0_val h (side_f hs).2)
 ·exact h
theorem gtA_us {N D me f fm : Int} {S : List Nb} {T : Tb} {a : Ak} : (gtA N D me f S fm T a).us = T.us := by
 unfold gtA; split
 ·split <;> rfl
 ·rfl
theorem gtN_us {N D me f : Int} {S : List Nb} {T : Tb} {n : Nb} : (gtN N D me f S T n).us = T.us := by
 unfold gtN; split
 ·exact foldl_inv (P := fun X : Tb => X.us = T.us) (fun X _ _ h => gtA_us.trans h) rfl
 ·rfl
theorem grt_us {N D me f : Int} {t : Tb} {ns : List Nb} : (grtF N D t me ns f).us = t.us := by
 unfold grtF; split
 ·exact foldl_inv (P := fun X : Tb => X.us = t.us) (fun X _ _ h => gtN_us.trans h) rfl
 ·rfl
def GFrom (f : Int) (S : List Nb) (gs : List Gr) (g : Gr) : Prop := (∃ g0 ∈ gs, g0.s = g.s ∧ g0.o = g.o ∧ g0.p = g.p ∧ g0.m = g.m ∧ f ≤ g0.u) ∨ usdB S g.s g.o g.p = false
theorem gtA_from {N D me f fm : Int} {S : List Nb} {gs : List Gr} {T : Tb} {a : Ak} (h : ∀ g ∈ T.gs, GFrom f S gs g) : ∀ g ∈ (gtA N D me f S fm T a).gs, GFrom f S gs g := by
 unfold gtA
 split
 ·rename_i hc
  split
  ·intro g hg
   rcases mem_insL.1 hg with rfl | hg
   ·right
    simp only [Bool.and_eq_true, Bool.not_eq_true'] at hc
    exact hc.2
   ·exact h g hg
  ·exact h
 ·exact h
theorem gtN_from {N D me f : Int} {S : List Nb} {gs : List Gr} {T : Tb} {n : Nb} (h : ∀ g ∈ T.gs, GFrom f S gs g) : ∀ g ∈ (gtN N D me f S T n).gs, GFrom f S gs g := by
 unfold gtN
 split
 ·exact foldl_inv (P := fun X : Tb => ∀ g ∈ X.gs, GFrom f S gs g) (fun X _ _ h => gtA_from h) h
 ·exact h
theorem grt_from {N D me f : Int} {t : Tb} {ns : List Nb} : ∀ g ∈ (grtF N D t me ns f).gs, f ≤ g.u → GFrom f (sidL N D ns) t.gs g := by
 unfold grtF
 split
 ·intro g hg _
  refine foldl_inv (P := fun X : Tb => ∀ g ∈ X.gs, GFrom f (sidL N D ns) t.gs g) (fun X _ _ h => gtN_from h) ?_ g hg
  intro g hg
  obtain ⟨g0, hg0, rfl⟩ := List.mem_map.1 hg
  obtain ⟨h1, h2, h3, h4, _⟩ := gL1_s (me := me) (f := f) (S := sidL N D ns) (g := g0)
  obtain ⟨hm, hu⟩ := List.mem_filter.1 hg0
  exact Or.inl ⟨g0, hm, h1.symm, h2.symm, h3.symm, h4.symm, by simpa using hu⟩
 ·intro g hg hu
  exact Or.inl ⟨g, hg, rfl, rfl, rfl, rfl, hu⟩
theorem ask_ug {N D me p many f : Int} {t : Tb} {ns : List Nb} : (askF N D t me ns p many f).us = t.us ∧ (askF N D t me ns p many f).gs = t.gs := by
 unfold askF
 split
 ·split <;> exact ⟨rfl, rfl⟩
 ·exact ⟨rfl, rfl⟩
structure AskOk (N D many : Int) (us : List Us) (gs : List Gr) (l : List Ak) : Prop where
 n : (l.length : Int) ≤ many
 ok : ∀ d ∈ l, akB N D d = true
 by_ : ∀ d ∈ l, bsyB d.s us gs = false
 nd : (l.map Ak.s).Nodup
theorem pos_bsy {me : Int} {S : List Nb} {us : List Us} {gs : List Gr} {n : Nb} {s o : Int} (h : posB me S us gs n s o = true) : bsyB s us gs = false := by
 simp only [posB, Bool.and_eq_true, Bool.not_eq_true'] at h; exact h.1
theorem triC_ok {D me f : Int} {k : Nat} (hD : 1 ≤ D) : (0 ≤ (triC D me f k).1 ∧ (triC D me f k).1 < D) ∧ 0 ≤ (triC D me f k).2 ∧ (triC D me f k).2 < 16 := by
 unfold triC
 have h1 : 0 ≤ (17 * me + 5 * f + k) % (16 * D) := Int.emod_nonneg _ (by omega)
 have h2 : (17 * me + 5 * f + k) % (16 * D) < 16 * D := Int.emod_lt_of_pos _ (by omega)
 refine ⟨⟨Int.emod_nonneg _ (by omega), Int.emod_lt_of_pos _ (by omega)⟩, Int.ediv_nonneg h1 (by omega), Int.ediv_lt_of_lt_mul (by omega) ?_⟩
 exact h2
theorem askS_ok {N D me p many : Int} {S : List Nb} {us : List Us} {gs : List Gr} {n : Nb} {l : List Ak} {c : Int × Int} (hc : plcB c.1 c.2 p N D = true) (h : AskOk N D many us gs l) : AskOk N D many us gs (askS me S us gs n p many l c) := by
 unfold askS
 split
 ·exact h
 ·rename_i hl
  split
  ·rename_i hp
   simp only [Bool.and_eq_true, Bool.not_eq_true'] at hp
   refine ⟨by simp; omega, fun d hd => ?_, fun d hd => ?_, ?_⟩
   ·rcases List.mem_append.1 hd with hd | hd
    ·exact h.ok d hd
    ·rw [List.mem_singleton] at hd; subst hd; exact hc
   ·rcases List.mem_append.1 hd with hd | hd
    ·exact h.by_ d hd
    ·rw [List.mem_singleton] at hd; subst hd; exact pos_bsy hp.1
   ·rw [List.map_append, List.nodup_append]
    refine ⟨h.nd, by simp, fun a ha b hb e => ?_⟩
    simp only [List.map_cons, List.map_nil, List.mem_singleton] at hb
    obtain ⟨d, hd, rfl⟩ := List.mem_map.1 ha
    have := List.any_eq_false.1 hp.2 d hd
    simp only [beq_iff_eq] at this
    exact this (e.trans hb)
  ·exact h
theorem askU_ok {N D me p many f : Int} {S : List Nb} {n : Nb} {t : Tb} (h : t.Val N D) (hm : 0 ≤ many) (hp : 0 ≤ p ∧ p < N) (k : Nat) : AskOk N D many t.us t.gs (askU D me f S t.us t.gs n p many t.ks k) := by
 have hl := layB_iff.1 h.lay
 unfold askU
 refine foldl_inv (P := AskOk N D many t.us t.gs) (fun l c hc h => askS_ok ?_ h) ?_
 ·obtain ⟨i, _, rfl⟩ := List.mem_map.1 hc
  obtain ⟨⟨a, b⟩, c, d⟩ := triC_ok (D := D) (me := me) (f := f) (k := i) (by omega)
  exact plcB_iff.2 ⟨⟨a, b⟩, ⟨c, d⟩, hp⟩
 ·have hsub : ∀ d ∈ ask0 me S t.us t.gs n p many t.ks, d ∈ t.ks ∧ posB me S t.us t.gs n d.s d.o = true := fun d hd => by
   obtain ⟨h1, h2⟩ := List.mem_filter.1 (List.mem_of_mem_take hd)
   simp only [Bool.and_eq_true] at h2
   exact ⟨h1, h2.2⟩
  refine ⟨?_, fun d hd => h.oa d (hsub d hd).1, fun d hd => pos_bsy (hsub d hd).2, ?_⟩
  ·have : (ask0 me S t.us t.gs n p many t.ks).length ≤ many.toNat := List.length_take_le _ _
   omega
  ·have h1 : ((ask0 me S t.us t.gs n p many t.ks).map Ak.s).Sublist (t.ks.map Ak.s) := ((List.take_sublist _ _).trans (List.filter_sublist)).map _
   exact h1.nodup (srt_nodup h.sa)
theorem srtA_go {l : List Ak} : ∀ {acc : List Ak}, Srt Ak.s acc → (l.map Ak.s).Nodup → (∀ a ∈ acc, ∀ b ∈ l, a.s ≠ b.s) → Srt Ak.s (l.foldl (fun acc x => insL (fun d => decide (x.s < d.s)) x acc) acc) ∧ ∀ d, d ∈ l.foldl (fun acc x => insL (fun d => decide (x.s < d.s)) x acc) acc ↔ d ∈ acc ∨ d ∈ l := by
 induction l with
 | nil => intro acc h _ _; exact ⟨h, fun d => by simp⟩
 | cons x l ih =>
  intro acc h hn hd
  rw [List.map_cons, List.nodup_cons] at hn
  have h1 := srt_insL h (x := x) fun a ha => hd a ha x (by simp)
  obtain ⟨h2, h3⟩ := ih h1 hn.2 fun a ha b hb => by
   rcases mem_insL.1 ha with rfl | ha
   ·exact fun e => hn.1 (e ▸ List.mem_map_of_mem hb)
   ·exact hd a ha b (by simp [hb])
  refine ⟨h2, fun d => ?_⟩
  rw [List.foldl_cons, h3, mem_insL, List.mem_cons]
  constructor
  ·rintro ((h | h) | h) <;> simp [h]
  ·rintro (h | h | h) <;> simp [h]
theorem srtA_spec {l : List Ak} (h : (l.map Ak.s).Nodup) : Srt Ak.s (srtA l) ∧ ∀ d, d ∈ srtA l ↔ d ∈ l := by
 obtain ⟨h1, h2⟩ := srtA_go (l := l) (acc := []) List.Pairwise.nil h (by simp)
 exact ⟨h1, fun d => by rw [srtA, h2]; simp⟩
theorem srtA_len (l : List Ak) : (srtA l).length = l.length := by
 have : ∀ (l acc : List Ak), (l.foldl (fun acc x => insL (fun d => decide (x.s < d.s)) x acc) acc).length = acc.length + l.length := by
  intro l
  induction l with
  | nil => intro acc; simp
  | cons x l ih => intro acc; rw [List.foldl_cons, ih, length_insL, List.length_cons]; omega
 rw [srtA, this]; simp
theorem nbs_fm {N me f : Int} : ∀ {ns : List Nb} {last : Int}, nbsB N me f last ns = true → ∀ n ∈ ns, 0 ≤ n.fm ∧ n.fm < N
 | [], _, _, n, hn => by simp at hn
 | a :: l, last, h, n, hn => by
  simp only [nbsB, inB, Bool.and_eq_true, decide_eq_true_eq] at h
  rcases List.mem_cons.1 hn with rfl | hn
  ·omega
  ·exact nbs_fm h.2.2.2.2 n hn
theorem side_me {N D me f : Int} {t : Tb} {ns : List Nb} (h : sideB N D t me ns f = true) : (0 ≤ me ∧ me < N) ∧ ∀ n ∈ ns, 0 ≤ n.fm ∧ n.fm < N := by
 simp only [sideB, Bool.and_eq_true] at h
 have h1 := h.2.1
 simp only [inB, Bool.and_eq_true, decide_eq_true_eq] at h1
 exact ⟨by omega, nbs_fm h.2.2.2⟩
theorem ask_val {N D me p many f : Int} {t : Tb} {ns : List Nb} (h : t.Val N D) : (askF N D t me ns p many f).Val N D := by
 unfold askF
 split
 ·rename_i hs
  rw [Bool.and_eq_true] at hs
  obtain ⟨hs, hm⟩ := hs
  split
  ·exact val_ks h (by simp) List.Pairwise.nil (by simp) (by simp)
  ·rename_i n hn
   simp only [inB, Bool.and_eq_true, decide_eq_true_eq] at hm
   obtain ⟨h1, h2⟩ := fnd_mem hn
   have hp : 0 ≤ p ∧ p < N := by
    obtain ⟨m, hm', rfl⟩ := List.mem_map.1 h1
    have := (side_me hs).2 m hm'
    rw [← h2]; exact this
   have ho := askU_ok (me := me) (f := f) (S := sidL N D ns) (n := n) (many := many) h hm.1 hp (16 * D).toNat
   obtain ⟨s1, s2⟩ := srtA_spec ho.nd
   exact val_ks h (by rw [srtA_len]; have := ho.n; omega) s1 (fun d hd => ho.ok d ((s2 d).1 hd)) fun d hd => ho.by_ d ((s2 d).1 hd)
 ·exact h
theorem mem_notF {b x : Nb} : ∀ {l : List Nb} {done : Bool}, x ∈ notF b done l → x = b ∨ x ∈ l
 | [], done, h => by cases done <;> simp [notF] at h; exact Or.inl h
 | n :: l, done, h => by
  rw [notF, List.mem_append, List.mem_append] at h
  rcases h with (h | h) | h
  ·split at h
   ·exact Or.inl (by simpa using h)
   ·simp at h
  ·split at h
   ·simp at h
   ·exact Or.inr (by simp at h; simp [h])
  ·rcases mem_notF h with h | h
   ·exact Or.inl h
   ·exact Or.inr (by simp [h])
theorem notF_new {b : Nb} : ∀ {l : List Nb}, b ∈ notF b false l
 | [] => by simp [notF]
 | n :: l => by
  rw [notF, List.mem_append, List.mem_append]
  by_cases h : b.fm ≤ n.fm
  ·left; left; rw [if_pos (by simpa using h)]; simp
  ·right
   rw [show (false || decide (b.fm ≤ n.fm)) = false by simpa using h]
   exact notF_new
theorem notF_old {b x : Nb} (hx : x.fm ≠ b.fm) : ∀ {l : List Nb} {done : Bool}, x ∈ l → x ∈ notF b done l
 | n :: l, done, h => by
  rw [notF, List.mem_append, List.mem_append]
  rcases List.mem_cons.1 h with rfl | h
  ·left; right; rw [if_neg (by simpa using hx)]; simp
  ·right; exact notF_old hx h
theorem notF_len {b : Nb} : ∀ {l : List Nb} {done : Bool}, (notF b done l).length ≤ l.length + (!done).toNat
 | [], done => by cases done <;> simp [notF]
 | n :: l, done => by
  rw [notF, List.length_append, List.length_append]
  have ih := notF_len (b := b) (l := l) (done := done || decide (b.fm ≤ n.fm))
  have h2 : (if (n.fm == b.fm) = true then ([] : List Nb) else [n]).length ≤ 1 := by split <;> simp
  have h3 : (if (!done && decide (b.fm ≤ n.fm)) = true then [b] else ([] : List Nb)).length = (!done && decide (b.fm ≤ n.fm)).toNat := by
   cases (!done && decide (b.fm ≤ n.fm)) <;> rfl
  have h4 : (!done && decide (b.fm ≤ n.fm)).toNat + (!(done || decide (b.fm ≤ n.fm))).toNat = (!done).toNat := by
   cases done <;> cases decide (b.fm ≤ n.fm) <;> rfl
  rw [h3, List.length_cons]
  omega
def Nb.Few (b : Nb) : Prop := b.us.length ≤ 24 ∧ b.gs.length ≤ 24 ∧ b.ks.length ≤ 24
structure Inv (N D : Int) (n : Nat) (m : Nat) (T : Nat → Tb) (R : Nat → List Nb) : Prop where
 val : ∀ i, i < n → (T i).Val N D
 len : ∀ i, i < n → (R i).length ≤ m
 few : ∀ i, i < n → ∀ b ∈ R i, b.Few
theorem Tb.Val.few {N D : Int} {t : Tb} (h : t.Val N D) (f i : Int) : Nb.Few ⟨f, i, t.us, t.gs, t.ks⟩ := by
 have := h.n24; have := h.k24
 exact ⟨by dsimp only; omega, by dsimp only; omega, by dsimp only; omega⟩
theorem inv_not {N D : Int} {n m i : Nat} {H : Nat → Nat → Bool} {T : Nat → Tb} {R : Nat → List Nb} {b : Nb} (h : Inv N D n m T R) (hb : b.Few) : Inv N D n (m + 1) T (notA n H i b R) := by
 refine ⟨h.val, fun k hk => ?_, fun k hk x hx => ?_⟩
 ·unfold notA
  split
  ·have := notF_len (b := b) (l := R k) (done := false); have := h.len k hk; simp at *; omega
  ·have := h.len k hk; omega
 ·unfold notA at hx
  split at hx
  ·rcases mem_notF hx with rfl | hx
   ·exact hb
   ·exact h.few k hk x hx
  ·exact h.few k hk x hx
theorem inv_upd {N D : Int} {n m i : Nat} {T : Nat → Tb} {R : Nat → List Nb} {t : Tb} (h : Inv N D n m T R) (ht : t.Val N D) : Inv N D n m (updF T i t) R :=
 ⟨fun k hk => by unfold updF; split; exact ht; exact h.val k hk, h.len, h.few⟩
def Told (n : Nat) (H : Nat → Nat → Bool) (f : Int) (T : Nat → Tb) (R : Nat → List Nb) (j : Nat) : Prop :=
 ∀ k i, k < n → i < j → k ≠ i → H k i = true → (⟨f, i, (T i).us, (T i).gs, (T i).ks⟩ : Nb) ∈ R k
theorem ph1_inv {N D : Int} {n m : Nat} {H : Nat → Nat → Bool} {f : Int} {T : Nat → Tb} {R : Nat → List Nb} (h : Inv N D n m T R) : ∀ j, j ≤ n → Inv N D n (m + j) (ph1 N D n H f T R j).1 (ph1 N D n H f T R j).2 ∧ Told n H f (ph1 N D n H f T R j).1 (ph1 N D n H f T R j).2 j
 | 0, _ => ⟨h, fun k i _ hi => by omega⟩
 | j + 1, hj => by
  obtain ⟨h1, h2⟩ := ph1_inv (H := H) (f := f) h j (by omega)
  have hv := tak_val (me := j) (f := f) (ns := (ph1 N D n H f T R j).2 j) (h1.val j (by omega))
  refine ⟨inv_not (inv_upd h1 hv) (hv.few _ _), fun k i hk hi hne hH => ?_⟩
  show _ ∈ notA n H j _ _ k
  unfold notA
  by_cases e : i = j
  ·subst e
   rw [if_pos ⟨hk, hne, hH⟩]
   simp only [ph1, updF, if_pos]
   exact notF_new
  ·have hm := h2 k i hk (by omega) hne hH
   simp only [ph1, updF, if_neg e]
   split
   ·exact notF_old (by simp; omega) hm
   ·exact hm
theorem ph2_val {N D f : Int} {par many : Nat → Int} {T : Nat → Tb} {R : Nat → List Nb} {i : Nat} (h : (T i).Val N D) : (ph2 N D f par many T R i).Val N D := ask_val (grt_val (yld_val h))
theorem frm_inv {N D : Int} {n m : Nat} {H : Nat → Nat → Bool} {f : Int} {par many : Nat → Int} {T : Nat → Tb} {R : Nat → List Nb} (h : Inv N D n m T R) : Inv N D n (m + n) (frmT N D n H f par many T R) (frmR N D n H f T R) := by
 obtain ⟨h1, _⟩ := ph1_inv (H := H) (f := f) h n (Nat.le_refl _)
 refine ⟨fun i hi => ?_, h1.len, h1.few⟩
 unfold frmT
 rw [if_pos hi]
 exact ph2_val (h1.val i hi)
def Quiet (n : Nat) (H : Nat → Nat → Bool) (T : Nat → Tb) (f : Int) : Prop :=
 ∀ l, l < n → ∀ g ∈ (T l).gs, f ≤ g.u → ∀ c, c < n → H l c = true → c ≠ l → (c : Int) ≠ g.p → ∀ u ∈ (T c).us, ¬ (u.s = g.s ∧ u.o = g.o)
theorem bet_total {s p s2 p2 : Int} (h1 : betB s p s2 p2 = false) (h2 : betB s2 p2 s p = false) : p = p2 := by
 simp only [betB, Bool.or_eq_false_iff, Bool.and_eq_false_iff, decide_eq_false_iff_not, beq_eq_false_iff_ne] at h1 h2
 omega
theorem settled {N D : Int} {n m : Nat} {H : Nat → Nat → Bool} {f : Int} {par many : Nat → Int} {T : Nat → Tb} {R : Nat → List Nb} (hs : ∀ i k, i < n → k < n → H i k = H k i) (h : Inv N D n m T R) : Quiet n H (frmT N D n H f par many T R) f := by
 obtain ⟨h1, h2⟩ := ph1_inv (H := H) (f := f) h n (Nat.le_refl _)
 intro l hl g hg hgu c hc hH hcl hcp u hu ⟨es, eo⟩
 unfold frmT at hg hu
 rw [if_pos hl] at hg
 rw [if_pos hc] at hu
 generalize (ph1 N D n H f T R n).1 = T1 at *
 generalize (ph1 N D n H f T R n).2 = R1 at *
 unfold ph2 at hg hu
 rw [(ask_ug).2] at hg
 rw [(ask_ug).1, grt_us] at hu
 have huy := List.mem_filter.1 hu
 have hlc := h2 l c hl hc (fun e => hcl e.symm) hH
 have hcl2 := h2 c l hc hl hcl (by rw [hs c l hc hl]; exact hH)
 rcases grt_from g hg hgu with ⟨g0, hg0, e1, e2, e3, e4, e5⟩ | hn
 ·have hgy := List.mem_filter.1 hg0
  have a1 := huy.2
  have a2 := hgy.2
  simp only [Bool.not_eq_true', List.any_eq_false] at a1 a2
  have b1 := a1 _ hcl2
  have b2 := a2 _ hlc
  simp only [bgB, buB, latB, beq_self_eq_true, Bool.true_or, Bool.true_and, Bool.not_eq_true, List.any_eq_false] at b1 b2
  have c1 := b1 g0 hgy.1
  have c2 := b2 u huy.1
  have n1 : (g0.p == (c : Int)) = false := by simp; omega
  have n2 : ((c : Int) == g0.p) = false := by simp; omega
  rw [show (g0.s == u.s) = true by simp; omega, show (g0.o == u.o) = true by simp; omega, decide_eq_true e5, n1] at c1
  rw [show (u.s == g0.s) = true by simp; omega, show (u.o == g0.o) = true by simp; omega, n2] at c2
  simp only [Bool.and_self, Bool.true_and, Bool.not_false] at c1 c2
  have := bet_total c1 c2
  omega
 ·simp only [usdB, List.any_eq_false] at hn
  have hv := (h1.val c hc).ou u huy.1
  have := hn (sid1 N D ⟨f, c, (T1 c).us, (T1 c).gs, (T1 c).ks⟩) (List.mem_map_of_mem hlc)
  simp only [sid1, Bool.and_eq_true, Bool.not_eq_true', List.any_eq_true, not_and, not_exists] at this
  exact this (by simp; omega) u (List.mem_filter.2 ⟨huy.1, hv⟩) (by simp; omega) (by simp; omega)
end Go.Proofs.YtmopiifamopidaaGreat
end
section
namespace Go.Proofs.YtmopiifamopidaaGreat
open Go.RowKit
theorem ownsRow_setCells {base : Nat} {t : TypeId} {k n cap g : Nat} : ∀ (vs : List Value) (o : Nat) (w : World) (xs : List Value), w.ownsRow base t k (.slice (some ⟨g, 0, none⟩) n cap) n xs →
  ∃ ys, (w.setCells g o vs).ownsRow base t k (.slice (some ⟨g, 0, none⟩) n cap) n ys ∧ ys.length = xs.length ∧ (∀ j, ys[j]? = if o ≤ j ∧ j < o + vs.length ∧ j < xs.length then vs[j - o]? else xs[j]?) := by
 intro vs
 induction vs with
 | nil => exact fun o w xs h => ⟨xs, h, rfl, fun j => by rw [if_neg (by simp; omega)]⟩
 | cons v vs ih =>
  intro o w xs h
  obtain ⟨ys, h0, h1, h2⟩ := ih (o + 1) _ _ (h.stored o v).1
  refine ⟨ys, h0, by rw [h1, List.length_set], fun j => ?_⟩
  rw [h2 j, List.length_set]
  by_cases e : o = j
  ·subst e
   rw [if_neg (by omega)]
   by_cases hj : o < xs.length
   ·rw [if_pos (by simp; omega), List.getElem?_set_self hj]; simp
   ·rw [if_neg (by omega), List.getElem?_eq_none (by rw [List.length_set]; omega), List.getElem?_eq_none (by omega)]
  ·by_cases c : o + 1 ≤ j ∧ j < o + 1 + vs.length ∧ j < xs.length
   ·rw [if_pos c, if_pos (by simp; omega), show j - o = (j - (o + 1)) + 1 by omega, List.getElem?_cons_succ]
   ·rw [if_neg c, if_neg (by simp; omega), List.getElem?_set_ne e]
theorem flatT_set {α : Type} {L : Lay α} : ∀ (ls : List α) (i : Nat) (a : α), i < ls.length → ∀ j, (flatT L (ls.set i a))[j]? = if i * L.k ≤ j ∧ j < i * L.k + (L.f a).length ∧ j < (flatT L ls).length then (L.f a)[j - i * L.k]? else (flatT L ls)[j]?
 | [], i, a, h, j => by simp at h
 | s :: ls, 0, a, h, j => by
  rw [List.set_cons_zero, flatT, flatT, List.flatMap_cons, List.flatMap_cons]
  simp only [Nat.zero_mul, Nat.zero_le, true_and, Nat.zero_add, Nat.sub_zero, List.length_append, L.len]
  by_cases c : j < L.k
  ·rw [if_pos ⟨c, by omega⟩, List.getElem?_append_left (by rw [L.len]; exact c)]
  ·rw [if_neg (by omega), List.getElem?_append_right (by rw [L.len]; omega), List.getElem?_append_right (by rw [L.len]; omega), L.len, L.len]
 | s :: ls, i + 1, a, h, j => by
  have ih := flatT_set (L := L) ls i a (by simpa using h) (j - L.k)
  rw [List.set_cons_succ, flatT, flatT, List.flatMap_cons, List.flatMap_cons]
  rw [flatT, flatT] at ih
  have hk : (i + 1) * L.k = i * L.k + L.k := Nat.succ_mul i L.k
  by_cases c : j < L.k
  ·rw [if_neg (by omega), List.getElem?_append_left (by rw [L.len]; exact c), List.getElem?_append_left (by rw [L.len]; exact c)]
  ·rw [List.getElem?_append_right (by rw [L.len]; omega), List.getElem?_append_right (by rw [L.len]; omega), L.len, ih, L.len, List.length_append, L.len]
   by_cases d : i * L.k ≤ j - L.k ∧ j - L.k < i * L.k + L.k ∧ j - L.k < (List.flatMap L.f ls).length
   ·rw [if_pos d, if_pos (by omega), show j - L.k - i * L.k = j - (i + 1) * L.k by omega]
   ·rw [if_neg d, if_neg (by omega)]
theorem ownT_set {α : Type} {L : Lay α} {w : World} {base : Nat} {t : TypeId} {g cap n : Nat} {ls : List α} {i : Nat} (a : α) (h : w.ownsRow base t L.k (.slice (some ⟨g, 0, none⟩) n cap) n (flatT L ls)) (hi : i < ls.length) :
  (w.setCells g (0 + i * L.k) (L.f a)).ownsRow base t L.k (.slice (some ⟨g, 0, none⟩) n cap) n (flatT L (ls.set i a)) := by
 rw [Nat.zero_add]
 obtain ⟨ys, h0, h1, h2⟩ := ownsRow_setCells (L.f a) (i * L.k) w _ h
 have : ys = flatT L (ls.set i a) := List.ext_getElem? fun j => by rw [h2 j, flatT_set ls i a hi j]
 rw [← this]; exact h0
theorem ownT_there {α : Type} {L : Lay α} {w : World} {base : Nat} {t : TypeId} {g cap n : Nat} {ls : List α} {i : Nat} (h : w.ownsRow base t L.k (.slice (some ⟨g, 0, none⟩) n cap) n (flatT L ls)) (hi : i < ls.length) : w.there g (0 + i * L.k) L.k := fun j hj => by
 have h0 := h.1
 rw [flatT_len] at h0
 have h1 : (i + 1) * L.k ≤ ls.length * L.k := Nat.mul_le_mul_right _ hi
 rw [Nat.succ_mul] at h1
 refine ⟨?_, h.frozenAt _⟩
 rw [h.cellAt _ (by omega), List.getElem?_eq_getElem (by rw [flatT_len]; omega)]
 rfl
theorem below_setCells {B : Nat} {a : World} (b : Nat) (hb : B ≤ b) : ∀ (vs : List Value) (o : Nat) (w : World), Below B a w → Below B a (w.setCells b o vs)
 | [], _, _, h => h
 | _ :: vs, o, _, h => below_setCells b hb vs (o + 1) _ (belowSet' h _ _ _ hb)
theorem ownsRow_front {w : World} {B k n m cap g : Nat} {t : TypeId} {xs : List Value} (h : w.ownsRow B t k (.slice (some ⟨g, 0, none⟩) n cap) n xs) (hm : m ≤ n) : w.ownsRow B t k (.slice (some ⟨g, 0, none⟩) m cap) m (xs.take (m * k)) := by
 obtain ⟨hl, h⟩ := h
 have hmk : m * k ≤ n * k := Nat.mul_le_mul_right _ hm
 rcases h with ⟨h, _⟩ | ⟨g', cap', cur, hv, hbg, hg, h1, h2, h3, h4⟩
 ·cases h
 ·injection hv with e1 e2 e3
  injection e1 with e1
  injection e1 with e1 _ _
  subst e1 e3
  exact ⟨by rw [List.length_take]; omega, .inr ⟨g, cap, cur, rfl, hbg, hg, by omega, h2, h3, by rw [← h4, List.take_take, Nat.min_eq_left hmk]⟩⟩
theorem ownsRow_belowD {w w' : World} {B k n : Nat} {t : TypeId} {v : Value} {xs : List Value} (h : w.ownsRow B t k v n xs) (hb : Below w.heap.size w w') : w'.ownsRow B t k v n xs := by
 obtain ⟨hl, h⟩ := h
 refine ⟨hl, ?_⟩
 rcases h with h | ⟨g, cap, cur, hv, hbg, hg, h1, h2, h3, h4⟩
 ·exact .inl h
 ·exact .inr ⟨g, cap, cur, hv, hbg, by rw [hb.block g (Array.getElem?_eq_some_iff.1 hg).1]; exact hg, h1, h2, h3, h4⟩
theorem newsTn {α : Type} {L : Lay α} {w : World} {n : Nat} (hn : n = w.heap.size) (a : α) (t : TypeId) : ∀ j u, (L.f a)[j]? = some u → (w.alloc (.cells (L.f a).toArray t)).cell? ((⟨n, 0, none⟩ : Addr).add j) = some u := fun j u h => by
 subst hn; exact newsT (L := L) w a t j u h
theorem info_u : (Tryz.prog.info? 50).map (fun i => (i.zero, i.size, i.bytes)) = some (some (.agg #[.int .i64 0, .int .i64 0, .int .i64 0, .int .i64 0]), 4, 32) := by kernel_rfl
theorem info_uP : (Tryz.prog.info? 128).map (fun i => (i.zero, i.size, i.bytes)) = some (some (.agg #[.int .i64 0, .int .i64 0, .int .i64 0, .int .i64 0]), 4, 32) := by kernel_rfl
def OwnU (w : World) (l : List Us) (e : Ending) (w' : World) : Prop := ∃ v', e = .returned v' ∧ w'.ownsRow w.heap.size 50 4 v' l.length (flatT usL l) ∧ Below w.heap.size w w'
def RetU (w : World) (l : List Us) (e : Ending) (w' : World) : Prop := ∃ v', e = .returned v' ∧ SlU w' v' l ∧ Below w.heap.size w w'
theorem OwnU.ret {w w' : World} {l : List Us} {e : Ending} (h : OwnU w l e w') : RetU w l e w' := by
 obtain ⟨v', e, o, b⟩ := h
 exact ⟨v', e, slt_of_own (L := usL) o, b⟩
theorem info_g : (Tryz.prog.info? 52).map (fun i => (i.zero, i.size, i.bytes)) = some (some (.agg #[.int .i64 0, .int .i64 0, .int .i64 0, .int .i64 0, .int .i64 0]), 5, 40) := by kernel_rfl
theorem info_gP : (Tryz.prog.info? 138).map (fun i => (i.zero, i.size, i.bytes)) = some (some (.agg #[.int .i64 0, .int .i64 0, .int .i64 0, .int .i64 0, .int .i64 0]), 5, 40) := by kernel_rfl
theorem info_gS : (Tryz.prog.info? 52).map (·.size) = some 5 := by kernel_rfl
theorem storeG {ops : Array Oper} {rest : List Oper} {op : Oper} {a : Act} {w : World} {Q : Exit → Act → World → Prop} (z : Gr) (b o : Nat) (hgd : op.guard = none)
  (hs : ∃ x y : Operand, op.op = .store 52 x y ∧ a.eval x = .pointer (some ⟨b, o, none⟩) ∧ a.eval y = .agg #[.int .i64 z.s, .int .i64 z.o, .int .i64 z.p, .int .i64 z.m, .int .i64 z.u]) (ht : w.there b o 5)
  (h : wpList Tryz.prog ops Q rest (a.put op.dst undef) (w.setCells b o (grL.f z))) : wpList Tryz.prog ops Q (op :: rest) a w := by
 obtain ⟨x, y, ho, hx, hy⟩ := hs
 exact wpList_store_mid hgd 52 x y ho b o #[.int .i64 z.s, .int .i64 z.o, .int .i64 z.p, .int .i64 z.m, .int .i64 z.u] hx hy ht info_gS (by simp [Value.oneCell']) h
def OwnG (w : World) (l : List Gr) (e : Ending) (w' : World) : Prop := ∃ v', e = .returned v' ∧ w'.ownsRow w.heap.size 52 5 v' l.length (flatT grL l) ∧ Below w.heap.size w w'
def RetG (w : World) (l : List Gr) (e : Ending) (w' : World) : Prop := ∃ v', e = .returned v' ∧ SlG w' v' l ∧ Below w.heap.size w w'
theorem OwnG.ret {w w' : World} {l : List Gr} {e : Ending} (h : OwnG w l e w') : RetG w l e w' := by
 obtain ⟨v', e, o, b⟩ := h
 exact ⟨v', e, slt_of_own (L := grL) o, b⟩
theorem info_a : (Tryz.prog.info? 81).map (fun i => (i.zero, i.size, i.bytes)) = some (some (.agg #[.int .i64 0, .int .i64 0, .int .i64 0]), 3, 24) := by kernel_rfl
theorem info_aP : (Tryz.prog.info? 160).map (fun i => (i.zero, i.size, i.bytes)) = some (some (.agg #[.int .i64 0, .int .i64 0, .int .i64 0]), 3, 24) := by kernel_rfl
theorem info_aS : (Tryz.prog.info? 81).map (·.size) = some 3 := by kernel_rfl
theorem storeA {ops : Array Oper} {rest : List Oper} {op : Oper} {a : Act} {w : World} {Q : Exit → Act → World → Prop} (z : Ak) (b o : Nat) (hgd : op.guard = none)
  (hs : ∃ x y : Operand, op.op = .store 81 x y ∧ a.eval x = .pointer (some ⟨b, o, none⟩) ∧ a.eval y = .agg #[.int .i64 z.s, .int .i64 z.o, .int .i64 z.p]) (ht : w.there b o 3)
  (h : wpList Tryz.prog ops Q rest (a.put op.dst undef) (w.setCells b o (akL.f z))) : wpList Tryz.prog ops Q (op :: rest) a w := by
 obtain ⟨x, y, ho, hx, hy⟩ := hs
 exact wpList_store_mid hgd 81 x y ho b o #[.int .i64 z.s, .int .i64 z.o, .int .i64 z.p] hx hy ht info_aS (by simp [Value.oneCell']) h
def OwnA (w : World) (l : List Ak) (e : Ending) (w' : World) : Prop := ∃ v', e = .returned v' ∧ w'.ownsRow w.heap.size 81 3 v' l.length (flatT akL l) ∧ Below w.heap.size w w'
def RetA (w : World) (l : List Ak) (e : Ending) (w' : World) : Prop := ∃ v', e = .returned v' ∧ SlA w' v' l ∧ Below w.heap.size w w'
theorem OwnA.ret {w w' : World} {l : List Ak} {e : Ending} (h : OwnA w l e w') : RetA w l e w' := by
 obtain ⟨v', e, o, b⟩ := h
 exact ⟨v', e, slt_of_own (L := akL) o, b⟩
theorem field_cell (a b : Int) (w : World) : (Instr.field 48 (.agg #[.int .i64 a, .int .i64 b]) 0).run Tryz.prog w = .ok (.int .i64 a) w := by kernel_rfl
open Go.Maps in
theorem lawK : Keyed Tryz.prog 3 := int_keyed Tryz.underlying3
theorem zeroK (w : World) : (zeroValue 3).run Tryz.prog w = .ok (.int .i64 0) w := by kernel_rfl
def CntM (w : World) (b n : Nat) (ks : List Int) : Prop := ∃ D, w.ownsMap Tryz.prog 3 (plainElem (H := Unit) Tryz.prog 3) b n D ∧ Maps.IsMap D ∧ ∀ k : Int, D.atKey (.int .i64 k) (.lit (.int .i64 0)) = .lit (.int .i64 (ks.count k)) ∧ (Maps.has D (.int .i64 k) = true ↔ k ∈ ks)
theorem CntM.below {w w' : World} {b n : Nat} {ks : List Int} (h : CntM w b n ks) (hb : Below w.heap.size w w') : CntM w' b n ks := by
 obtain ⟨D, ho, h⟩ := h
 have hlt := ho.lt
 obtain ⟨es, clock, h1, F, hs, hD⟩ := ho
 exact ⟨D, ⟨es, clock, (hb.block b hlt).trans h1, F, hs, hD⟩, h⟩
theorem CntM.lt {w : World} {b n : Nat} {ks : List Int} (h : CntM w b n ks) : b < w.heap.size := by
 obtain ⟨D, ho, _⟩ := h; exact ho.lt
theorem grown_of_below {w w' : World} {row : Option Nat} (h : Below w.heap.size w w') : w.grownBy w' row := ⟨h.os, h.tape, h.output, h.size, fun i hi _ => h.block i hi⟩
theorem CntM.not {w : World} {b n : Nat} {ks : List Int} (h : CntM w b n ks) (o : Nat) : w.cell? ⟨b, o, none⟩ = none := by
 obtain ⟨D, ⟨es, clock, h1, _⟩, _⟩ := h
 simp [World.cell?, h1]
theorem SlT.grown {α : Type} {L : Lay α} {w w' : World} {v : Value} {l : List α} {B n : Nat} {ks : List Int} (h : SlT L w v l) (hm : CntM w B n ks) (hg : w.grownBy w' (some B)) : SlT L w' v l := by
 obtain ⟨p, cap, h1, h2, h3, h4, h5⟩ := h
 refine ⟨p, cap, h1, h2, h3, h4, fun i cs hi => ?_⟩
 obtain ⟨b, off, e, hlt, hc⟩ := h5 i cs hi
 refine ⟨b, off, e, Nat.lt_of_lt_of_le hlt hg.size, fun j x hx => ?_⟩
 have h0 := hc j x hx
 have hne : some b ≠ some B := fun e => by
  injection e with e
  subst e
  rw [hm.not] at h0
  cases h0
 rw [← h0]
 exact World.cell?_of_block (a := ⟨b, _, none⟩) (hg.block b hlt hne)
theorem Own.grown {w w' : World} {b B n : Nat} {cs : List Value} {t : TypeId} {ks : List Int} (h : Own w b cs t) (hm : CntM w B n ks) (hg : w.grownBy w' (some B)) : Own w' b cs t := by
 have hne : some b ≠ some B := fun e => by
  injection e with e
  subst e
  obtain ⟨D, ⟨es, clock, h1, _⟩, _⟩ := hm
  have h' : w.heap[b]? = some (.cells cs.toArray t (0, 0)) := h
  rw [h1] at h'
  cases h'
 exact (hg.block b h.lt hne).trans h
theorem cnt_made (w : World) : CntM (w.alloc (.map #[] 0)) w.heap.size 0 [] :=
 ⟨.map [], World.ownsMap_made _ _ _ _, Maps.isMap_empty, fun k => ⟨by simp [DataW.atKey], by simp [Maps.has]⟩⟩
end Go.Proofs.YtmopiifamopidaaGreat
end
section
namespace Go.Proofs.YtmopiifamopidaaGreat
open Go.RowKit
theorem calls_bool {P : Program} {f : FuncId} {args : Array Value} {w : World} {b x : Bool} (h : Calls P f args w fun e w' => e = .returned (.bool b) ∧ Below w.heap.size w w') (e : b = x) : Calls P f args w fun e w' => e = .returned (.bool x) ∧ Below w.heap.size w w' := by
 subst e; exact h
set_option maxRecDepth 100000 in
set_option maxHeartbeats 400000 in
theorem eq_cell (a b c d : Int) (w : World) : (binOp .eql 48 (.agg #[.int .i64 a, .int .i64 b]) (.agg #[.int .i64 c, .int .i64 d])).run Tryz.prog w = .ok (.bool (a == c && b == d)) w := by
 go_simp
 by_cases h0 : a = c
 ·by_cases h1 : b = d <;> simp [h0, h1]
 ·simp [h0]
set_option maxRecDepth 100000 in
set_option maxHeartbeats 2000000 in
theorem bz1_any (bn : Nat) (zs : Int) (d : Us) (w : World) (hb : bn < w.heap.size) (c0 : w.cell? ⟨bn, 0, none⟩ = some (.int .i64 zs)) : Calls Tryz.prog 100 #[.agg #[.int .i64 d.s, .int .i64 d.o, .int .i64 d.p, .int .i64 d.m], .pointer (some ⟨bn, 0, none⟩)] w fun e w' => e = .returned (.bool (d.s == zs)) ∧ Below w.heap.size w w' := by
 go_enter Tryz.func100, Tryz.ntmps100
 go_wp2
 all_goals (go_ret; exact ⟨rfl, belowNew w _⟩)
set_option maxRecDepth 100000 in
set_option maxHeartbeats 2000000 in
theorem bz2_any (bn : Nat) (zs : Int) (d : Gr) (w : World) (hb : bn < w.heap.size) (c0 : w.cell? ⟨bn, 0, none⟩ = some (.int .i64 zs)) : Calls Tryz.prog 101 #[.agg #[.int .i64 d.s, .int .i64 d.o, .int .i64 d.p, .int .i64 d.m, .int .i64 d.u], .pointer (some ⟨bn, 0, none⟩)] w fun e w' => e = .returned (.bool (d.s == zs)) ∧ Below w.heap.size w w' := by
 go_enter Tryz.func101, Tryz.ntmps101
 go_wp2
 all_goals (go_ret; exact ⟨rfl, belowNew w _⟩)
set_option maxRecDepth 100000 in
set_option maxHeartbeats 2000000 in
theorem exg_any (bn : Nat) (zs : Int) (d : Gr) (w : World) (hb : bn < w.heap.size) (c0 : w.cell? ⟨bn, 0, none⟩ = some (.int .i64 zs)) : Calls Tryz.prog 65 #[.agg #[.int .i64 d.s, .int .i64 d.o, .int .i64 d.p, .int .i64 d.m, .int .i64 d.u], .pointer (some ⟨bn, 0, none⟩)] w fun e w' => e = .returned (.bool (decide (d.u < zs))) ∧ Below w.heap.size w w' := by
 go_enter Tryz.func65, Tryz.ntmps65
 go_wp2
 all_goals (go_ret; exact ⟨rfl, belowNew w _⟩)
set_option maxRecDepth 100000 in
set_option maxHeartbeats 2000000 in
theorem una_any (bn : Nat) (zs : Int) (d : Ak) (w : World) (hb : bn < w.heap.size) (c0 : w.cell? ⟨bn, 0, none⟩ = some (.int .i64 zs)) : Calls Tryz.prog 93 #[.agg #[.int .i64 d.s, .int .i64 d.o, .int .i64 d.p], .pointer (some ⟨bn, 0, none⟩)] w fun e w' => e = .returned (.bool (d.s == zs)) ∧ Below w.heap.size w w' := by
 go_enter Tryz.func93, Tryz.ntmps93
 go_wp2
 all_goals (go_ret; exact ⟨rfl, belowNew w _⟩)
set_option maxRecDepth 100000 in
set_option maxHeartbeats 2000000 in
theorem insu_any (ba bx : Nat) (z d : Us) (w : World) (ha : ba < w.heap.size) (hx : bx < w.heap.size) (ca : w.cell? ⟨ba, 0, none⟩ = some (.func (.func 57) #[] #[])) (z0 : w.cell? ⟨bx, 0, none⟩ = some (.int .i64 z.s)) (z1 : w.cell? ⟨bx, 1, none⟩ = some (.int .i64 z.o)) (z2 : w.cell? ⟨bx, 2, none⟩ = some (.int .i64 z.p)) (z3 : w.cell? ⟨bx, 3, none⟩ = some (.int .i64 z.m)) : Calls Tryz.prog 90 #[.agg #[.int .i64 d.s, .int .i64 d.o, .int .i64 d.p, .int .i64 d.m], .pointer (some ⟨ba, 0, none⟩), .pointer (some ⟨bx, 0, none⟩)] w fun e w' => e = .returned (.bool (decide (z.s < d.s))) ∧ Below w.heap.size w w' := by
 have hfc := field_cell
 go_enter Tryz.func90, Tryz.ntmps90
 go_wp2_with fail
 have OX := Lib.hid (own_at (w := w) [.int .i64 d.s, .int .i64 d.o, .int .i64 d.p, .int .i64 d.m] 50 rfl).drew
 have BX := Lib.hid (belowNew w (.cells [.int .i64 d.s, .int .i64 d.o, .int .i64 d.p, .int .i64 d.m].toArray 50)).drew
 have za := Nat.lt_of_lt_of_le ha (belowNew w (.cells [.int .i64 d.s, .int .i64 d.o, .int .i64 d.p, .int .i64 d.m].toArray 50)).size
 have zx := Nat.lt_of_lt_of_le hx (belowNew w (.cells [.int .i64 d.s, .int .i64 d.o, .int .i64 d.p, .int .i64 d.m].toArray 50)).size
 have a0 := (BX.out.cell (p := ⟨ba, 0, none⟩) ha).trans ca
 have y0 := (BX.out.cell (p := ⟨bx, 0, none⟩) hx).trans z0
 have y1 := (BX.out.cell (p := ⟨bx, 1, none⟩) hx).trans z1
 have y2 := (BX.out.cell (p := ⟨bx, 2, none⟩) hx).trans z2
 have y3 := (BX.out.cell (p := ⟨bx, 3, none⟩) hx).trans z3
 obtain ⟨x0, x1, x2, x3, _, _⟩ := own4 OX.out
 have A0 := Lib.hid ca
 have Z0 := Lib.hid z0
 have Z1 := Lib.hid z1
 have Z2 := Lib.hid z2
 have Z3 := Lib.hid z3
 clear ca z0 z1 z2 z3
 refine region_H 14 #[false, false, false, false, false, false, false, false, false, false, false, false, false, false] (by kernel_rfl) (by kernel_rfl) (fun w' => w'.cell? ⟨ba, 0, none⟩ = some (.func (.func 57) #[] #[]) ∧ w'.cell? ⟨bx, 0, none⟩ = some (.int .i64 z.s) ∧ w'.cell? ⟨bx, 1, none⟩ = some (.int .i64 z.o) ∧ w'.cell? ⟨bx, 2, none⟩ = some (.int .i64 z.p) ∧ w'.cell? ⟨bx, 3, none⟩ = some (.int .i64 z.m) ∧ w'.cell? ⟨w.heap.size, 0, none⟩ = some (.int .i64 d.s) ∧ w'.cell? ⟨w.heap.size, 1, none⟩ = some (.int .i64 d.o) ∧ w'.cell? ⟨w.heap.size, 2, none⟩ = some (.int .i64 d.p) ∧ w'.cell? ⟨w.heap.size, 3, none⟩ = some (.int .i64 d.m)) (by kernel_rfl) ?x1s (fun hHeld => ?x1r)
 case x1s => exact ⟨a0, y0, y1, y2, y3, x0, x1, x2, x3⟩
 refine tH 0 5 ?_
 refine tH 1 6 ?_
 refine tH 6 11 ?_
 refine tH 7 12 ?_
 refine wpH_one (i := 2) (by kernel_rfl) rfl (fun K hK => ?_)
 rw [if_pos (by rfl)]
 go_simp
 refine (uto_any d.s d.o d.p d.m _).mono ?_
 rintro e w1 ⟨rfl, hb⟩
 have BX1 := Lib.hid (belowTo BX.out hb (by have := BX.out.size; exact this))
 have OX1 := Lib.hid (OX.out.below hb)
 have a1 := (BX1.out.cell (p := ⟨ba, 0, none⟩) ha).trans A0.out
 have y10 := (BX1.out.cell (p := ⟨bx, 0, none⟩) hx).trans Z0.out
 have y11 := (BX1.out.cell (p := ⟨bx, 1, none⟩) hx).trans Z1.out
 have y12 := (BX1.out.cell (p := ⟨bx, 2, none⟩) hx).trans Z2.out
 have y13 := (BX1.out.cell (p := ⟨bx, 3, none⟩) hx).trans Z3.out
 obtain ⟨x10, x11, x12, x13, _, _⟩ := own4 OX1.out
 clear hb
 refine hK.out _ _ (⟨a1, y10, y11, y12, y13, x10, x11, x12, x13⟩) ?_
 clear hK K hHeld
 intro hHeld
 try simp only [Act.put, List.setIfInBounds_toArray, List.set_cons_zero, List.set_cons_succ]
 refine tH 3 8 ?_
 refine wpH_one (i := 4) (by kernel_rfl) rfl (fun K hK => ?_)
 rw [if_pos (by rfl)]
 go_simp
 refine (ucell_any d.s d.o d.p d.m _).mono ?_
 rintro e w2 ⟨rfl, hb⟩
 have BX2 := Lib.hid (belowTo BX1.out hb (by have := BX1.out.size; exact this))
 have OX2 := Lib.hid (OX1.out.below hb)
 have a2 := (BX2.out.cell (p := ⟨ba, 0, none⟩) ha).trans A0.out
 have y20 := (BX2.out.cell (p := ⟨bx, 0, none⟩) hx).trans Z0.out
 have y21 := (BX2.out.cell (p := ⟨bx, 1, none⟩) hx).trans Z1.out
 have y22 := (BX2.out.cell (p := ⟨bx, 2, none⟩) hx).trans Z2.out
 have y23 := (BX2.out.cell (p := ⟨bx, 3, none⟩) hx).trans Z3.out
 obtain ⟨x20, x21, x22, x23, _, _⟩ := own4 OX2.out
 clear hb
 refine hK.out _ _ (⟨a2, y20, y21, y22, y23, x20, x21, x22, x23⟩) ?_
 clear hK K hHeld
 intro hHeld
 try simp only [Act.put, List.setIfInBounds_toArray, List.set_cons_zero, List.set_cons_succ]
 refine tH 5 10 ?_
 refine wpH_one (i := 8) (by kernel_rfl) rfl (fun K hK => ?_)
 rw [if_pos (by rfl)]
 go_simp
 refine (uto_any z.s z.o z.p z.m _).mono ?_
 rintro e w3 ⟨rfl, hb⟩
 have BX3 := Lib.hid (belowTo BX2.out hb (by have := BX2.out.size; exact this))
 have OX3 := Lib.hid (OX2.out.below hb)
 have a3 := (BX3.out.cell (p := ⟨ba, 0, none⟩) ha).trans A0.out
 have y30 := (BX3.out.cell (p := ⟨bx, 0, none⟩) hx).trans Z0.out
 have y31 := (BX3.out.cell (p := ⟨bx, 1, none⟩) hx).trans Z1.out
 have y32 := (BX3.out.cell (p := ⟨bx, 2, none⟩) hx).trans Z2.out
 have y33 := (BX3.out.cell (p := ⟨bx, 3, none⟩) hx).trans Z3.out
 obtain ⟨x30, x31, x32, x33, _, _⟩ := own4 OX3.out
 clear hb
 refine hK.out _ _ (⟨a3, y30, y31, y32, y33, x30, x31, x32, x33⟩) ?_
 clear hK K hHeld
 intro hHeld
 try simp only [Act.put, List.setIfInBounds_toArray, List.set_cons_zero, List.set_cons_succ]
 refine tH 9 14 ?_
 refine wpH_one (i := 10) (by kernel_rfl) rfl (fun K hK => ?_)
 rw [if_pos (by rfl)]
 go_simp
 refine (ucell_any z.s z.o z.p z.m _).mono ?_
 rintro e w4 ⟨rfl, hb⟩
 have BX4 := Lib.hid (belowTo BX3.out hb (by have := BX3.out.size; exact this))
 have OX4 := Lib.hid (OX3.out.below hb)
 have a4 := (BX4.out.cell (p := ⟨ba, 0, none⟩) ha).trans A0.out
 have y40 := (BX4.out.cell (p := ⟨bx, 0, none⟩) hx).trans Z0.out
 have y41 := (BX4.out.cell (p := ⟨bx, 1, none⟩) hx).trans Z1.out
 have y42 := (BX4.out.cell (p := ⟨bx, 2, none⟩) hx).trans Z2.out
 have y43 := (BX4.out.cell (p := ⟨bx, 3, none⟩) hx).trans Z3.out
 obtain ⟨x40, x41, x42, x43, _, _⟩ := own4 OX4.out
 clear hb
 refine hK.out _ _ (⟨a4, y40, y41, y42, y43, x40, x41, x42, x43⟩) ?_
 clear hK K hHeld
 intro hHeld
 try simp only [Act.put, List.setIfInBounds_toArray, List.set_cons_zero, List.set_cons_succ]
 refine tH 11 16 ?_
 refine tH 12 17 ?_
 refine tH 13 4 ?_
 refine wpAnyH_done (by kernel_rfl) ?_ _
 go_wp2_with fail
 all_goals (go_ret; exact ⟨rfl, BX4.out⟩)
set_option maxRecDepth 100000 in
set_option maxHeartbeats 2000000 in
theorem insg_any (ba bx : Nat) (z d : Gr) (w : World) (ha : ba < w.heap.size) (hx : bx < w.heap.size) (ca : w.cell? ⟨ba, 0, none⟩ = some (.func (.func 64) #[] #[])) (z0 : w.cell? ⟨bx, 0, none⟩ = some (.int .i64 z.s)) (z1 : w.cell? ⟨bx, 1, none⟩ = some (.int .i64 z.o)) (z2 : w.cell? ⟨bx, 2, none⟩ = some (.int .i64 z.p)) (z3 : w.cell? ⟨bx, 3, none⟩ = some (.int .i64 z.m)) (z4 : w.cell? ⟨bx, 4, none⟩ = some (.int .i64 z.u)) : Calls Tryz.prog 98 #[.agg #[.int .i64 d.s, .int .i64 d.o, .int .i64 d.p, .int .i64 d.m, .int .i64 d.u], .pointer (some ⟨ba, 0, none⟩), .pointer (some ⟨bx, 0, none⟩)] w fun e w' => e = .returned (.bool (decide (z.s < d.s))) ∧ Below w.heap.size w w' := by
 have hfc := field_cell
 go_enter Tryz.func98, Tryz.ntmps98
 go_wp2_with fail
 have OX := Lib.hid (own_at (w := w) [.int .i64 d.s, .int .i64 d.o, .int .i64 d.p, .int .i64 d.m, .int .i64 d.u] 52 rfl).drew
 have BX := Lib.hid (belowNew w (.cells [.int .i64 d.s, .int .i64 d.o, .int .i64 d.p, .int .i64 d.m, .int .i64 d.u].toArray 52)).drew
 have za := Nat.lt_of_lt_of_le ha (belowNew w (.cells [.int .i64 d.s, .int .i64 d.o, .int .i64 d.p, .int .i64 d.m, .int .i64 d.u].toArray 52)).size
 have zx := Nat.lt_of_lt_of_le hx (belowNew w (.cells [.int .i64 d.s, .int .i64 d.o, .int .i64 d.p, .int .i64 d.m, .int .i64 d.u].toArray 52)).size
 have a0 := (BX.out.cell (p := ⟨ba, 0, none⟩) ha).trans ca
 have y0 := (BX.out.cell (p := ⟨bx, 0, none⟩) hx).trans z0
 have y1 := (BX.out.cell (p := ⟨bx, 1, none⟩) hx).trans z1
 have y2 := (BX.out.cell (p := ⟨bx, 2, none⟩) hx).trans z2
 have y3 := (BX.out.cell (p := ⟨bx, 3, none⟩) hx).trans z3
 have y4 := (BX.out.cell (p := ⟨bx, 4, none⟩) hx).trans z4
 obtain ⟨x0, x1, x2, x3, x4, _, _⟩ := own5 OX.out
 have A0 := Lib.hid ca
 have Z0 := Lib.hid z0
 have Z1 := Lib.hid z1
 have Z2 := Lib.hid z2
 have Z3 := Lib.hid z3
 have Z4 := Lib.hid z4
 clear ca z0 z1 z2 z3 z4
 refine region_H 14 #[false, false, false, false, false, false, false, false, false, false, false, false, false, false] (by kernel_rfl) (by kernel_rfl) (fun w' => w'.cell? ⟨ba, 0, none⟩ = some (.func (.func 64) #[] #[]) ∧ w'.cell? ⟨bx, 0, none⟩ = some (.int .i64 z.s) ∧ w'.cell? ⟨bx, 1, none⟩ = some (.int .i64 z.o) ∧ w'.cell? ⟨bx, 2, none⟩ = some (.int .i64 z.p) ∧ w'.cell? ⟨bx, 3, none⟩ = some (.int .i64 z.m) ∧ w'.cell? ⟨bx, 4, none⟩ = some (.int .i64 z.u) ∧ w'.cell? ⟨w.heap.size, 0, none⟩ = some (.int .i64 d.s) ∧ w'.cell? ⟨w.heap.size, 1, none⟩ = some (.int .i64 d.o) ∧ w'.cell? ⟨w.heap.size, 2, none⟩ = some (.int .i64 d.p) ∧ w'.cell? ⟨w.heap.size, 3, none⟩ = some (.int .i64 d.m) ∧ w'.cell? ⟨w.heap.size, 4, none⟩ = some (.int .i64 d.u)) (by kernel_rfl) ?x16s (fun hHeld => ?x16r)
 case x16s => exact ⟨a0, y0, y1, y2, y3, y4, x0, x1, x2, x3, x4⟩
 refine tH 0 5 ?_
 refine tH 1 6 ?_
 refine tH 6 11 ?_
 refine tH 7 12 ?_
 refine wpH_one (i := 2) (by kernel_rfl) rfl (fun K hK => ?_)
 rw [if_pos (by rfl)]
 go_simp
 refine (gto_any d.s d.o d.p d.m d.u _).mono ?_
 rintro e w1 ⟨rfl, hb⟩
 have BX1 := Lib.hid (belowTo BX.out hb (by have := BX.out.size; exact this))
 have OX1 := Lib.hid (OX.out.below hb)
 have a1 := (BX1.out.cell (p := ⟨ba, 0, none⟩) ha).trans A0.out
 have y10 := (BX1.out.cell (p := ⟨bx, 0, none⟩) hx).trans Z0.out
 have y11 := (BX1.out.cell (p := ⟨bx, 1, none⟩) hx).trans Z1.out
 have y12 := (BX1.out.cell (p := ⟨bx, 2, none⟩) hx).trans Z2.out
 have y13 := (BX1.out.cell (p := ⟨bx, 3, none⟩) hx).trans Z3.out
 have y14 := (BX1.out.cell (p := ⟨bx, 4, none⟩) hx).trans Z4.out
 obtain ⟨x10, x11, x12, x13, x14, _, _⟩ := own5 OX1.out
 clear hb
 refine hK.out _ _ (⟨a1, y10, y11, y12, y13, y14, x10, x11, x12, x13, x14⟩) ?_
 clear hK K hHeld
 intro hHeld
 try simp only [Act.put, List.setIfInBounds_toArray, List.set_cons_zero, List.set_cons_succ]
 refine tH 3 8 ?_
 refine wpH_one (i := 4) (by kernel_rfl) rfl (fun K hK => ?_)
 rw [if_pos (by rfl)]
 go_simp
 refine (gcell_any d.s d.o d.p d.m d.u _).mono ?_
 rintro e w2 ⟨rfl, hb⟩
 have BX2 := Lib.hid (belowTo BX1.out hb (by have := BX1.out.size; exact this))
 have OX2 := Lib.hid (OX1.out.below hb)
 have a2 := (BX2.out.cell (p := ⟨ba, 0, none⟩) ha).trans A0.out
 have y20 := (BX2.out.cell (p := ⟨bx, 0, none⟩) hx).trans Z0.out
 have y21 := (BX2.out.cell (p := ⟨bx, 1, none⟩) hx).trans Z1.out
 have y22 := (BX2.out.cell (p := ⟨bx, 2, none⟩) hx).trans Z2.out
 have y23 := (BX2.out.cell (p := ⟨bx, 3, none⟩) hx).trans Z3.out
 have y24 := (BX2.out.cell (p := ⟨bx, 4, none⟩) hx).trans Z4.out
 obtain ⟨x20, x21, x22, x23, x24, _, _⟩ := own5 OX2.out
 clear hb
 refine hK.out _ _ (⟨a2, y20, y21, y22, y23, y24, x20, x21, x22, x23, x24⟩) ?_
 clear hK K hHeld
 intro hHeld
 try simp only [Act.put, List.setIfInBounds_toArray, List.set_cons_zero, List.set_cons_succ]
 refine tH 5 10 ?_
 refine wpH_one (i := 8) (by kernel_rfl) rfl (fun K hK => ?_)
 rw [if_pos (by rfl)]
 go_simp
 refine (gto_any z.s z.o z.p z.m z.u _).mono ?_
 rintro e w3 ⟨rfl, hb⟩
 have BX3 := Lib.hid (belowTo BX2.out hb (by have := BX2.out.size; exact this))
 have OX3 := Lib.hid (OX2.out.below hb)
 have a3 := (BX3.out.cell (p := ⟨ba, 0, none⟩) ha).trans A0.out
 have y30 := (BX3.out.cell (p := ⟨bx, 0, none⟩) hx).trans Z0.out
 have y31 := (BX3.out.cell (p := ⟨bx, 1, none⟩) hx).trans Z1.out
 have y32 := (BX3.out.cell (p := ⟨bx, 2, none⟩) hx).trans Z2.out
 have y33 := (BX3.out.cell (p := ⟨bx, 3, none⟩) hx).trans Z3.out
 have y34 := (BX3.out.cell (p := ⟨bx, 4, none⟩) hx).trans Z4.out
 obtain ⟨x30, x31, x32, x33, x34, _, _⟩ := own5 OX3.out
 clear hb
 refine hK.out _ _ (⟨a3, y30, y31, y32, y33, y34, x30, x31, x32, x33, x34⟩) ?_
 clear hK K hHeld
 intro hHeld
 try simp only [Act.put, List.setIfInBounds_toArray, List.set_cons_zero, List.set_cons_succ]
 refine tH 9 14 ?_
 refine wpH_one (i := 10) (by kernel_rfl) rfl (fun K hK => ?_)
 rw [if_pos (by rfl)]
 go_simp
 refine (gcell_any z.s z.o z.p z.m z.u _).mono ?_
 rintro e w4 ⟨rfl, hb⟩
 have BX4 := Lib.hid (belowTo BX3.out hb (by have := BX3.out.size; exact this))
 have OX4 := Lib.hid (OX3.out.below hb)
 have a4 := (BX4.out.cell (p := ⟨ba, 0, none⟩) ha).trans A0.out
 have y40 := (BX4.out.cell (p := ⟨bx, 0, none⟩) hx).trans Z0.out
 have y41 := (BX4.out.cell (p := ⟨bx, 1, none⟩) hx).trans Z1.out
 have y42 := (BX4.out.cell (p := ⟨bx, 2, none⟩) hx).trans Z2.out
 have y43 := (BX4.out.cell (p := ⟨bx, 3, none⟩) hx).trans Z3.out
 have y44 := (BX4.out.cell (p := ⟨bx, 4, none⟩) hx).trans Z4.out
 obtain ⟨x40, x41, x42, x43, x44, _, _⟩ := own5 OX4.out
 clear hb
 refine hK.out _ _ (⟨a4, y40, y41, y42, y43, y44, x40, x41, x42, x43, x44⟩) ?_
 clear hK K hHeld
 intro hHeld
 try simp only [Act.put, List.setIfInBounds_toArray, List.set_cons_zero, List.set_cons_succ]
 refine tH 11 16 ?_
 refine tH 12 17 ?_
 refine tH 13 4 ?_
 refine wpAnyH_done (by kernel_rfl) ?_ _
 go_wp2_with fail
 all_goals (go_ret; exact ⟨rfl, BX4.out⟩)
set_option maxRecDepth 100000 in
set_option maxHeartbeats 2000000 in
theorem wexg_any (bo ba : Nat) (bn : Nat) (zs : Int) (d : Gr) (w : World) (ho : bo < w.heap.size) (ha : ba < w.heap.size) (hb : bn < w.heap.size) (c0 : w.cell? ⟨bn, 0, none⟩ = some (.int .i64 zs)) (co : w.cell? ⟨bo, 0, none⟩ = some (.func (.func 65) #[] #[.pointer (some ⟨bn, 0, none⟩)])) (ca : w.cell? ⟨ba, 0, none⟩ = some (.func (.func 64) #[] #[])) : Calls Tryz.prog 96 #[.agg #[.int .i64 d.s, .int .i64 d.o, .int .i64 d.p, .int .i64 d.m, .int .i64 d.u], .pointer (some ⟨bo, 0, none⟩), .pointer (some ⟨ba, 0, none⟩)] w fun e w' => e = .returned (.bool (decide (d.u < zs))) ∧ Below w.heap.size w w' := by
 have C0 := Lib.hid c0
 have CO := Lib.hid co
 have CA := Lib.hid ca
 go_enter Tryz.func96, Tryz.ntmps96
 go_wp2_with fail
 have OX := Lib.hid (own_at (w := w) [.int .i64 d.s, .int .i64 d.o, .int .i64 d.p, .int .i64 d.m, .int .i64 d.u] 52 rfl).drew
 have BX := Lib.hid (belowNew w (.cells [.int .i64 d.s, .int .i64 d.o, .int .i64 d.p, .int .i64 d.m, .int .i64 d.u].toArray 52)).drew
 have o0 := (BX.out.cell (p := ⟨bo, 0, none⟩) ho).trans co
 have a0 := (BX.out.cell (p := ⟨ba, 0, none⟩) ha).trans ca
 obtain ⟨x0, x1, x2, x3, x4, _, _⟩ := own5 OX.out
 clear co ca c0
 refine region_H 6 #[false, false, false, false, false, false] (by kernel_rfl) (by kernel_rfl) (fun w' => w'.cell? ⟨bo, 0, none⟩ = some (.func (.func 65) #[] #[.pointer (some ⟨bn, 0, none⟩)]) ∧ w'.cell? ⟨ba, 0, none⟩ = some (.func (.func 64) #[] #[]) ∧ w'.cell? ⟨w.heap.size, 0, none⟩ = some (.int .i64 d.s) ∧ w'.cell? ⟨w.heap.size, 1, none⟩ = some (.int .i64 d.o) ∧ w'.cell? ⟨w.heap.size, 2, none⟩ = some (.int .i64 d.p) ∧ w'.cell? ⟨w.heap.size, 3, none⟩ = some (.int .i64 d.m) ∧ w'.cell? ⟨w.heap.size, 4, none⟩ = some (.int .i64 d.u)) (by kernel_rfl) ?x52s (fun hHeld => ?x52r)
 case x52s => exact ⟨o0, a0, x0, x1, x2, x3, x4⟩
 refine tH 0 5 ?_
 refine tH 1 6 ?_
 refine tH 2 7 ?_
 refine wpH_one (i := 3) (by kernel_rfl) rfl (fun K hK => ?_)
 rw [if_pos (by rfl)]
 go_simp
 refine (gto_any d.s d.o d.p d.m d.u _).mono ?_
 rintro e w1 ⟨rfl, hbb⟩
 have BX1 := Lib.hid (belowTo BX.out hbb (by have := BX.out.size; exact this))
 have OX1 := Lib.hid (OX.out.below hbb)
 have o1 := (BX1.out.cell (p := ⟨bo, 0, none⟩) ho).trans CO.out
 have a1 := (BX1.out.cell (p := ⟨ba, 0, none⟩) ha).trans CA.out
 obtain ⟨x10, x11, x12, x13, x14, _, _⟩ := own5 OX1.out
 clear hbb
 refine hK.out _ _ (⟨o1, a1, x10, x11, x12, x13, x14⟩) ?_
 clear hK K hHeld
 intro hHeld
 try simp only [Act.put, List.setIfInBounds_toArray, List.set_cons_zero, List.set_cons_succ]
 refine wpH_one (i := 4) (by kernel_rfl) rfl (fun K hK => ?_)
 rw [if_pos (by rfl)]
 go_simp
 refine (exg_any bn zs d _ (Nat.lt_of_lt_of_le hb BX1.out.size) ((BX1.out.cell (p := ⟨bn, 0, none⟩) hb).trans C0.out)).mono ?_
 rintro e w2 ⟨rfl, hbb⟩
 have BX2 := Lib.hid (belowTo BX1.out hbb (by have := BX1.out.size; exact this))
 have OX2 := Lib.hid (OX1.out.below hbb)
 have o2 := (BX2.out.cell (p := ⟨bo, 0, none⟩) ho).trans CO.out
 have a2 := (BX2.out.cell (p := ⟨ba, 0, none⟩) ha).trans CA.out
 obtain ⟨x20, x21, x22, x23, x24, _, _⟩ := own5 OX2.out
 clear hbb
 refine hK.out _ _ (⟨o2, a2, x20, x21, x22, x23, x24⟩) ?_
 clear hK K hHeld
 intro hHeld
 try simp only [Act.put, List.setIfInBounds_toArray, List.set_cons_zero, List.set_cons_succ]
 refine tH 5 4 ?_
 refine wpAnyH_done (by kernel_rfl) ?_ _
 go_wp2_with fail
 all_goals (go_ret; exact ⟨rfl, BX2.out⟩)
set_option maxRecDepth 100000 in
set_option maxHeartbeats 2000000 in
theorem wuna_any (bo ba : Nat) (bn : Nat) (zs : Int) (d : Ak) (w : World) (ho : bo < w.heap.size) (ha : ba < w.heap.size) (hb : bn < w.heap.size) (c0 : w.cell? ⟨bn, 0, none⟩ = some (.int .i64 zs)) (co : w.cell? ⟨bo, 0, none⟩ = some (.func (.func 93) #[] #[.pointer (some ⟨bn, 0, none⟩)])) (ca : w.cell? ⟨ba, 0, none⟩ = some (.func (.func 88) #[] #[])) : Calls Tryz.prog 114 #[.agg #[.int .i64 d.s, .int .i64 d.o, .int .i64 d.p], .pointer (some ⟨bo, 0, none⟩), .pointer (some ⟨ba, 0, none⟩)] w fun e w' => e = .returned (.bool (d.s == zs)) ∧ Below w.heap.size w w' := by
 have C0 := Lib.hid c0
 have CO := Lib.hid co
 have CA := Lib.hid ca
 go_enter Tryz.func114, Tryz.ntmps114
 go_wp2_with fail
 have OX := Lib.hid (own_at (w := w) [.int .i64 d.s, .int .i64 d.o, .int .i64 d.p] 81 rfl).drew
 have BX := Lib.hid (belowNew w (.cells [.int .i64 d.s, .int .i64 d.o, .int .i64 d.p].toArray 81)).drew
 have o0 := (BX.out.cell (p := ⟨bo, 0, none⟩) ho).trans co
 have a0 := (BX.out.cell (p := ⟨ba, 0, none⟩) ha).trans ca
 obtain ⟨x0, x1, x2, _, _⟩ := own3 OX.out
 clear co ca c0
 refine region_H 6 #[false, false, false, false, false, false] (by kernel_rfl) (by kernel_rfl) (fun w' => w'.cell? ⟨bo, 0, none⟩ = some (.func (.func 93) #[] #[.pointer (some ⟨bn, 0, none⟩)]) ∧ w'.cell? ⟨ba, 0, none⟩ = some (.func (.func 88) #[] #[]) ∧ w'.cell? ⟨w.heap.size, 0, none⟩ = some (.int .i64 d.s) ∧ w'.cell? ⟨w.heap.size, 1, none⟩ = some (.int .i64 d.o) ∧ w'.cell? ⟨w.heap.size, 2, none⟩ = some (.int .i64 d.p)) (by kernel_rfl) ?x59s (fun hHeld => ?x59r)
 case x59s => exact ⟨o0, a0, x0, x1, x2⟩
 refine tH 0 5 ?_
 refine tH 1 6 ?_
 refine tH 2 7 ?_
 refine wpH_one (i := 3) (by kernel_rfl) rfl (fun K hK => ?_)
 rw [if_pos (by rfl)]
 go_simp
 refine (ato_any d.s d.o d.p _).mono ?_
 rintro e w1 ⟨rfl, hbb⟩
 have BX1 := Lib.hid (belowTo BX.out hbb (by have := BX.out.size; exact this))
 have OX1 := Lib.hid (OX.out.below hbb)
 have o1 := (BX1.out.cell (p := ⟨bo, 0, none⟩) ho).trans CO.out
 have a1 := (BX1.out.cell (p := ⟨ba, 0, none⟩) ha).trans CA.out
 obtain ⟨x10, x11, x12, _, _⟩ := own3 OX1.out
 clear hbb
 refine hK.out _ _ (⟨o1, a1, x10, x11, x12⟩) ?_
 clear hK K hHeld
 intro hHeld
 try simp only [Act.put, List.setIfInBounds_toArray, List.set_cons_zero, List.set_cons_succ]
 refine wpH_one (i := 4) (by kernel_rfl) rfl (fun K hK => ?_)
 rw [if_pos (by rfl)]
 go_simp
 refine (una_any bn zs d _ (Nat.lt_of_lt_of_le hb BX1.out.size) ((BX1.out.cell (p := ⟨bn, 0, none⟩) hb).trans C0.out)).mono ?_
 rintro e w2 ⟨rfl, hbb⟩
 have BX2 := Lib.hid (belowTo BX1.out hbb (by have := BX1.out.size; exact this))
 have OX2 := Lib.hid (OX1.out.below hbb)
 have o2 := (BX2.out.cell (p := ⟨bo, 0, none⟩) ho).trans CO.out
 have a2 := (BX2.out.cell (p := ⟨ba, 0, none⟩) ha).trans CA.out
 obtain ⟨x20, x21, x22, _, _⟩ := own3 OX2.out
 clear hbb
 refine hK.out _ _ (⟨o2, a2, x20, x21, x22⟩) ?_
 clear hK K hHeld
 intro hHeld
 try simp only [Act.put, List.setIfInBounds_toArray, List.set_cons_zero, List.set_cons_succ]
 refine tH 5 4 ?_
 refine wpAnyH_done (by kernel_rfl) ?_ _
 go_wp2_with fail
 all_goals (go_ret; exact ⟨rfl, BX2.out⟩)
end Go.Proofs.YtmopiifamopidaaGreat
end

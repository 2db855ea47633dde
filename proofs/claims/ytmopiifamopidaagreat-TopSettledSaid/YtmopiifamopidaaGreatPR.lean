/- The walk of TopSettled: it returns true for every input. No condition. -/
import Derived.Test.YtmopiifamopidaaGreatPP
import Derived.Test.YtmopiifamopidaaGreatPQ
import Derived.BigQuiet
import Derived.Deep.CutRange
import Derived.Test.YtmopiifamopidaaGreatPL
set_option linter.unusedVariables false
set_option linter.unusedSimpArgs false
section
namespace Go.Proofs.YtmopiifamopidaaGreat
open Go.RowKit
def chL : Lay Int := ⟨fun c => [.int .u8 c], 1, by decide, fun _ => rfl, fun a u h => by simp only [List.mem_cons, List.not_mem_nil, or_false] at h; rcases h with rfl; rfl⟩
structure Wr where
 q : List Int
 v : Sv
def wrL : Lay Wr := ⟨fun r => [.slice r.v.p r.v.n r.v.c], 1, by decide, fun _ => rfl, fun a u h => by
 simp only [List.mem_cons, List.not_mem_nil, or_false] at h
 rcases h with rfl; rfl⟩
def WrOk (w : World) (r : Wr) : Prop := SlT chL w (.slice r.v.p r.v.n r.v.c) r.q ∧ ∀ a ∈ r.q, 0 ≤ a ∧ a < 256
theorem SlT.atW {w w' : World} {p : Option Addr} {n cap : Nat} {l : List Wr} (h : SlT wrL w (.slice p n cap) l) (bel : Below w.heap.size w w') {i : Nat} (hi : i < l.length) :
  ∃ a b off, l[i]? = some a ∧ p = some ⟨b, off, none⟩ ∧ b < w'.heap.size ∧ b < w.heap.size ∧ w'.cell? ⟨b, off + i, none⟩ = some (.slice a.v.p a.v.n a.v.c) := by
 obtain ⟨a, b, off, h1, h2, h3, h4, h5⟩ := h.at bel hi
 refine ⟨a, b, off, h1, h2, h3, h4, ?_⟩
 have := h5 0 _ rfl
 rw [show wrL.k = 1 from rfl, Nat.mul_one] at this
 exact this
theorem SlT.atC {w w' : World} {p : Option Addr} {n cap : Nat} {l : List Int} (h : SlT chL w (.slice p n cap) l) (bel : Below w.heap.size w w') {i : Nat} (hi : i < l.length) :
  ∃ a b off, l[i]? = some a ∧ p = some ⟨b, off, none⟩ ∧ b < w'.heap.size ∧ b < w.heap.size ∧ w'.cell? ⟨b, off + i, none⟩ = some (.int .u8 a) := by
 obtain ⟨a, b, off, h1, h2, h3, h4, h5⟩ := h.at bel hi
 refine ⟨a, b, off, h1, h2, h3, h4, ?_⟩
 have := h5 0 _ rfl
 rw [show chL.k = 1 from rfl, Nat.mul_one] at this
 exact this
theorem val_nil {N D : Int} (h : layB N D = true) : Val N D [] [] [] := ⟨h, by simp, by simp, by simp [Srt], by simp [Srt], by simp [Srt], by simp, by simp, by simp, by simp, by simp, by simp⟩
theorem inv_nil {N D : Int} {n : Nat} (h : layB N D = true) : Inv N D n 0 (fun _ => ⟨[], [], []⟩) (fun _ => []) := ⟨fun _ _ => val_nil h, fun _ _ => Nat.le_refl _, fun _ _ b hb => by simp at hb⟩
theorem Wrd.tsOk {w0 : World} {bW bT bN n : Nat} {N D f : Int} {vh : Sv} {T : Nat → Tb} {R : Nat → List Nb} {ts : List Tr} {ns : List Nv} {w : World} (h : Wrd w0 bW bT bN N D n vh f T R ts ns w) (n60 : n ≤ 60) : TsOk w (.slice (some ⟨bT, 0, none⟩) n n) ts n :=
 ⟨slt_full h.oT h.lt n60, fun r hr => by
  obtain ⟨i, hi⟩ := List.getElem?_of_mem hr
  exact (h.tab i r hi).2, h.lt⟩
end Go.Proofs.YtmopiifamopidaaGreat
end
section
namespace Go.Proofs.YtmopiifamopidaaGreat
open Go.ChangeShapes Go.WideShapes Go.Deep Go.RowKit
section
variable {H : Type} {enc : TypeId × Value → H} {P : Program} {w : World} {base : Nat} {spare : Nat → Bool} {held : Bool}
theorem open_nest {β : Type} {F : β → Value} {Q : β → Prop} {t e : TypeId} {fuel : Nat} {v : Value} {x : DataW H × List MemPlace} (ht : P.underlying t = some (.slice e)) (hC : P.cellsOf e = 1)
  (hE : ∀ fuel v x, DataW.trod enc P w base spare held fuel e [v] = some x → ∃ b, v = F b ∧ Q b)
  (h : DataW.trod enc P w base spare held fuel t [v] = some x) : ∃ bs : List β, SlV w v 1 (bs.map fun b => [F b]) ∧ ∀ b ∈ bs, Q b := by
 rcases open_slice ht h with ⟨h0, _⟩ | ⟨a, len, cap, m, n', D, Pl, hcs, hb, hl, hm, hmm, hx, hi⟩
 ·exact ⟨[], ⟨none, 0, by simpa using h0, Nat.le_refl _, Nat.zero_le _, fun _ => rfl, fun i cs hi => by simp at hi⟩, by simp⟩
 ·obtain rfl : v = .slice (some a) len cap := by simpa using hcs
  have hlm : len ≤ m := by rw [hmm]; split <;> omega
  have hrow : ∀ i, i < len → ∃ b : β, Q b ∧ w.cell? (a.add i) = some (F b) := by
   intro i hil
   obtain ⟨cs', hc, ht'⟩ := hi i (by omega)
   rw [hC, Nat.mul_one] at hc
   obtain ⟨_, hcl, hat⟩ := World.cells?_some hc
   obtain ⟨u, rfl⟩ : ∃ u, cs' = [u] := by
    match cs', hcl with
    | [u], _ => exact ⟨u, rfl⟩
   obtain ⟨b, rfl, hq⟩ := hE n' u _ ht'
   refine ⟨b, hq, ?_⟩
   have := hat 0 (by simp)
   rw [Go.Deep.add_add, Nat.add_zero] at this
   rw [this]; rfl
  obtain ⟨R, hR⟩ : ∃ R : List β, R.length = len ∧ ∀ i b, R[i]? = some b → Q b ∧ w.cell? (a.add i) = some (F b) := by
   clear hi hl hlm hmm hcs hx h
   induction len with
   | zero => exact ⟨[], rfl, fun i b hb => by simp at hb⟩
   | succ k ih =>
    obtain ⟨R, h1, h2⟩ := ih (fun i hi => hrow i (by omega))
    obtain ⟨b, hb1, hb2⟩ := hrow k (by omega)
    refine ⟨R ++ [b], by simp [h1], fun i b' hb' => ?_⟩
    by_cases hik : i < k
    ·rw [List.getElem?_append_left (by omega)] at hb'
     exact h2 i b' hb'
    ·have hlt := (List.getElem?_eq_some_iff.1 hb').1
     rw [List.length_append, h1, List.length_singleton] at hlt
     obtain rfl : i = k := by omega
     rw [List.getElem?_append_right (by omega), h1, Nat.sub_self] at hb'
     obtain rfl := Option.some.inj hb'
     exact ⟨hb1, hb2⟩
  obtain ⟨hRl, hR⟩ := hR
  refine ⟨R, ⟨some a, cap, by rw [List.length_map, hRl], by rw [List.length_map, hRl]; exact hl, hm, (fun e => (by cases e)), fun i cs hics => ?_⟩, fun b hb => ?_⟩
  ·rw [List.getElem?_map] at hics
   cases hbi : R[i]? with
   | none => rw [hbi] at hics; cases hics
   | some b =>
    rw [hbi] at hics
    obtain rfl : [F b] = cs := by simpa using hics
    have k0 := (hR i b hbi).2
    obtain ⟨bb, off, spot⟩ := a
    have hspot : spot = none := by
     have hi0 := (List.getElem?_eq_some_iff.1 hbi).1
     have k00 := (hR 0 _ (List.getElem?_eq_getElem (by omega))).2
     simpa [Addr.add] using World.cell?_spot k00
    subst hspot
    rw [Go.WideShapes.add_plain] at k0
    refine ⟨bb, off, rfl, lt_of_cellF k0, fun j x hj => ?_⟩
    match j, hj with
    | 0, hj =>
     obtain rfl := Option.some.inj hj
     rw [Nat.mul_one, Nat.add_zero]
     exact k0
  ·obtain ⟨i, hi⟩ := List.getElem?_of_mem hb
   exact (hR i b hi).1
theorem open_row {α : Type} {L : Lay α} {Q : α → Prop} {ks : List (Option IntKind)} {t e : TypeId} {n fuel : Nat} {v : Value} {x : DataW H × List MemPlace} (ht : P.underlying t = some (.slice e)) (hk : flatK P n e = some ks) (hp : packedT P n e = true) (hC : P.cellsOf e = ks.length) (hL : ks.length = L.k)
  (hq : ∀ cs, okCells ks cs → ∃ a, cs = L.f a ∧ Q a)
  (h : DataW.trod enc P w base spare held fuel t [v] = some x) : ∃ (l : List α) (s : Sv), v = .slice s.p s.n s.c ∧ SlT L w (.slice s.p s.n s.c) l ∧ ∀ a ∈ l, Q a := by
 obtain ⟨rows, sv, kc⟩ := open_slv ht hk hp hC (by rw [hL]; exact L.pos) h
 obtain ⟨xs, rfl, qs⟩ := rows_typedP (f := L.f) (Q := Q) (fun cs hcs => hq cs (kc cs hcs))
 rw [hL] at sv
 obtain ⟨p, c, rfl, _⟩ := SlT.form (L := L) xs.length sv rfl
 exact ⟨xs, ⟨p, xs.length, c⟩, rfl, sv, qs⟩
theorem open_hrs {t e q : TypeId} {fuel : Nat} {v : Value} {x : DataW H × List MemPlace} (ht : P.underlying t = some (.slice e)) (he : P.underlying e = some (.slice q)) (hC : P.cellsOf e = 1) (hk : flatK P 1 q = some [none]) (hp : packedT P 1 q = true) (hq : P.cellsOf q = 1)
  (h : DataW.trod enc P w base spare held fuel t [v] = some x) : ∃ hs : List Hr, SlT hrL w v hs ∧ ∀ r ∈ hs, HrOk w r := by
 obtain ⟨bs, h1, h2⟩ := open_nest (F := fun r : Hr => .slice r.v.p r.v.n r.v.c) (Q := HrOk w) ht hC (fun fuel v x hx => by
  obtain ⟨l, s, h3, h4, _⟩ := open_row (L := boL) (Q := fun _ => True) he hk hp hq rfl (fun cs hcs => by
   obtain ⟨b, vs, rfl, hv⟩ := hcs
   simp only [okCells] at hv
   subst hv
   exact ⟨b, rfl, trivial⟩) hx
  exact ⟨⟨l, s⟩, h3, h4⟩) h
 exact ⟨bs, h1, h2⟩
theorem open_wrs {t e q : TypeId} {fuel : Nat} {v : Value} {x : DataW H × List MemPlace} (ht : P.underlying t = some (.slice e)) (he : P.underlying e = some (.slice q)) (hC : P.cellsOf e = 1) (hk : flatK P 1 q = some [some .u8]) (hp : packedT P 1 q = true) (hq : P.cellsOf q = 1)
  (h : DataW.trod enc P w base spare held fuel t [v] = some x) : ∃ hs : List Wr, SlT wrL w v hs ∧ ∀ r ∈ hs, WrOk w r := by
 obtain ⟨bs, h1, h2⟩ := open_nest (F := fun r : Wr => .slice r.v.p r.v.n r.v.c) (Q := WrOk w) ht hC (fun fuel v x hx => by
  obtain ⟨l, s, h3, h4, h5⟩ := open_row (L := chL) (Q := fun a => 0 ≤ a ∧ a < 256) he hk hp hq rfl (fun cs hcs => by
   obtain ⟨b, vs, rfl, hb, hv⟩ := hcs
   simp only [okCells] at hv
   subst hv
   refine ⟨b, rfl, ?_⟩
   have : 0 ≤ b ∧ b ≤ 255 := by simpa [IntKind.has, IntKind.min, IntKind.max, IntKind.signed, IntKind.bits] using hb
   omega) hx
  exact ⟨⟨l, s⟩, h3, h4, h5⟩) h
 exact ⟨bs, h1, h2⟩
end
end Go.Proofs.YtmopiifamopidaaGreat
end
section
namespace Go.Proofs.YtmopiifamopidaaGreat
open Go.RowKit
def pvF (n : Nat) (ql : List Int) (i : Nat) : Int := match ql[i]? with | some a => a % n | none => -1
def mvF (ql : List Int) (i : Nat) : Int := match ql[i]? with | some a => a / 16 % 8 | none => 0
theorem mvF_le (ql : List Int) (i : Nat) : mvF ql i ≤ 7 := by
 unfold mvF
 split
 ·omega
 ·omega
def TpJ (n : Nat) (ql : List Int) (bp bm : Nat) (w : World) (k : Nat) (wz : World) : Prop := Own wz bp (rwF n fun i => Value.int .i64 (if i < k then pvF n ql i else 0)) 3 ∧ Own wz bm (rwF n fun i => Value.int .i64 (if i < k then mvF ql i else 0)) 3 ∧ Below w.heap.size w wz
theorem rwF_put {n k : Nat} {g : Nat → Int} {v : Int} (hk : k < n) (hv : v = g k) : (rwF n fun i => Value.int .i64 (if i < k then g i else 0)).set k (.int .i64 v) = rwF n fun i => Value.int .i64 (if i < k + 1 then g i else 0) := by
 rw [rwF_set _ _ hk]
 refine rwF_congr fun i _ => ?_
 unfold updF
 dsimp only
 by_cases e : i = k
 ·subst e; rw [if_pos rfl, if_pos (by omega), hv]
 ·rw [if_neg e]
  by_cases c : i < k
  ·rw [if_pos c, if_pos (by omega)]
  ·rw [if_neg c, if_neg (by omega)]
theorem rwF_same {n k : Nat} {g : Nat → Int} (hv : g k = 0) : (rwF n fun i => Value.int .i64 (if i < k then g i else 0)) = rwF n fun i => Value.int .i64 (if i < k + 1 then g i else 0) := by
 refine rwF_congr fun i _ => ?_
 by_cases e : i = k
 ·subst e; rw [if_neg (by omega), if_pos (by omega), hv]
 ·by_cases c : i < k
  ·rw [if_pos c, if_pos (by omega)]
  ·rw [if_neg c, if_neg (by omega)]
theorem pvF_at {n k : Nat} {ql : List Int} {a : Int} (h : ql[k]? = some a) (a0 : 0 ≤ a) (a1 : a < 256) : (IntKind.i64.wrap a).tmod n = pvF n ql k := by
 unfold pvF
 rw [h, IntWalk.i64_in _ (by omega), Int.tmod_eq_emod_of_nonneg a0]
theorem mvF_at {k : Nat} {ql : List Int} {a : Int} (h : ql[k]? = some a) (a0 : 0 ≤ a) (a1 : a < 256) : (IntKind.i64.wrap ((IntKind.i64.wrap a).tdiv 16)).tmod 8 = mvF ql k := by
 unfold mvF
 rw [h, IntWalk.i64_in a (by omega), Int.tdiv_eq_ediv_of_nonneg a0, IntWalk.i64_in (a / 16) (by omega), Int.tmod_eq_emod_of_nonneg (by omega)]
theorem TpJ.two {n k : Nat} {ql : List Int} {bp bm : Nat} {w wz : World} {v1 v2 : Int} (h1 : Own wz bp ((rwF n fun i => Value.int .i64 (if i < k then pvF n ql i else 0)).set k (.int .i64 v1)) 3) (h2 : Own wz bm ((rwF n fun i => Value.int .i64 (if i < k then mvF ql i else 0)).set k (.int .i64 v2)) 3) (hb : Below w.heap.size w wz) (hk : k < n) (e1 : v1 = pvF n ql k) (e2 : v2 = mvF ql k) : TpJ n ql bp bm w (k + 1) wz := by
 rw [rwF_put hk e1] at h1
 rw [rwF_put hk e2] at h2
 exact ⟨h1, h2, hb⟩
theorem flat_int (n : Nat) (g : Nat → Int) : flatT itL (rwF n g) = rwF n fun i => Value.int .i64 (g i) := by
 show ((List.range n).map _).flatMap _ = (List.range n).map _
 induction List.range n with
 | nil => rfl
 | cons a l ih => rw [List.map_cons, List.map_cons, List.flatMap_cons, ih]; rfl
theorem slt_row {w : World} {b n : Nat} {g : Nat → Int} (o : Own w b (rwF n fun i => Value.int .i64 (if i < n then g i else 0)) 3) (n60 : n ≤ 60) : SlT itL w (.slice (some ⟨b, 0, none⟩) n n) (rwF n g) := by
 refine slt_full (t := 3) ?_ (rwF_len _ _) n60
 rw [flat_int, rwF_congr (g' := fun i => Value.int .i64 (if i < n then g i else 0)) (fun i hi => by rw [if_pos hi])]
 exact o
def TpI (w0 : World) (bW bT bN : Nat) (D : Int) (n : Nat) (vh : Sv) (j : Nat) (wz : World) : Prop := ∃ T R ts ns, Wrd w0 bW bT bN n D n vh j T R ts ns wz ∧ Inv n D n (n * j) T R
def FrQ (w0 : World) (bW bT bN : Nat) (D : Int) (n : Nat) (vh : Sv) (H : Nat → Nat → Bool) (j : Nat) (e : Ending) (w' : World) : Prop := e = .returned (.tuple #[]) ∧ ∃ T R ts ns, Wrd w0 bW bT bN n D n vh (j + 1 : Nat) T R ts ns w' ∧ Inv n D n (n * (j + 1)) T R ∧ Quiet n H T j
theorem frm_tp (w0 : World) (bO bW bT bN bp bm : Nat) (D : Int) (n j : Nat) (B : Nat → Nat) (M : Nat → Nat → Bool) (T : Nat → Tb) (R : Nat → List Nb) (ts : List Tr) (ns : List Nv) (ql : List Int) (w1 w : World) (hW : Wrd w0 bW bT bN n D n ⟨some ⟨bO, 0, none⟩, n, n⟩ j T R ts ns w) (hH : HsOk w0 (.slice (some ⟨bO, 0, none⟩) n n) (syH M n B) n) (hJ : TpJ n ql bp bm w1 n w) (hI : Inv n D n (n * j) T R) (n8 : n ≤ 8) (j20 : j ≤ 20) :
  Calls Tryz.prog 7 #[.pointer (some ⟨bW, 0, none⟩), .slice (some ⟨bp, 0, none⟩) n n, .slice (some ⟨bm, 0, none⟩) n n] w (FrQ w0 bW bT bN D n ⟨some ⟨bO, 0, none⟩, n, n⟩ (symH M) j) := by
 have hm : n * j ≤ 900 := by
  have := Nat.mul_le_mul n8 j20
  omega
 refine (frm_any w0 bW bT bN n D j n (n * j) ⟨some ⟨bO, 0, none⟩, n, n⟩ (syH M n B) (symH M) T R ts ns _ _ (rwF n (pvF n ql)) (rwF n (mvF ql)) w hW hH (fun i r hr k b hb => syH_at hr hb) (slt_row hJ.1 (by omega)) (slt_row hJ.2.1 (by omega)) (rwF_len _ _) (rwF_len _ _) (fun x hx => by
  obtain ⟨i, hi⟩ := List.getElem?_of_mem hx
  obtain ⟨_, rfl⟩ := rwF_some hi
  have := mvF_le ql i
  omega) hI hm n8 (by omega) (by omega)).mono ?_
 rintro e w5 ⟨rfl, ts2, ns2, hW2⟩
 exact ⟨rfl, _, _, ts2, ns2, hW2, frm_inv hI, settled (fun i k _ _ => symH_comm M i k) hI⟩
theorem Inv.small {n m : Nat} {D : Int} {T : Nat → Tb} {R : Nat → List Nb} (h : Inv n D n m T R) {i : Nat} (hi : i < n) : ((T i).us.length + (T i).gs.length ≤ 24 ∧ (T i).ks.length ≤ 24) ∧ (∀ u ∈ (T i).us, smalC u.s u.o) ∧ ∀ g ∈ (T i).gs, smalC g.s g.o := by
 have hv := h.val i hi
 have hl := layB_iff.1 hv.lay
 refine ⟨us_len hv, fun u hu => ?_, fun g hg => ?_⟩
 ·have h9 := hv.ou u hu
  simp only [usB, Bool.and_eq_true] at h9
  have := plcB_iff.1 h9.1.1
  unfold smalC
  omega
 ·have h9 := hv.og g hg
  simp only [grB, Bool.and_eq_true] at h9
  have := plcB_iff.1 h9.1.1.1
  unfold smalC
  omega
def ClQ (w : World) (e : Ending) (w' : World) : Prop := ∃ p c, e = .returned (.slice p 0 c) ∧ Below w.heap.size w w'
theorem cls_tp (w0 : World) (bO bW bT bN : Nat) (D : Int) (n j m : Nat) (B : Nat → Nat) (M : Nat → Nat → Bool) (T : Nat → Tb) (R : Nat → List Nb) (ts : List Tr) (ns : List Nv) (f : Int) (w : World) (hW : Wrd w0 bW bT bN n D n ⟨some ⟨bO, 0, none⟩, n, n⟩ f T R ts ns w) (hH : HsOk w0 (.slice (some ⟨bO, 0, none⟩) n n) (syH M n B) n) (hI : Inv n D n m T R) (hQ : Quiet n (symH M) T j) (n8 : n ≤ 8) :
  Calls Tryz.prog 8 #[.slice (some ⟨bO, 0, none⟩) n n, .slice (some ⟨bT, 0, none⟩) n n, .int .i64 j] w (ClQ w) := by
 have ht : ∀ r ∈ ts, ∃ i, i < n ∧ r.t = T i := fun r hr => by
  obtain ⟨i, hi⟩ := List.getElem?_of_mem hr
  exact ⟨i, by rw [← hW.lt]; exact (List.getElem?_eq_some_iff.1 hi).1, (hW.tab i r hi).1⟩
 refine (cls_any (.slice (some ⟨bO, 0, none⟩) n n) (.slice (some ⟨bT, 0, none⟩) n n) (syH M n B) ts n j w (hH.below hW.bel) (hW.tsOk (by omega)) (by omega) (fun r hr => by
  obtain ⟨i, hi, e⟩ := ht r hr
  rw [e]
  have := (hI.small hi).1
  omega) (fun r hr => by
  obtain ⟨i, hi, e⟩ := ht r hr
  rw [e]
  exact (hI.small hi).2)).mono ?_
 rintro e wv ⟨v, rfl, hv, hb⟩
 rw [clsF_quiet hQ (by rw [List.length_map, hW.lt]) (fun i t hit => by
  rw [List.getElem?_map] at hit
  cases hr : ts[i]? with
  | none => rw [hr] at hit; cases hit
  | some r =>
   rw [hr] at hit
   obtain rfl : r.t = t := by simpa using hit
   exact (hW.tab i r hr).1) (fun i h hih => by
  rw [List.getElem?_map] at hih
  cases hr : (syH M n B)[i]? with
  | none => rw [hr] at hih; cases hih
  | some r =>
   rw [hr] at hih
   obtain rfl : r.h = h := by simpa using hih
   exact ⟨hH.row r (List.mem_of_getElem? hr), fun k is hk => syH_at hr hk⟩)] at hv
 obtain ⟨p, c, rfl, _, _, _⟩ := SlT.form (L := c5L) 0 hv rfl
 exact ⟨p, c, rfl, hb⟩
theorem vld_tp (w0 : World) (bW bT bN : Nat) (D : Int) (n m i : Nat) (vh : Sv) (T : Nat → Tb) (R : Nat → List Nb) (ts : List Tr) (ns : List Nv) (f : Int) (r : Tr) (w w2 : World) (hW : Wrd w0 bW bT bN n D n vh f T R ts ns w) (hI : Inv n D n m T R) (hr : ts[i]? = some r) (hb : Below w.heap.size w w2) :
  Calls Tryz.prog 9 #[.agg #[.slice r.vu.p r.vu.n r.vu.c, .slice r.vg.p r.vg.n r.vg.c, .slice r.va.p r.va.n r.va.c], .agg #[.int .i64 n, .int .i64 D]] w2 fun e w' => e = .returned (.bool true) ∧ Below w2.heap.size w2 w' := by
 have hi : i < n := by rw [← hW.lt]; exact (List.getElem?_eq_some_iff.1 hr).1
 obtain ⟨e, ok⟩ := hW.tab i r hr
 have hs := (hI.small hi).1
 rw [← e] at hs
 exact rvalid_lit _ _ _ r.t.us r.t.gs r.t.ks n D w2 (ok.1.below hb) (ok.2.1.below hb) (ok.2.2.below hb) (by omega) (by omega) (by omega) true (by rw [e]; exact vld_iff.2 (hI.val i hi))
end Go.Proofs.YtmopiifamopidaaGreat
end
section
namespace Go.Proofs.YtmopiifamopidaaGreat
open Go.RowKit
attribute [local go_sem] Oper.semAt_some
theorem infoM_pi : (Tryz.prog.info? 3).map (fun i => (i.zero, i.size, i.bytes)) = some (some (.int .i64 0), 1, 8) := by kernel_rfl
theorem mk_pi (l : Nat) (hl : l ≤ 60) (w : World) : (Instr.makeSlice 29 (.int .i64 (l : Int)) (.int .i64 (l : Int))).run Tryz.prog w = .ok (.slice (some ⟨w.heap.size, 0, none⟩) l l) (w.alloc (.cells (List.replicate (l * 1) (.int .i64 0)).toArray 3)) := by
 obtain ⟨i0, hi, hz, hs0, hb0⟩ := info_parts infoM_pi
 have h := run_make w 29 3 i0 (.int .i64 0) (by kernel_rfl) hi hz .i64 .i64 (l : Int) (l : Int) (by omega) (by omega) (by rw [hb0]; omega) (by omega)
 rw [h]
 have e : madeCells (Value.cells (.int .i64 0)) (((l : Int)).toNat * i0.size) = (List.replicate (l * 1) (.int .i64 0)).toArray := by
  rw [hs0]
  apply Array.ext'
  rw [made_rep (Value.cells (.int .i64 0)) (.int .i64 0) (by decide) (by intro i hi; have hi' : i < 1 := hi; match i, hi' with
   | 0, _ => rfl)]
  simp
 rw [e]
 simp
set_option maxRecDepth 100000 in
set_option maxHeartbeats 8000000 in
theorem topSettled_walk (x y : Int) (vh : Value) (hs : List Hr) (vw : Value) (ws : List Wr) (w : World) (hx : 0 ≤ x ∧ x < 256) (hy : 0 ≤ y ∧ y < 256) (sl : SlT hrL w vh hs) (ok : ∀ r ∈ hs, HrOk w r) (sw : SlT wrL w vw ws) (ow : ∀ r ∈ ws, WrOk w r) :
  Calls Tryz.prog 3 #[.int .u8 x, .int .u8 y, vh, vw] w fun e w' => e = .returned (.bool true) ∧ Below w.heap.size w w' := by
 obtain ⟨wp, wc, e0, hwc, hwm, _⟩ := SlT.form (L := wrL) ws.length sw rfl
 subst e0
 unfold maxLen at hwm
 obtain ⟨x0, x1⟩ := hx
 obtain ⟨y0, y1⟩ := hy
 have SL := Lib.hid sl
 have OK := Lib.hid ok
 have SW := Lib.hid sw
 have OW := Lib.hid ow
 clear sl ok sw ow
 have h0 : (0 : Int) ≤ (ws.length : Int) := Int.natCast_nonneg _
 obtain ⟨n, hn, n2, n8⟩ : ∃ n : Nat, (2 : Int) + x % 7 = (n : Int) ∧ 2 ≤ n ∧ n ≤ 8 := by
  exact ⟨(2 + x % 7).toNat, by omega, by omega, by omega⟩
 obtain ⟨D, hD, d1, d8⟩ : ∃ D : Int, 1 + y % 8 = D ∧ 1 ≤ D ∧ D ≤ 8 := by
  exact ⟨1 + y % 8, rfl, by omega, by omega⟩
 have r1 : (7 : Int) ≠ 0 := by decide
 go_enter Tryz.func3, Tryz.ntmps3
 go_wp2_with fail
 refine (r7cells_true _).mono ?_
 rintro e w1 ⟨rfl, hb1⟩
 have B1 := Lib.hid hb1
 clear hb1
 by_cases h20 : (20 : Int) < ws.length
 ·go_wp2_with fail
  go_ret
  exact ⟨rfl, B1.out⟩
 ·go_wp2_with fail
  refine (sym_any vh hs n w1 (SlT.below SL.out B1.out) (fun r hr => (OK.out r hr).below B1.out) n8).mono ?_
  rintro e w2 ⟨bO, B, rfl, hh, hb⟩
  have HH := Lib.hid hh
  have B2 := Lib.hid (B1.out.trans (hb.mono B1.out.size))
  clear hh hb
  go_wp2_with fail
  refine (nw7_any D n ⟨some ⟨bO, 0, none⟩, n, n⟩ w2 n8).mono ?_
  rintro e w3 ⟨bW, bT, bN, rfl, ts, ns, hW⟩
  have lay : layB n D = true := by simp [layB]; omega
  have I0 := Lib.hid (show TpI w2 bW bT bN D n ⟨some ⟨bO, 0, none⟩, n, n⟩ 0 w3 from ⟨_, _, ts, ns, hW, inv_nil lay⟩)
  clear hW
  go_wp2_with fail
  have hwl : (ws.length : Int) ≤ 20 := by omega
  go_loopw [40] (fun jj wz => ∃ j : Nat, j ≤ ws.length ∧ jj = .int .i64 j ∧ TpI w2 bW bT bN D n ⟨some ⟨bO, 0, none⟩, n, n⟩ j wz) (fun jj _ => ws.length - (intOf jj).toNat)
  case atStart => exact ⟨0, by omega, rfl, I0.out⟩
  case round =>
   clear I0
   obtain ⟨j, hj, rfl, T, R, ts, ns, hW, hI⟩ := hrel
   generalize wr = wo at *
   have HW := Lib.hid hW
   have HI := Lib.hid hI
   have BZ := Lib.hid (B2.out.trans (hW.bel.mono B2.out.size))
   clear hW hI
   have j0 : (0 : Int) ≤ (j : Int) := Int.natCast_nonneg _
   by_cases hlt : j < ws.length
   ·have j1 : (j : Int) < (ws.length : Int) := by omega
    obtain ⟨q, bq, oq, hq, rfl, zq, _, q0⟩ := SlT.atW SW.out BZ.out hlt
    obtain ⟨ql, ⟨qp, qn, qc⟩⟩ := q
    obtain rfl : qn = ql.length := SlT.len_eq (OW.out _ (mem_of_at hq)).1
    have QO := Lib.hid (OW.out _ (mem_of_at hq))
    dsimp only at q0
    clear hq
    go_upto_region 9 with fail
    go_cut [14, 15] from 44 to 48 (fun s1 s2 wx => ∃ bp bm, s1 = .slice (some ⟨bp, 0, none⟩) n n ∧ s2 = .slice (some ⟨bm, 0, none⟩) n n ∧ Own wx bp (List.replicate n (.int .i64 0)) 3 ∧ Own wx bm (List.replicate n (.int .i64 0)) 3 ∧ bp ≠ bm ∧ wo.heap.size ≤ bp ∧ wo.heap.size ≤ bm ∧ Below wo.heap.size wo wx)
    case first =>
     have mP : ∀ w, (Instr.makeSlice 29 (.int .i64 (n : Int)) (.int .i64 (n : Int))).run Tryz.prog w = .ok (.slice (some ⟨w.heap.size, 0, none⟩) n n) (w.alloc (.cells (List.replicate n (.int .i64 0)).toArray 3)) := fun w => by have := mk_pi n (by omega) w; rwa [Nat.mul_one] at this
     refine (wpIn_wide (n := 9)).1 ?_
     refine region_S 6 #[false, false, false, false, false, false] (by kernel_rfl) (by kernel_rfl) (fun _ => True) 6 _ (fun _ _ h => h) (fun _ => trivial) (by kernel_rfl) ?x1s (fun hHeld hClo => ?x1r)
     case x1s => exact trivial
     refine tS 0 44 ?_
     clear hClo
     intro hClo
     refine tS 2 46 ?_
     clear hClo
     intro hClo
     refine wpS_two (i := 1) (j := 3) (by kernel_rfl) rfl rfl hClo (fun K hK => ?ya) (fun K hK => ?yb)
     case ya =>
      rw [if_pos (by rfl)]
      go_simp
      refine hK _ _ (fun _ => trivial) ?_
      clear hK K hHeld
      intro hH0
      have hHeld := hH0 (by kernel_rfl)
      clear hH0
      (intro hN; clear hClo; have hClo := hN; clear hN)
      try simp only [Act.put, List.setIfInBounds_toArray, List.set_cons_zero, List.set_cons_succ]
      refine tS 4 14 ?_
      clear hClo
      intro hClo
      refine wpS_one (i := 3) (by kernel_rfl) rfl hClo (fun K hK => ?_)
      rw [if_pos (by rfl)]
      go_simp
      refine hK _ _ (fun _ => trivial) ?_
      clear hK K hHeld
      intro hH0
      have hHeld := hH0 (by kernel_rfl)
      clear hH0
      (intro hN; clear hClo; have hClo := hN; clear hN)
      try simp only [Act.put, List.setIfInBounds_toArray, List.set_cons_zero, List.set_cons_succ]
      refine tS 5 15 ?_
      clear hClo
      intro hClo
      refine wpS_done (by kernel_rfl) ?_ _
      clear hClo
      gi_wp2
      clear mP
      go_meet
      exact ⟨wo.heap.size, wo.heap.size + 1, rfl, rfl, ((own_at _ _ rfl).alloc _).drew, (own_at _ _ (by simp)).drew, by omega, by omega, by omega, ((belowNew wo _).alloc (by simp) _).drew⟩
     case yb =>
      rw [if_pos (by rfl)]
      go_simp
      refine hK _ _ (fun _ => trivial) ?_
      clear hK K hHeld
      intro hH0
      have hHeld := hH0 (by kernel_rfl)
      clear hH0
      (intro hN; clear hClo; have hClo := hN; clear hN)
      try simp only [Act.put, List.setIfInBounds_toArray, List.set_cons_zero, List.set_cons_succ]
      refine wpS_one (i := 1) (by kernel_rfl) rfl hClo (fun K hK => ?_)
      rw [if_pos (by rfl)]
      go_simp
      refine hK _ _ (fun _ => trivial) ?_
      clear hK K hHeld
      intro hH0
      have hHeld := hH0 (by kernel_rfl)
      clear hH0
      (intro hN; clear hClo; have hClo := hN; clear hN)
      try simp only [Act.put, List.setIfInBounds_toArray, List.set_cons_zero, List.set_cons_succ]
      refine tS 4 14 ?_
      clear hClo
      intro hClo
      refine tS 5 15 ?_
      clear hClo
      intro hClo
      refine wpS_done (by kernel_rfl) ?_ _
      clear hClo
      gi_wp2
      clear mP
      go_meet
      exact ⟨wo.heap.size + 1, wo.heap.size, rfl, rfl, (own_at _ _ (by simp)).drew, ((own_at _ _ rfl).alloc _).drew, by omega, by omega, by omega, ((belowNew wo _).alloc (by simp) _).drew⟩
    case rest =>
     obtain ⟨bp, bm, rfl, rfl, op, om, hpm, hbp, hbm, hbel⟩ := hcut
     have J0 := Lib.hid (show TpJ n ql bp bm wo 0 wc from ⟨by rw [rwF_rep _ _ (Value.int .i64 0) (fun i _ => by rw [if_neg (by omega)])]; exact op, by rw [rwF_rep _ _ (Value.int .i64 0) (fun i _ => by rw [if_neg (by omega)])]; exact om, hbel⟩)
     clear op om hbel
     go_wp2_with fail
     go_loopw [49] (fun kk wz => ∃ k : Nat, k ≤ n ∧ kk = .int .i64 k ∧ TpJ n ql bp bm wo k wz) (fun kk _ => n - (intOf kk).toNat)
     case atStart => exact ⟨0, by omega, rfl, J0.out⟩
     case round =>
      clear J0
      obtain ⟨k, hk, rfl, hJ⟩ := hrel
      have HJ := Lib.hid hJ
      clear hJ
      have k0 : (0 : Int) ≤ (k : Int) := Int.natCast_nonneg _
      by_cases hlk : k < n
      ·have k1 : (k : Int) < (n : Int) := by omega
       have cp := HJ.out.1.cell (i := k) (rwF_at _ hlk)
       have fp := HJ.out.1.frozen
       have zp := HJ.out.1.lt
       by_cases hkq : k < ql.length
       ·have k2 : (k : Int) < (ql.length : Int) := by omega
        have BY := BZ.out.trans (HJ.out.2.2.mono BZ.out.size)
        have hna : wo.heap.size ≤ bp := hbp
        obtain ⟨a, bb, ob, ha, rfl, zb, zb0, _⟩ := SlT.atC QO.out.1 BY (i := k) (by show k < ql.length; omega)
        obtain ⟨a0, a1⟩ := QO.out.2 a (mem_of_at ha)
        have nz : ¬ n = 0 := by omega
        have J1 := Lib.hid (show Own (wr.setCell ⟨bp, k, none⟩ (.int .i64 (-1))) bp ((rwF n fun i => Value.int .i64 (if i < k then pvF n ql i else 0)).set k (.int .i64 (-1))) 3 ∧ Own (wr.setCell ⟨bp, k, none⟩ (.int .i64 (-1))) bm (rwF n fun i => Value.int .i64 (if i < k then mvF ql i else 0)) 3 ∧ Below wo.heap.size wo (wr.setCell ⟨bp, k, none⟩ (.int .i64 (-1))) from ⟨HJ.out.1.set k _, HJ.out.2.1.other (a := ⟨bp, k, none⟩) (fun e => hpm e.symm) _, HJ.out.2.2.setCell (p := ⟨bp, k, none⟩) hbp _⟩)
        go_upto_region 15 with fail
        clear cp fp zp
        generalize wr.setCell ⟨bp, k, none⟩ (.int .i64 (-1)) = wa at J1 ⊢
        have GC := Lib.hid (show ∀ wx, Below wo.heap.size wo wx → wx.cell? ⟨bb, ob + k, none⟩ = some (.int .u8 a) from fun wx hbx => by
         obtain ⟨a', b', o', ha', e', _, _, h'⟩ := SlT.atC QO.out.1 (BZ.out.trans (hbx.mono BZ.out.size)) (i := k) (by show k < ql.length; omega)
         obtain rfl := Option.some.inj (ha.symm.trans ha')
         injection e' with e'
         injection e' with e1 e2
         subst e1 e2
         exact h')
        have g0 := GC.out _ J1.out.2.2.drew
        refine (wpIn_wide (n := 9)).1 ?_
        refine region_S 22 #[false, false, false, false, false, false, false, false, false, false, false, false, false, false, false, false, false, false, false, false, false, false] (by kernel_rfl) (by kernel_rfl) (fun w' => w'.cell? ⟨bb, ob + k, none⟩ = some (.int .u8 a)) 22 _ (fun _ _ h => h) (fun _ => trivial) (by kernel_rfl) ?x8s (fun hHeld hClo => ?x8r)
        case x8s => exact g0
        refine tS 0 59 ?_
        clear hClo
        intro hClo
        refine tS 1 60 ?_
        clear hClo
        intro hClo
        refine tS 2 61 ?_
        clear hClo
        intro hClo
        refine tS 3 62 ?_
        clear hClo
        intro hClo
        refine tS 4 63 ?_
        clear hClo
        intro hClo
        refine tS 5 64 ?_
        clear hClo
        intro hClo
        refine tS 6 65 ?_
        clear hClo
        intro hClo
        refine tS 7 66 ?_
        clear hClo
        intro hClo
        refine tS 8 67 ?_
        clear hClo
        intro hClo
        refine tS 9 68 ?_
        clear hClo
        intro hClo
        refine tS 10 69 ?_
        clear hClo
        intro hClo
        refine tS 11 70 ?_
        clear hClo
        intro hClo
        refine tS 12 71 ?_
        clear hClo
        intro hClo
        refine tS 13 72 ?_
        clear hClo
        intro hClo
        refine tS 14 73 ?_
        clear hClo
        intro hClo
        refine tS 15 74 ?_
        clear hClo
        intro hClo
        refine tS 16 75 ?_
        clear hClo
        intro hClo
        refine tS 17 76 ?_
        clear hClo
        intro hClo
        refine tS 18 77 ?_
        clear hClo
        intro hClo
        have ra := J1.out.1
        have fa := ra.frozen
        have za := ra.lt
        have ca := ra.cell (i := k) (x := .int .i64 (-1)) (List.getElem?_set_self (by rw [rwF_len]; exact hlk))
        have p2 := ra.set k (.int .i64 ((IntKind.i64.wrap a).tmod n))
        have m2 := J1.out.2.1.other (a := ⟨bp, k, none⟩) (fun e => hpm e.symm) (.int .i64 ((IntKind.i64.wrap a).tmod n))
        have b2 := J1.out.2.2.setCell (p := ⟨bp, k, none⟩) hbp (.int .i64 ((IntKind.i64.wrap a).tmod n))
        have fb := m2.frozen
        have zb2 := m2.lt
        have cb := m2.cell (i := k) (rwF_at _ hlk)
        have p3 := p2.other (a := ⟨bm, k, none⟩) hpm (.int .i64 ((IntKind.i64.wrap ((IntKind.i64.wrap a).tdiv 16)).tmod 8))
        have m3 := m2.set k (.int .i64 ((IntKind.i64.wrap ((IntKind.i64.wrap a).tdiv 16)).tmod 8))
        have b3 := b2.setCell (p := ⟨bm, k, none⟩) hbm (.int .i64 ((IntKind.i64.wrap ((IntKind.i64.wrap a).tdiv 16)).tmod 8))
        have KEEP2 := GC.out _ b2.drew
        have KEEP3 := GC.out _ b3.drew
        rw [List.set_set] at p3
        have J4 := Lib.hid (TpJ.two p3.drew m3.drew b3.drew hlk (pvF_at ha a0 a1) (mvF_at ha a0 a1))
        clear ra p2 m2 b2 p3 m3 b3
        rw [if_neg (Nat.lt_irrefl k)] at cb
        refine wpS_one (i := 19) (by kernel_rfl) rfl hClo (fun K hK => ?_)
        rw [if_pos (by rfl)]
        go_simp
        refine hK _ _ (fun _ => KEEP2) ?_
        clear hK K hHeld
        intro hH0
        have hHeld := hH0 (by kernel_rfl)
        clear hH0
        (intro hN; clear hClo; have hClo := hN; clear hN)
        try simp only [Act.put, List.setIfInBounds_toArray, List.set_cons_zero, List.set_cons_succ]
        refine tS 20 78 ?_
        clear hClo
        intro hClo
        refine wpS_one (i := 21) (by kernel_rfl) rfl hClo (fun K hK => ?_)
        rw [if_pos (by rfl)]
        go_simp
        refine hK _ _ (fun _ => KEEP3) ?_
        clear hK K hHeld
        intro hH0
        have hHeld := hH0 (by kernel_rfl)
        clear hH0
        (intro hN; clear hClo; have hClo := hN; clear hN)
        try simp only [Act.put, List.setIfInBounds_toArray, List.set_cons_zero, List.set_cons_succ]
        refine wpS_done (by kernel_rfl) ?_ _
        clear hClo
        clear fa za ca fb zb2 cb KEEP2 KEEP3 hHeld g0
        generalize ((wa.setCell ⟨bp, k, none⟩ (.int .i64 ((IntKind.i64.wrap a).tmod n))).setCell ⟨bm, k, none⟩ (.int .i64 ((IntKind.i64.wrap ((IntKind.i64.wrap a).tdiv 16)).tmod 8))).drew = wd at J4 ⊢
        gi_wp2
        go_wp2_with fail
        go_roundw
        case rel => exact ⟨k + 1, by omega, by go_num, J4.out⟩
        case measure => simp [intOf]; omega
       ·have k2 : ¬ (k : Int) < (ql.length : Int) := by omega
        have hn : ql[k]? = none := List.getElem?_eq_none (by omega)
        have J2 := Lib.hid (show TpJ n ql bp bm wo (k + 1) (wr.setCell ⟨bp, k, none⟩ (.int .i64 (-1))) from by
         obtain ⟨q1, q2, q3⟩ := HJ.out
         refine ⟨?_, ?_, q3.setCell (p := ⟨bp, k, none⟩) hbp _⟩
         ·have h9 := q1.set k (.int .i64 (-1))
          rwa [rwF_put hlk (by unfold pvF; rw [hn])] at h9
         ·have h9 := q2.other (a := ⟨bp, k, none⟩) (fun e => hpm e.symm) (.int .i64 (-1))
          rwa [rwF_same (by unfold mvF; rw [hn])] at h9)
        skip
        go_wp2_with fail
        go_roundw
        case rel => exact ⟨k + 1, by omega, by go_num, J2.out⟩
        case measure => simp [intOf]; omega
      ·have k1 : ¬ (k : Int) < (n : Int) := by omega
       have HJN := Lib.hid (show TpJ n ql bp bm wo n wr from by
        have h9 := HJ.out
        rwa [show k = n by omega] at h9)
       have WY := Lib.hid (HW.out.below HJ.out.2.2)
       clear HJ
       obtain ⟨w0c, w1c, w2c, w3c, w4c, w5c, _, zW⟩ := own6 WY.out.oW
       go_wp2_with fail
       refine (frm_tp w2 bO bW bT bN bp bm D n j B (mtx (hs.map Hr.h)) T R ts ns ql wo wr WY.out HH.out HJN.out HI.out n8 (by omega)).mono ?_
       rintro e w5 ⟨rfl, T5, R5, ts5, ns5, hW5, hI5, hQ5⟩
       have W5 := Lib.hid hW5
       have I5 := Lib.hid hI5
       have Q5 := Lib.hid hQ5
       clear hW5 hI5 hQ5 w0c w1c w2c w3c w4c w5c zW WY HJN HW HI
       go_upto_region 19 with fail
       obtain ⟨_, _, c2, c3, _, _, _, _⟩ := own6 W5.out.oW.drew
       have KEEP := And.intro c2 c3
       clear c2 c3
       refine (wpIn_wide (n := 9)).1 ?_
       refine region_S 12 #[false, false, false, false, false, false, false, false, false, false, false, false] (by kernel_rfl) (by kernel_rfl) (fun w' => w'.cell? ⟨bW, 2, none⟩ = some (.slice (some ⟨bO, 0, none⟩) n n) ∧ w'.cell? ⟨bW, 3, none⟩ = some (.slice (some ⟨bT, 0, none⟩) n n)) 12 _ (fun _ _ h => h) (fun _ => trivial) (by kernel_rfl) ?x29s (fun hHeld hClo => ?x29r)
       case x29s => exact KEEP
       refine tS 0 88 ?_
       clear hClo
       intro hClo
       refine tS 1 89 ?_
       clear hClo
       intro hClo
       refine tS 2 90 ?_
       clear hClo
       intro hClo
       refine tS 3 91 ?_
       clear hClo
       intro hClo
       refine tS 4 92 ?_
       clear hClo
       intro hClo
       refine tS 5 93 ?_
       clear hClo
       intro hClo
       refine tS 6 94 ?_
       clear hClo
       intro hClo
       refine tS 7 95 ?_
       clear hClo
       intro hClo
       refine tS 8 96 ?_
       clear hClo
       intro hClo
       refine wpS_one (i := 9) (by kernel_rfl) rfl hClo (fun K hK => ?_)
       rw [if_pos (by rfl)]
       go_simp
       refine ⟨trivial, callsIn_wide.2 ((cls_tp w2 bO bW bT bN D n j (n * (j + 1)) B (mtx (hs.map Hr.h)) T5 R5 ts5 ns5 _ _ (W5.out.below (Below.refl _ _).drew) HH.out I5.out Q5.out n8).mono ?_)⟩
       rintro e wv ⟨p9, c9, rfl, hb9⟩
       have BV := Lib.hid (belowTo (Below.refl w5.heap.size w5).drew hb9 (Nat.le_refl _))
       have WV := Lib.hid (W5.out.below BV.out)
       obtain ⟨_, _, c2, c3, _, _, _, _⟩ := own6 WV.out.oW
       have KEEP2 := And.intro c2 c3
       clear c2 c3 hb9
       refine hK _ _ (fun _ => KEEP2) ?_
       clear hK K hHeld
       intro hH0
       have hHeld := hH0 (by kernel_rfl)
       clear hH0
       (intro hN; clear hClo; have hClo := hN; clear hN)
       try simp only [Act.put, List.setIfInBounds_toArray, List.set_cons_zero, List.set_cons_succ]
       refine tS 10 98 ?_
       clear hClo
       intro hClo
       refine tS 11 99 ?_
       clear hClo
       intro hClo
       refine wpS_done (by kernel_rfl) ?_ _
       clear hClo
       clear hHeld KEEP KEEP2 Q5 W5 BV
       gi_wp2
       obtain ⟨_, _, _, c3, _, _, _, zW⟩ := own6 WV.out.oW
       go_wp2_with fail
       clear c3 zW
       go_loopw [105] (fun ii wz => ∃ i : Nat, i ≤ n ∧ ii = .int .i64 i ∧ Below wv.heap.size wv wz) (fun ii _ => n - (intOf ii).toNat)
       case atStart => exact ⟨0, by omega, rfl, Below.refl _ _⟩
       case round =>
        obtain ⟨i, hi, rfl, hbi⟩ := hrel
        have BI := Lib.hid hbi
        clear hbi
        have i0 : (0 : Int) ≤ (i : Int) := Int.natCast_nonneg _
        by_cases hli : i < n
        ·have i1 : (i : Int) < (n : Int) := by omega
         have WI := Lib.hid (WV.out.below BI.out)
         obtain ⟨r, hr, _, _, t0, t1, t2⟩ := WI.out.tabAt hli
         have HR := Lib.hid hr
         obtain ⟨rt, ⟨pu, nu, cu⟩, ⟨pg, ng, cg⟩, ⟨pa, na, ca⟩⟩ := r
         dsimp only at t0 t1 t2
         have zT := WI.out.oT.lt
         clear hr
         go_upto_region 24 with fail
         clear t0 t1 t2 zT
         have OX := Lib.hid (show Own (wr.alloc (Obj.cells #[.slice pu nu cu, .slice pg ng cg, .slice pa na ca] 43)).drew wr.heap.size [.slice pu nu cu, .slice pg ng cg, .slice pa na ca] 43 from (own_at _ _ rfl).drew)
         have BX := Lib.hid (show Below wr.heap.size wr (wr.alloc (Obj.cells #[.slice pu nu cu, .slice pg ng cg, .slice pa na ca] 43)).drew from (belowNew wr _).drew)
         obtain ⟨x0, x1, x2, _, _⟩ := own3 OX.out
         obtain ⟨c0, c1, _, _, _, _, _, _⟩ := own6 (WI.out.below BX.out).oW
         have KEEP := And.intro x0 (And.intro x1 (And.intro x2 (And.intro c0 c1)))
         clear x0 x1 x2 c0 c1
         refine (wpIn_wide (n := 9)).1 ?_
         refine region_S 7 #[false, false, false, false, false, false, false] (by kernel_rfl) (by kernel_rfl) (fun w' => w'.cell? ⟨wr.heap.size, 0, none⟩ = some (.slice pu nu cu) ∧ w'.cell? ⟨wr.heap.size, 1, none⟩ = some (.slice pg ng cg) ∧ w'.cell? ⟨wr.heap.size, 2, none⟩ = some (.slice pa na ca) ∧ w'.cell? ⟨bW, 0, none⟩ = some (.int .i64 n) ∧ w'.cell? ⟨bW, 1, none⟩ = some (.int .i64 D)) 7 _ (fun _ _ h => h) (fun _ => trivial) (by kernel_rfl) ?x41s (fun hHeld hClo => ?x41r)
         case x41s => exact KEEP
         refine tS 0 109 ?_
         clear hClo
         intro hClo
         refine tS 1 110 ?_
         clear hClo
         intro hClo
         refine tS 2 111 ?_
         clear hClo
         intro hClo
         refine tS 3 112 ?_
         clear hClo
         intro hClo
         refine tS 4 113 ?_
         clear hClo
         intro hClo
         refine wpS_one (i := 5) (by kernel_rfl) rfl hClo (fun K hK => ?_)
         rw [if_pos (by rfl)]
         go_simp
         refine ⟨trivial, callsIn_wide.2 ((vld_tp w2 bW bT bN D n (n * (j + 1)) i ⟨some ⟨bO, 0, none⟩, n, n⟩ T5 R5 ts5 ns5 _ ⟨rt, ⟨pu, nu, cu⟩, ⟨pg, ng, cg⟩, ⟨pa, na, ca⟩⟩ wr _ WI.out I5.out HR.out BX.out).mono ?_)⟩
         rintro e wn ⟨rfl, hbn⟩
         have BN := Lib.hid (belowTo BX.out hbn BX.out.size)
         obtain ⟨x0, x1, x2, _, _⟩ := own3 (OX.out.below hbn)
         obtain ⟨c0, c1, _, _, _, _, _, _⟩ := own6 (WI.out.below BN.out).oW
         have KEEP2 := And.intro x0 (And.intro x1 (And.intro x2 (And.intro c0 c1)))
         clear x0 x1 x2 c0 c1 hbn
         refine hK _ _ (fun _ => KEEP2) ?_
         clear hK K hHeld
         intro hH0
         have hHeld := hH0 (by kernel_rfl)
         clear hH0
         (intro hN; clear hClo; have hClo := hN; clear hN)
         try simp only [Act.put, List.setIfInBounds_toArray, List.set_cons_zero, List.set_cons_succ]
         refine tS 6 115 ?_
         clear hClo
         intro hClo
         refine wpS_done (by kernel_rfl) ?_ _
         clear hClo
         clear hHeld KEEP KEEP2
         have BE := Lib.hid (BI.out.trans (BN.out.mono BI.out.size))
         clear BN BX OX
         gi_wp2
         go_wp2_with fail
         go_roundw
         case rel => exact ⟨i + 1, by omega, by go_num, BE.out⟩
         case measure => simp [intOf]; omega
        ·have i1 : ¬ (i : Int) < (n : Int) := by omega
         have I6 := Lib.hid (show TpI w2 bW bT bN D n ⟨some ⟨bO, 0, none⟩, n, n⟩ (j + 1) wr from ⟨T5, R5, ts5, ns5, WV.out.below BI.out, I5.out⟩)
         clear BI WV I5
         go_wp2_with fail
         go_roundw
         case rel => exact ⟨j + 1, by omega, by go_num, I6.out⟩
         case measure => simp [intOf]; omega
   ·go_wp2_with fail
    go_ret
    exact ⟨rfl, BZ.out⟩
end Go.Proofs.YtmopiifamopidaaGreat
end

/- Regions that draw their order; clashes in plain lists; what note does. No condition but those named. -/
import Derived.Test.YtmopiifamopidaaGreatPK
import Derived.RangeFuncNested
import Derived.RangeFuncBound
import Derived.RangeFuncCalls
import Derived.RangeFuncLeaves
import Derived.Shelf.Abstract
import Derived.Shelf.RegionOpen
import Derived.OwnWalkIn
import Derived.TacticsInMore
import Derived.LoopNIn
import Derived.LoopIn
import Derived.Sort.QuietTacIn
import Derived.Test.YtmopiifamopidaaGreatPA
import Derived.Maps.Own
import Derived.DeepKeys4
import Derived.Test.YtmopiifamopidaaGreatPI
import Derived.Outline
set_option linter.unusedVariables false
set_option linter.unusedSimpArgs false
section
namespace Go.Proofs.YtmopiifamopidaaGreat
open Go.RowKit
def Nor (K : Act → World → Prop) : Exit → Act → World → Prop
 | .normal, a, w => K a w
 | _, _, _ => False
def deferB : Op → Bool
 | .defer _ => true
 | _ => false
def noDefer (ops : Array Oper) : Bool := ops.toList.all fun o => !deferB o.op
theorem noDefer_spec {ops : Array Oper} (h : noDefer ops = true) {i : Nat} {o : Oper} (ho : ops[i]? = some o) : ∀ c, o.op ≠ .defer c := by
 intro c hc
 have hm : o ∈ ops.toList := by
  rw [← Array.getElem?_toList] at ho
  exact List.mem_of_getElem? ho
 have := List.all_eq_true.1 h o hm
 rw [hc] at this
 cases this
end Go.Proofs.YtmopiifamopidaaGreat
end
section
namespace Go.Proofs.YtmopiifamopidaaGreat
open Go.RowKit
section
variable {F : Fence} {n : Nat} {P : Program} {ops : Array Oper} {R : Act → World → Prop} {md : Region.Mode} {S : World → Prop}
theorem uponIn_map {o : Oper} {a b : Act} {K K' : Act → World → Prop} {r : Result Next} (hd : ∀ d w', K ({ b with defers := d :: b.defers }.put o.dst undef) w' → K' ({ a with defers := d :: a.defers }.put o.dst undef) w') (hk : ∀ u w', K (b.put o.dst u) w' → K' (a.put o.dst u) w')
  (h : o.uponIn F n P b K (Nor R) r) : o.uponIn F n P a K' (Nor R) r := by
 cases r with
 | halt x w' => cases x <;> exact False.elim h
 | ok x w' =>
  cases x
  case value u => exact hk u w' h
  case skip => exact hk _ w' h
  case defer d => exact hd d w' h
  case enter f args => exact ⟨h.1, h.2.mono fun e w'' he => by cases e <;> first | exact hk _ _ he | exact he⟩
  case row row args => exact ⟨h.1, h.2.mono fun u w'' he => hk u w'' he⟩
  case round l f ts x1 x2 => exact ⟨h.1, h.2.mono fun e w'' he => by cases e <;> first | exact hk _ _ he | exact he⟩
  all_goals exact False.elim h
def wpS (F : Fence) (n : Nat) (P : Program) (md : Region.Mode) (ops : Array Oper) (R : Act → World → Prop) (S : World → Prop) (c : Nat) : Nat → Array Bool → Act → World → Prop
 | 0, listed, a, w => Region.ready md ops listed = [] ∧ R a w
 | fuel + 1, listed, a, w => (Region.ready md ops listed = [] → R a w) ∧ ∀ i ∈ Region.ready md ops listed, wpOpIn F n P ops (Nor R) i (fun a' w' => ((listed.setIfInBounds i true).getD c false = false → S w') ∧ wpS F n P md ops R S c fuel (listed.setIfInBounds i true) a' w') a w
theorem wpS_any {c : Nat} (hF : ∀ f, F.fn f) : ∀ (fuel : Nat) (listed : Array Bool) (a : Act) (w : World), wpS F n P md ops R S c fuel listed a w → wpAnyIn F n P md ops (Nor R) fuel listed a w
 | 0, _, _, _, h => h
 | fuel + 1, _, _, _, h => ⟨h.1, fun i hi => wpOpIn_mono (fun _ _ k => wpS_any hF fuel _ _ _ k.2) (h.2 i hi)⟩
def befB (md : Region.Mode) (ops : Array Oper) (i : Nat) : Nat → Nat → Bool
 | 0, _ => false
 | f + 1, c => match ops[c]? with
  | none => false
  | some o => o.after.toList.any fun e => Region.binds md e && (e.on == i || befB md ops i f e.on)
def Clo (md : Region.Mode) (ops : Array Oper) (listed : Array Bool) : Prop := listed.size = ops.size ∧ ∀ k o, ops[k]? = some o → listed.getD k true = true → ∀ e ∈ o.after, Region.binds md e = true → listed.getD e.on false = true
theorem clo_start : Clo md ops (Array.replicate ops.size false) := ⟨by simp, fun k o ho h => by
 have := (Array.getElem?_eq_some_iff.1 ho).1
 simp [this] at h⟩
theorem clo_step {listed : Array Bool} {j : Nat} (h : Clo md ops listed) (hj : j ∈ Region.ready md ops listed) : Clo md ops (listed.setIfInBounds j true) := ⟨by simpa using h.1, fun k o ho hk e he hb => by
 obtain ⟨_, oj, hoj, hall⟩ := mem_ready.1 hj
 rcases Nat.decEq j k with c | c
 ·rw [getD_set_ne true c] at hk
  exact getD_set_true (h.2 k o ho hk e he hb)
 ·subst c
  rw [hoj] at ho
  cases ho
  exact getD_set_true (hall e he hb)⟩
theorem bef_listed {listed : Array Bool} {i : Nat} (h : Clo md ops listed) : ∀ (f k : Nat) (o : Oper), ops[k]? = some o → befB md ops i f k = true → (∀ e ∈ o.after, Region.binds md e = true → listed.getD e.on false = true) → listed.getD i false = true
 | 0, _, _, _, hb, _ => by cases hb
 | f + 1, k, o, ho, hb, hall => by
  simp only [befB, ho] at hb
  obtain ⟨e, he, hb⟩ := List.any_eq_true.1 hb
  rw [Bool.and_eq_true, Bool.or_eq_true] at hb
  have hl := hall e (by simpa using he) hb.1
  rcases hb.2 with c | c
  ·rw [beq_iff_eq] at c; rw [← c]; exact hl
  ·cases ho2 : ops[e.on]? with
   | none => cases f <;> simp [befB, ho2] at c
   | some o2 =>
    refine bef_listed h f e.on o2 ho2 c (h.2 e.on o2 ho2 ?_)
    by_cases hlt : e.on < listed.size
    ·simpa [hlt] using hl
    ·simp [hlt] at hl
theorem bef_ready {listed : Array Bool} {i c f : Nat} (h : Clo md ops listed) (hb : befB md ops i f c = true) (hc : c ∈ Region.ready md ops listed) : listed.getD i false = true := by
 obtain ⟨_, o, ho, hall⟩ := mem_ready.1 hc
 exact bef_listed h f c o ho hb hall
theorem nor_imp {Q : Exit → Act → World → Prop} (hR : ∀ a w, R a w → Q .normal a w) : ∀ e a w, Nor R e a w → Q e a w
 | .normal, a, w, h => hR a w h
 | .exit _, _, _, h => h.elim
 | .goto _, _, _, h => h.elim
 | .ret, _, _, h => h.elim
 | .panic _, _, _, h => h.elim
 | .outgrown, _, _, h => h.elim
theorem region_S {id : Nat} {Q : Exit → Act → World → Prop} {a : Act} {w : World} (sz : Nat) (l0 : Array Bool) (hsz : ops.size = sz) (hl0 : Array.replicate sz false = l0) (S : World → Prop) (c : Nat) (R : Act → World → Prop) (hR : ∀ a w, R a w → Q .normal a w) (hF : ∀ f, F.fn f) (hm : P.follows .mixedOrders = true) (hS : S w.drew)
  (h : S w.drew → Hid (Clo .any ops l0) → wpS F n P .any ops R S c sz l0 a w.drew) : (Code.region id ops true).wpIn F n P Q a w := by
 subst hsz hl0
 exact Code.wpIn_mono (nor_imp hR) (wpIn_region_any hm (wpS_any hF _ _ _ _ (h hS (Lib.hid clo_start))))
theorem opS_now {i : Nat} {o : Oper} {v : Value} {a : Act} {w : World} {K : Act → World → Prop} (hF : ∀ f, F.fn f) (hd : noDefer ops = true) (hi : ops[i]? = some o) (hy : YieldsIf P ops S o v a) (hS : S w) (h : K (a.put o.dst v) w) : wpOpIn F n P ops (Nor R) i K a w := by
 unfold wpOpIn
 simp only [hi]
 rcases hy with ⟨hw, hv⟩ | ⟨hw, rfl⟩
 ·simp only [hw, if_true]
  refine ⟨fun f _ => hF f, ?_⟩
  rw [Oper.semAt_plain F _ _ (noDefer_spec hd hi), hv w hS]
  exact h
 ·simp only [hw, Bool.false_eq_true, if_false]
  exact ⟨fun f _ => hF f, h⟩
theorem opS_put {j : Nat} {oi oj : Oper} {v : Value} {a : Act} {w : World} {K : Act → World → Prop} (hF : ∀ f, F.fn f) (hd : noDefer ops = true) (hs : Region.noSelect ops = true) {i : Nat} (hi : ops[i]? = some oi) (hj : ops[j]? = some oj) (hap : oi.apart ops oj = true)
  (hy : YieldsIf P ops S oi v a) (h : wpOpIn F n P ops (Nor R) j K (a.put oi.dst v) w) : wpOpIn F n P ops (Nor R) j (fun a' w' => YieldsIf P ops S oi v a' ∧ K (a'.put oi.dst v) w') a w := by
 obtain ⟨p1, p2, p3⟩ := Oper.apart_spec hap
 have keep : ∀ u, YieldsIf P ops S oi v (a.put oj.dst u) := fun u =>
  hy.of_same (execOp_put oi (fun cs b => Region.noSelect_spec hs i oi cs b hi) a oj.dst u p3) (wanted_put oi a oj.dst u p3)
 unfold wpOpIn at h ⊢
 simp only [hj, wanted_put oj a oi.dst v p1] at h ⊢
 split
 ·rename_i hw
  simp only [hw, if_true] at h
  have h2 := h.2
  rw [Oper.semAt_plain F _ _ (noDefer_spec hd hj), execOp_put oj (fun cs b => Region.noSelect_spec hs j oj cs b hj) a oi.dst v p1] at h2
  refine ⟨fun f _ => hF f, ?_⟩
  rw [Oper.semAt_plain F _ _ (noDefer_spec hd hj)]
  exact uponIn_map (fun d w' hk => ⟨hy.of_same (execOp_put oi (fun cs b => Region.noSelect_spec hs i oi cs b hi) { a with defers := d :: a.defers } oj.dst undef p3) (wanted_put oi { a with defers := d :: a.defers } oj.dst undef p3), by rw [← Act.put_comm _ v undef p2, ← Act.put_defers]; exact hk⟩) (fun u w' hk => ⟨keep u, by rw [← Act.put_comm a v u p2]; exact hk⟩) h2
 ·rename_i hw
  simp only [hw] at h
  exact ⟨fun f _ => hF f, keep _, by rw [← Act.put_comm a v undef p2]; exact h.2⟩
theorem wpS_first {i c : Nat} {oi : Oper} {v : Value} (hF : ∀ f, F.fn f) (hd : noDefer ops = true) (hs : Region.noSelect ops = true) (hi : ops[i]? = some oi) (hnc : i ≠ c) (hic : c = ops.size ∨ ∃ f, befB md ops i f c = true) : ∀ (fuel : Nat) (listed : Array Bool) (a : Act) (w : World), Clo md ops listed →
  (∀ j oj, ops[j]? = some oj → j ≠ i → listed.getD j true = false → (∀ e ∈ oj.after, Region.binds md e = true → e.on ≠ i) → oi.apart ops oj = true) →
  i ∈ Region.ready md ops listed → YieldsIf P ops S oi v a → S w → wpS F n P md ops R S c fuel (listed.setIfInBounds i true) (a.put oi.dst v) w → wpS F n P md ops R S c (fuel + 1) listed a w := by
 intro fuel
 induction fuel with
 | zero =>
  intro listed a w _ _ hr hy hS H
  refine ⟨(fun e => by rw [e] at hr; cases hr), fun j hj => ?_⟩
  rcases Nat.decEq j i with e | e
  ·have := ready_mono hj e
   rw [H.1] at this; cases this
  ·subst e; exact opS_now hF hd hi hy hS ⟨fun _ => hS, H⟩
 | succ fuel ih =>
  intro listed a w hclo hfree hr hy hS H
  refine ⟨(fun e => by rw [e] at hr; cases hr), fun j hj => ?_⟩
  rcases Nat.decEq j i with e | e
  ·obtain ⟨hjun, oj, hoj, hall⟩ := mem_ready.1 hj
   have h0 := (mem_ready.1 hr).1
   have hil : ¬ listed.getD i false = true := fun h1 => by
    by_cases hlt : i < listed.size
    ·simp [hlt] at h0 h1; simp [h0] at h1
    ·simp [hlt] at h1
   have hjc : (listed.setIfInBounds j true).getD c false = false := by
    rcases hic with h | ⟨f, h⟩
    ·have := hclo.1
     simp [show ¬ c < listed.size by omega]
    ·cases ec : ops[c]? with
     | none => cases f <;> simp [befB, ec] at h
     | some oc =>
      have hcl := (Array.getElem?_eq_some_iff.1 ec).1
      have hjc : j ≠ c := fun e2 => hil (bef_ready hclo h (e2 ▸ hj))
      rw [getD_set_ne false hjc]
      cases hc : listed.getD c false with
      | false => rfl
      | true => exact absurd (bef_listed hclo f c oc ec h (hclo.2 c oc ec (by
        have := hclo.1
        simpa [show c < listed.size by omega] using hc))) hil
   have hjc2 : ((listed.setIfInBounds i true).setIfInBounds j true).getD c false = false := by
    rw [Array.setIfInBounds_comm _ _ (Ne.symm e), getD_set_ne false hnc]; exact hjc
   have hno : ∀ e ∈ oj.after, Region.binds md e = true → e.on ≠ i := fun e he hb heq => hil (by rw [← heq]; exact hall e he hb)
   have h2 := opS_put hF hd hs hi hoj (hfree j oj hoj e hjun hno) hy (H.2 j (ready_mono hj e))
   refine wpOpIn_mono (fun a' w' k => ⟨fun _ => k.2.1 hjc2, ih _ a' w' (clo_step hclo hj) (fun x ox hx hxi hun hn => hfree x ox hx hxi ?_ hn) (ready_mono hr (Ne.symm e)) k.1 (k.2.1 hjc2) ?_⟩) h2
   ·rcases Nat.decEq j x with e | e
    ·rwa [getD_set_ne true e] at hun
    ·subst e; exact hjun
   ·rw [Array.setIfInBounds_comm _ _ e]; exact k.2.2
  ·subst e; exact opS_now hF hd hi hy hS ⟨fun _ => hS, H⟩
theorem wpS_take {i c : Nat} (dst : Option Tmp) (f : Nat) {oi : Oper} {v : Value} {fuel : Nat} {listed : Array Bool} {a : Act} {w : World} (hF : ∀ f, F.fn f) (hd : noDefer ops = true) (hi : ops[i]? = some oi) (hs : Region.noSelect ops = true) (hf : Region.free md ops listed i = true) (hr : (Region.ready md ops listed).contains i = true)
  (hic : (!(i == c) && (c == ops.size || befB md ops i f c)) = true) (hdst : oi.dst = dst) (hy : YieldsIf P ops S oi v a) (hS : S w) (hclo : Hid (Clo md ops listed)) (h : Hid (Clo md ops (listed.setIfInBounds i true)) → wpS F n P md ops R S c fuel (listed.setIfInBounds i true) (a.put dst v) w) : wpS F n P md ops R S c (fuel + 1) listed a w := by
 subst hdst
 rw [Bool.and_eq_true, Bool.or_eq_true, beq_iff_eq, Bool.not_eq_true', beq_eq_false_iff_ne] at hic
 refine wpS_first hF hd hs hi hic.1 ?_ fuel listed a w hclo.out (Region.free_spec hi hf) (by simpa using hr) hy hS (h (Lib.hid (clo_step hclo.out (by simpa using hr))))
 exact hic.2.imp id fun h => ⟨f, h⟩
theorem wpS_one {i c : Nat} {o : Oper} {fuel : Nat} {listed : Array Bool} {a : Act} {w : World} (hr : Region.ready md ops listed = [i]) (ho : ops[i]? = some o) (hclo : Hid (Clo md ops listed))
  (h : ∀ K : Act → World → Prop, (∀ a w, ((listed.setIfInBounds i true).getD c false = false → S w) → (((listed.setIfInBounds i true).getD c false = false → S w) → Hid (Clo md ops (listed.setIfInBounds i true)) → wpS F n P md ops R S c fuel (listed.setIfInBounds i true) a w) → K a w) → if Region.wanted o (yielded ops a.tmps) = true then Oper.wpIn F n P o a w K (Nor R) else (∀ f, o.about P w a.eval = some f → F.fn f) ∧ K (a.put o.dst undef) w) :
  wpS F n P md ops R S c (fuel + 1) listed a w := by
 refine ⟨(fun e => by rw [e] at hr; cases hr), fun j hj => ?_⟩
 rw [hr, List.mem_singleton] at hj
 subst hj
 unfold wpOpIn
 rw [ho]
 exact h _ (fun a w hS k => ⟨hS, k hS (Lib.hid (clo_step hclo.out (by rw [hr]; exact List.mem_singleton.2 rfl)))⟩)
theorem wpS_two {i j c : Nat} {o o2 : Oper} {fuel : Nat} {listed : Array Bool} {a : Act} {w : World} (hr : Region.ready md ops listed = [i, j]) (ho : ops[i]? = some o) (ho2 : ops[j]? = some o2) (hclo : Hid (Clo md ops listed))
  (h : ∀ K : Act → World → Prop, (∀ a w, ((listed.setIfInBounds i true).getD c false = false → S w) → (((listed.setIfInBounds i true).getD c false = false → S w) → Hid (Clo md ops (listed.setIfInBounds i true)) → wpS F n P md ops R S c fuel (listed.setIfInBounds i true) a w) → K a w) → if Region.wanted o (yielded ops a.tmps) = true then Oper.wpIn F n P o a w K (Nor R) else (∀ f, o.about P w a.eval = some f → F.fn f) ∧ K (a.put o.dst undef) w)
  (h2 : ∀ K : Act → World → Prop, (∀ a w, ((listed.setIfInBounds j true).getD c false = false → S w) → (((listed.setIfInBounds j true).getD c false = false → S w) → Hid (Clo md ops (listed.setIfInBounds j true)) → wpS F n P md ops R S c fuel (listed.setIfInBounds j true) a w) → K a w) → if Region.wanted o2 (yielded ops a.tmps) = true then Oper.wpIn F n P o2 a w K (Nor R) else (∀ f, o2.about P w a.eval = some f → F.fn f) ∧ K (a.put o2.dst undef) w) :
  wpS F n P md ops R S c (fuel + 1) listed a w := by
 refine ⟨(fun e => by rw [e] at hr; cases hr), fun k hk => ?_⟩
 have hk' := hk
 rw [hr, List.mem_cons, List.mem_singleton] at hk
 rcases hk with rfl | rfl
 ·unfold wpOpIn
  rw [ho]
  exact h _ (fun a w hS k => ⟨hS, k hS (Lib.hid (clo_step hclo.out hk'))⟩)
 ·unfold wpOpIn
  rw [ho2]
  exact h2 _ (fun a w hS k => ⟨hS, k hS (Lib.hid (clo_step hclo.out hk'))⟩)
theorem wpS_done {c : Nat} {listed : Array Bool} {a : Act} {w : World} (hr : Region.ready md ops listed = []) (h : R a w) : ∀ fuel, wpS F n P md ops R S c fuel listed a w
 | 0 => ⟨hr, h⟩
 | _ + 1 => ⟨fun _ => h, by rw [hr]; simp⟩
end
end Go.Proofs.YtmopiifamopidaaGreat
end
section
namespace Go.Proofs.YtmopiifamopidaaGreat
open Go.RowKit
section
variable {F : Fence} {n : Nat} {P : Program} {ops : Array Oper} {R : Act → World → Prop} {md : Region.Mode} {S : World → Prop}
theorem tS (i d : Nat) {c : Nat} {oi : Oper} {v : Value} {fuel : Nat} {listed l' : Array Bool} {a a' : Act} {w : World} (h : Hid (Clo md ops l') → wpS F n P md ops R S c fuel l' a' w) (hS : S w := by exact hHeld) (hclo : Hid (Clo md ops listed) := by exact hClo) (hi : ops[i]? = some oi := by rfl) (hdst : oi.dst = some d := by rfl) (hF : ∀ f, F.fn f := by exact fun _ => trivial)
  (hd : noDefer ops = true := by kernel_rfl) (hs : Region.noSelect ops = true := by kernel_rfl) (hf : Region.free md ops listed i = true := by kernel_rfl) (hr : (Region.ready md ops listed).contains i = true := by kernel_rfl)
  (hic : (!(i == c) && (c == ops.size || befB md ops i 60 c)) = true := by kernel_rfl) (hw : Region.wanted oi (yielded ops a.tmps) = true := by rfl)
  (hv : ∀ w, S w → (execOp a.eval oi).run P w = .ok (.value v) w := by (intro w hSw; (try dsimp only at hSw); go_simp; try with_reducible rfl))
  (hp : a.put (some d) v = a' := by ((try simp only [Act.put, List.setIfInBounds_toArray, List.set_cons_zero, List.set_cons_succ]); rfl))
  (hl : listed.setIfInBounds i true = l' := by ((try simp only [List.setIfInBounds_toArray, List.set_cons_zero, List.set_cons_succ]); rfl))
  : wpS F n P md ops R S c (fuel + 1) listed a w := by
 subst hp hl
 exact wpS_take (some d) 60 hF hd hi hs hf hr hic hdst (Or.inl ⟨hw, hv⟩) hS hclo h
end
end Go.Proofs.YtmopiifamopidaaGreat
end
section
namespace Go.Proofs.YtmopiifamopidaaGreat
open Go.RowKit Go.Maps
theorem laidP : laidOutB Tryz.prog = true := by kernel_rfl
theorem cellK : Keyed Tryz.prog 48 := Keyed.of_law (deep_law_laid laidP (m := 3) (by decide) (of_decide_eq_true (by kernel_rfl)) (by kernel_rfl) (by kernel_rfl))
def celL (s o : Int) : Lit := .string (keyBytes [.int .i64 s, .int .i64 o])
theorem cell_fields : ∃ fs : Array Field, Tryz.prog.underlying 48 = some (.struct fs) ∧ fs.toList.map (·.type) = [3, 3] ∧ fs.toList.map (·.offset) = [0, 1] ∧ fs.all (·.name != "_") = true := ⟨_, Tryz.underlying48, by kernel_rfl, by kernel_rfl, by kernel_rfl⟩
theorem keyLits_int_mk {d : Nat} {t : TypeId} {q : IntKind} (hu : Tryz.prog.underlying t = some (.int q)) {n : Int} (hw : (Lit.int q n).wf = true) : Tryz.prog.keyLits (d + 1) t [.int q n] = some [.int q n] := by
 unfold Program.keyLits
 simp [hu, hw]
theorem keyOf_cell {s o : Int} (hs : (Lit.int .i64 s).wf = true) (ho : (Lit.int .i64 o).wf = true) : keyOf Tryz.prog 48 (.agg #[.int .i64 s, .int .i64 o]) = some (celL s o) := by
 obtain ⟨fs, hu, ht, hf, hn⟩ := cell_fields
 obtain ⟨m, hm⟩ : ∃ m, Tryz.prog.types.size = m + 1 := ⟨Tryz.prog.types.size - 1, by kernel_rfl⟩
 have hk : Tryz.prog.keyType 48 = true := by kernel_rfl
 have hc : Tryz.prog.cellsOf 48 = 2 := by kernel_rfl
 have hi : Tryz.prog.cellsOf 3 = 1 := by kernel_rfl
 unfold keyOf
 rw [hu]
 simp only []
 have hfm : (Value.agg #[.int .i64 s, .int .i64 o]).formed Tryz.prog 48 = true := by
  unfold Value.formed
  rw [hu]
  simp [hc]
 rw [hk, hfm]
 simp only [Bool.and_self, if_true]
 have hl : Tryz.prog.keyLits (Tryz.prog.types.size + 1) 48 (Value.agg #[.int .i64 s, .int .i64 o]).cells.toList = some [.int .i64 s, .int .i64 o] := by
  rw [hm]
  unfold Program.keyLits
  rw [hu]
  have hfs : ∃ f0 f1 : Field, fs.toList = [f0, f1] := by
   have hlen := congrArg List.length ht
   rw [List.length_map] at hlen
   cases e : fs.toList with
   | nil => rw [e] at hlen; cases hlen
   | cons f0 l =>
    cases l with
    | nil => rw [e] at hlen; cases hlen
    | cons f1 l =>
     cases l with
     | nil => exact ⟨f0, f1, rfl⟩
     | cons f2 l => rw [e] at hlen; simp at hlen
  obtain ⟨f0, f1, hfs⟩ := hfs
  rw [hfs] at ht hf
  simp only [List.map_cons, List.map_nil, List.cons.injEq, and_true] at ht hf
  dsimp only [Value.cells]
  rw [hfs]
  simp only [hc, hn, List.length_cons, List.length_nil, and_self, if_true, List.mapM_cons, List.mapM_nil, ht.1, ht.2, hf.1, hf.2, hi, List.drop_zero, List.take_succ_cons, List.take_zero, List.drop_succ_cons]
  rw [keyLits_int_mk Tryz.underlying3 hs, keyLits_int_mk Tryz.underlying3 ho]
  rfl
 rw [hl]
 rfl
theorem celL_inj {s o s2 o2 : Int} (hs : (Lit.int .i64 s).wf = true) (ho : (Lit.int .i64 o).wf = true) (hs2 : (Lit.int .i64 s2).wf = true) (ho2 : (Lit.int .i64 o2).wf = true) (h : celL s o = celL s2 o2) : s = s2 ∧ o = o2 := by
 have := cellK.inj (keyOf_cell hs ho) (h ▸ keyOf_cell hs2 ho2)
 simpa using this
theorem celL_key {s o : Int} (hs : (Lit.int .i64 s).wf = true) (ho : (Lit.int .i64 o).wf = true) : WideAt.IsKeyLit (celL s o) := cellK.key (keyOf_cell hs ho)
end Go.Proofs.YtmopiifamopidaaGreat
end
section
namespace Go.Proofs.YtmopiifamopidaaGreat
open Go.RowKit Go.Maps
def refR (v : Value) : Option (DataW Unit × List MemPlace) :=
 match v with
 | .map none => some (.nil, [])
 | .map (some b) => some (.lit (.int .u64 b), [])
 | _ => none
def refD : Option Nat → DataW Unit
 | none => .nil
 | some b => .lit (.int .u64 b)
theorem refR_inv {v : Value} {r : Option Nat} {ps : List MemPlace} (h : refR v = some (refD r, ps)) : v = .map r := by
 unfold refR at h
 split at h
 ·cases r with
  | none => rfl
  | some b => simp [refD] at h
 ·rename_i b
  cases r with
  | none => simp [refD] at h
  | some c => simp [refD] at h; rw [show b = c by omega]
 ·cases h
theorem zeroM (w : World) : (zeroValue 75).run Tryz.prog w = .ok (.map none) w := by kernel_rfl
def smalC (s o : Int) : Prop := (0 ≤ s ∧ s ≤ 1000000) ∧ 0 ≤ o ∧ o ≤ 1000000
theorem smalC.wf {s o : Int} (h : smalC s o) : (Lit.int .i64 s).wf = true ∧ (Lit.int .i64 o).wf = true := ⟨WalkArith.wf_i64 (by have := h.1; omega), WalkArith.wf_i64 (by have := h.2; omega)⟩
theorem celL_ne {s o s2 o2 : Int} (h : smalC s o) (h2 : smalC s2 o2) (hne : ¬ (s2 = s ∧ o2 = o)) : celL s2 o2 ≠ celL s o := fun e => hne (by
 have := celL_inj h2.wf.1 h2.wf.2 h.wf.1 h.wf.2 e
 exact this)
def atC (L : List ((Int × Int) × Int)) (s o : Int) : List Int := (L.filter fun x => x.1.1 == s && x.1.2 == o).map (·.2)
theorem atC_same {L : List ((Int × Int) × Int)} {s o i : Int} : atC (L ++ [((s, o), i)]) s o = atC L s o ++ [i] := by simp [atC]
theorem atC_other {L : List ((Int × Int) × Int)} {s o i s2 o2 : Int} (h : ¬ (s2 = s ∧ o2 = o)) : atC (L ++ [((s, o), i)]) s2 o2 = atC L s2 o2 := by
 have : (s == s2 && o == o2) = false := by
  rw [Bool.and_eq_false_iff, beq_eq_false_iff_ne, beq_eq_false_iff_ne]
  by_cases e : s = s2
  ·right; exact fun e2 => h ⟨e.symm, e2.symm⟩
  ·left; exact e
 simp [atC, this]
structure SenM (w : World) (B b n : Nat) (G : Int × Int → Option Nat) (L : List ((Int × Int) × Int)) : Prop where
 D : ∃ D, w.ownsMap Tryz.prog 48 refR b n D ∧ Maps.IsMap D ∧ ∀ s o, smalC s o → D.atKey (celL s o) .nil = refD (G (s, o))
 hb : B ≤ b
 sets : ∀ s o c, smalC s o → G (s, o) = some c → B ≤ c ∧ c ≠ b ∧ SetM w c n (atC L s o)
 none : ∀ s o, smalC s o → G (s, o) = none → atC L s o = []
 inj : ∀ s o s2 o2 c, smalC s o → smalC s2 o2 → G (s, o) = some c → G (s2, o2) = some c → s2 = s ∧ o2 = o
theorem SetM.mono {w : World} {b n m : Nat} {ps : List Int} (h : SetM w b n ps) (hn : n ≤ m) : SetM w b m ps := by
 obtain ⟨D, h1, h2⟩ := h; exact ⟨D, h1.mono hn, h2⟩
theorem senM_lt {w : World} {B b n : Nat} {G : Int × Int → Option Nat} {L : List ((Int × Int) × Int)} (h : SenM w B b n G L) : b < w.heap.size := by
 obtain ⟨D, h1, _⟩ := h.D; exact h1.lt
theorem senM_made (w : World) : SenM (w.alloc (.map #[] 0)) w.heap.size w.heap.size 0 (fun _ => none) [] :=
 ⟨⟨.map [], World.ownsMap_made _ _ _ _, Maps.isMap_empty, fun s o _ => by simp [DataW.atKey, refD]⟩, Nat.le_refl _, fun _ _ _ _ h => (by cases h), fun _ _ _ _ => rfl, fun _ _ _ _ _ _ _ h => (by cases h)⟩
theorem ownsMap_shape {w : World} {k : TypeId} {R : Value → Option (DataW Unit × List MemPlace)} {b n : Nat} {D : DataW Unit} (h : w.ownsMap Tryz.prog k R b n D) : ∃ es c, w.heap[b]? = some (.map es c) := by
 obtain ⟨es, c, h1, _⟩ := h; exact ⟨es, c, h1⟩
theorem SenM.same {w w' : World} {B b n : Nat} {G : Int × Int → Option Nat} {L : List ((Int × Int) × Int)} (h : SenM w B b n G L) (hw : ∀ (k : Nat) (es : Array MapEntry) (c : Nat), B ≤ k → w.heap[k]? = some (.map es c) → w'.heap[k]? = w.heap[k]?) : SenM w' B b n G L := by
 obtain ⟨D, h1, h2⟩ := h.D
 refine ⟨⟨D, ?_, h2⟩, h.hb, fun s o c hs hg => ?_, h.none, h.inj⟩
 ·obtain ⟨es, cl, e⟩ := ownsMap_shape h1
  obtain ⟨es', clock, e1, F, hz, hD⟩ := h1
  exact ⟨es', clock, (hw b es cl h.hb e).trans e1, F, hz, hD⟩
 ·obtain ⟨q1, q0, q2⟩ := h.sets s o c hs hg
  obtain ⟨es, cl, e⟩ := q2.shape
  exact ⟨q1, q0, q2.same (hw c es cl q1 e)⟩
theorem SenM.below {w w' : World} {B b n : Nat} {G : Int × Int → Option Nat} {L : List ((Int × Int) × Int)} (h : SenM w B b n G L) (hb : Below w.heap.size w w') : SenM w' B b n G L :=
 h.same fun k _ _ _ e => hb.block k (Array.getElem?_eq_some_iff.1 e).1
theorem SenM.row {w w' : World} {B b n B2 k m : Nat} {G : Int × Int → Option Nat} {L : List ((Int × Int) × Int)} {t : TypeId} {v : Value} {xs : List Value} (h : SenM w B b n G L) (r : w.ownsRow B2 t k v m xs) (hg : w.grownBy w' v.ownBlock) : SenM w' B b n G L :=
 h.same fun j _ _ _ e => hg.block j (Array.getElem?_eq_some_iff.1 e).1 (by
  rcases row_shape r with rfl | ⟨g, cap, cur, rfl, hq⟩
  ·intro e'; simp [Value.ownBlock] at e'
  ·intro e'
   simp [Value.ownBlock] at e'
   subst e'
   have e := hq.symm.trans e
   injection e with e
   cases e)
theorem SenM.look {w : World} {B b n : Nat} {G : Int × Int → Option Nat} {L : List ((Int × Int) × Int)} (h : SenM w B b n G L) {s o : Int} (hs : smalC s o) : (Instr.lookup 74 (.map (some b)) (.agg #[.int .i64 s, .int .i64 o]) false).run Tryz.prog w = .ok (.map (G (s, o))) w := by
 obtain ⟨D, h1, h2, h3⟩ := h.D
 obtain ⟨v, ps, hrun, hv⟩ := h1.lookup cellK Tryz.underlying74 (zeroM w) (zd := .nil) (zp := []) rfl (keyOf_cell hs.wf.1 hs.wf.2)
 rw [h3 s o hs] at hv
 rw [hrun, refR_inv hv]
theorem SetM.look {w : World} {c n : Nat} {ps : List Int} (h : SetM w c n ps) {i : Int} (hi : -1000000 ≤ i ∧ i ≤ 1000000) : (Instr.lookup 75 (.map (some c)) (.int .i64 i) false).run Tryz.prog w = .ok (.bool (ps.contains i)) w := by
 obtain ⟨D, h1, h2, h3⟩ := h
 obtain ⟨v, qs, hrun, hv⟩ := h1.lookup lawK Tryz.underlying75 (zeroB w) (plainElem_bool Tryz.underlying4 false) (keyOf_int_mk (a := i) Tryz.underlying3 (WalkArith.wf_i64 (by omega)))
 rw [h3 i] at hv
 obtain ⟨x, rfl, hx⟩ := plainElem_bool_inv Tryz.underlying4 hv
 simp only [Prod.mk.injEq] at hx
 have : x = ps.contains i := by simpa using hx.1.symm
 rw [hrun, this]
theorem nil_look {w : World} {i : Int} (hi : -1000000 ≤ i ∧ i ≤ 1000000) : (Instr.lookup 75 (.map none) (.int .i64 i) false).run Tryz.prog w = .ok (.bool false) w := by
 have hk := keyOf_int_mk (a := i) Tryz.underlying3 (WalkArith.wf_i64 (by omega))
 have hc := lawK.check w true hk
 have hz := zeroB w
 rcases lawK.find w hk [] (by simp) with ⟨hf, _⟩ | ⟨j, e, _, h2, _⟩
 ·unfold Instr.lookup
  simp [run_underlying Tryz.underlying75, hc, hz, hf, go_sem]
 ·simp at h2
def updG (G : Int × Int → Option Nat) (s o : Int) (c : Nat) : Int × Int → Option Nat := fun x => if x = (s, o) then some c else G x
theorem updG_same {G : Int × Int → Option Nat} {s o : Int} {c : Nat} : updG G s o c (s, o) = some c := by simp [updG]
theorem updG_other {G : Int × Int → Option Nat} {s o s2 o2 : Int} {c : Nat} (h : ¬ (s2 = s ∧ o2 = o)) : updG G s o c (s2, o2) = G (s2, o2) := by simp [updG, h]
theorem senM_new {w : World} {ops : Array Oper} {rest : List Oper} {p : Oper} {a : Act} {Q : Exit → Act → World → Prop} (B b n c : Nat) (G : Int × Int → Option Nat) (L : List ((Int × Int) × Int)) (s o : Int) (hg : p.guard = none)
  (hs : ∃ m x v : Operand, p.op = Op.mapUpdate 74 m x v ∧ a.eval m = .map (some b) ∧ a.eval x = .agg #[.int .i64 s, .int .i64 o] ∧ a.eval v = .map (some c)) (h : SenM w B b n G L) (hc : SetM w c 0 []) (hBc : B ≤ c) (hcb : c ≠ b) (hfr : ∀ s o, smalC s o → G (s, o) ≠ some c) (hno : G (s, o) = none) (hn : n < 1000000) (hk : smalC s o)
  (hK : ∀ w', SenM w' B b (n + 1) (updG G s o c) L → w.grownBy w' (some b) → wpList Tryz.prog ops Q rest (a.put p.dst undef) w') : wpList Tryz.prog ops Q (p :: rest) a w := by
 obtain ⟨m, x, v, ho, hm, hx, hv⟩ := hs
 obtain ⟨D, h1, h2, h3⟩ := h.D
 refine wpList_mapUpdate_own w hg m x v 74 ho 48 75 cellK Tryz.underlying74 _ b n D hm h1 (by unfold maxLen; omega) _ _ (celL s o) hx hv (keyOf_cell hk.wf.1 hk.wf.2) (.lit (.int .u64 c)) [] rfl fun w' g1 g2 => hK w' ?_ g2
 have keep : ∀ d k ps, d ≠ b → SetM w d k ps → SetM w' d k ps := fun d k ps hd hq => hq.same (g2.block d hq.lt (fun e => hd (by injection e)))
 refine ⟨⟨_, g1, h2.put _ _, fun s2 o2 hs2 => ?_⟩, h.hb, fun s2 o2 d hs2 hd => ?_, fun s2 o2 hs2 hd => ?_, fun s2 o2 s3 o3 d hs2 hs3 hd he => ?_⟩
 ·by_cases e : s2 = s ∧ o2 = o
  ·obtain ⟨rfl, rfl⟩ := e
   rw [Maps.atKey_put_same h2 (celL_key hk.wf.1 hk.wf.2), updG_same]; rfl
  ·rw [Maps.atKey_put_other (celL_ne hk hs2 e), h3 s2 o2 hs2, updG_other e]
 ·by_cases e : s2 = s ∧ o2 = o
  ·obtain ⟨rfl, rfl⟩ := e
   rw [updG_same] at hd
   obtain rfl := Option.some.inj hd
   rw [h.none s2 o2 hs2 hno]
   exact ⟨hBc, hcb, keep _ _ _ hcb (hc.mono (Nat.zero_le _))⟩
  ·rw [updG_other e] at hd
   obtain ⟨q1, q0, q2⟩ := h.sets s2 o2 d hs2 hd
   exact ⟨q1, q0, keep _ _ _ q0 (q2.mono (Nat.le_succ _))⟩
 ·by_cases e : s2 = s ∧ o2 = o
  ·obtain ⟨rfl, rfl⟩ := e
   rw [updG_same] at hd; cases hd
  ·rw [updG_other e] at hd
   exact h.none s2 o2 hs2 hd
 ·by_cases e : s2 = s ∧ o2 = o
  ·obtain ⟨rfl, rfl⟩ := e
   rw [updG_same] at hd
   by_cases e3 : s3 = s2 ∧ o3 = o2
   ·exact e3
   ·rw [updG_other e3] at he
    have hcd := Option.some.inj hd
    rw [← hcd] at he
    exact absurd he (hfr s3 o3 hs3)
  ·rw [updG_other e] at hd
   by_cases e3 : s3 = s ∧ o3 = o
   ·obtain ⟨rfl, rfl⟩ := e3
    rw [updG_same] at he
    exact absurd (hd.trans he.symm) (hfr s2 o2 hs2)
   ·rw [updG_other e3] at he
    exact h.inj s2 o2 s3 o3 d hs2 hs3 hd he
theorem senM_add {w : World} {ops : Array Oper} {rest : List Oper} {p : Oper} {a : Act} {Q : Exit → Act → World → Prop} (B b n c : Nat) (G : Int × Int → Option Nat) (L : List ((Int × Int) × Int)) (s o i : Int) (hg : p.guard = none)
  (hs : ∃ m x v : Operand, p.op = Op.mapUpdate 75 m x v ∧ a.eval m = .map (some c) ∧ a.eval x = .int .i64 i ∧ a.eval v = .bool true) (h : SenM w B b n G L) (hG : G (s, o) = some c) (hn : n < 1000000) (hk : smalC s o) (hi : -1000000 ≤ i ∧ i ≤ 1000000)
  (hK : ∀ w', SenM w' B b (n + 1) G (L ++ [((s, o), i)]) → w.grownBy w' (some c) → wpList Tryz.prog ops Q rest (a.put p.dst undef) w') : wpList Tryz.prog ops Q (p :: rest) a w := by
 obtain ⟨q1, q0, q2⟩ := h.sets s o c hk hG
 refine setM_add c n i (atC L s o) hg hs q2 hn hi fun w' g1 g2 => hK w' ?_ g2
 have other : ∀ d, d ≠ c → d < w.heap.size → w'.heap[d]? = w.heap[d]? := fun d hd hl => g2.block d hl (fun e => hd (by injection e))
 obtain ⟨D, ⟨es, clock, e1, F, hz, hD⟩, h2, h3⟩ := h.D
 refine ⟨⟨D, ⟨es, clock, (other b (fun e => q0 e.symm) (Array.getElem?_eq_some_iff.1 e1).1).trans e1, F, Nat.le_succ_of_le hz, hD⟩, h2, h3⟩, h.hb, fun s2 o2 d hs2 hd => ?_, fun s2 o2 hs2 hd => ?_, h.inj⟩
 ·by_cases e : s2 = s ∧ o2 = o
  ·obtain ⟨rfl, rfl⟩ := e
   obtain rfl : c = d := by rw [hG] at hd; exact Option.some.inj hd
   rw [atC_same]
   exact ⟨q1, q0, g1⟩
  ·obtain ⟨r1, r0, r2⟩ := h.sets s2 o2 d hs2 hd
   rw [atC_other e]
   refine ⟨r1, r0, (r2.same (other d (fun e2 => ?_) r2.lt)).mono (Nat.le_succ _)⟩
   subst e2
   exact e (h.inj s o s2 o2 d hk hs2 hG hd)
 ·have e : ¬ (s2 = s ∧ o2 = o) := by
   rintro ⟨rfl, rfl⟩
   rw [hG] at hd; cases hd
  rw [atC_other e]
  exact h.none s2 o2 hs2 hd
theorem SenM.asks {w : World} {B b n : Nat} {G : Int × Int → Option Nat} {L : List ((Int × Int) × Int)} (h : SenM w B b n G L) {s o i : Int} (hs : smalC s o) (hi : -1000000 ≤ i ∧ i ≤ 1000000) : (Instr.lookup 75 (.map (G (s, o))) (.int .i64 i) false).run Tryz.prog w = .ok (.bool ((atC L s o).contains i)) w := by
 cases e : G (s, o) with
 | none => rw [h.none s o hs e]; exact nil_look hi
 | some c => exact (h.sets s o c hs e).2.2.look hi
end Go.Proofs.YtmopiifamopidaaGreat
end
section
namespace Go.Proofs.YtmopiifamopidaaGreat
open Go.RowKit
structure Tr where
 t : Tb
 vu : Sv
 vg : Sv
 va : Sv
def trL : Lay Tr := ⟨fun r => [.slice r.vu.p r.vu.n r.vu.c, .slice r.vg.p r.vg.n r.vg.c, .slice r.va.p r.va.n r.va.c], 3, by decide, fun _ => rfl, fun a u h => by
 simp only [List.mem_cons, List.not_mem_nil, or_false] at h
 rcases h with rfl | rfl | rfl <;> rfl⟩
def TrOk (w : World) (r : Tr) : Prop := SlU w (.slice r.vu.p r.vu.n r.vu.c) r.t.us ∧ SlG w (.slice r.vg.p r.vg.n r.vg.c) r.t.gs ∧ SlA w (.slice r.va.p r.va.n r.va.c) r.t.ks
theorem TrOk.below {w w' : World} {r : Tr} (h : TrOk w r) (hb : Below w.heap.size w w') : TrOk w' r := ⟨h.1.below hb, h.2.1.below hb, h.2.2.below hb⟩
theorem SlT.atT {w w' : World} {p : Option Addr} {n cap : Nat} {l : List Tr} (h : SlT trL w (.slice p n cap) l) (bel : Below w.heap.size w w') {i : Nat} (hi : i < l.length) :
  ∃ a b off, l[i]? = some a ∧ p = some ⟨b, off, none⟩ ∧ b < w'.heap.size ∧ b < w.heap.size ∧ w'.cell? ⟨b, off + i * 3, none⟩ = some (.slice a.vu.p a.vu.n a.vu.c) ∧ w'.cell? ⟨b, off + i * 3 + 1, none⟩ = some (.slice a.vg.p a.vg.n a.vg.c) ∧ w'.cell? ⟨b, off + i * 3 + 2, none⟩ = some (.slice a.va.p a.va.n a.va.c) := by
 obtain ⟨a, b, off, h1, h2, h3, h4, h5⟩ := h.at bel hi
 exact ⟨a, b, off, h1, h2, h3, h4, h5 0 _ rfl, h5 1 _ rfl, h5 2 _ rfl⟩
def boL : Lay Bool := ⟨fun b => [.bool b], 1, by decide, fun _ => rfl, fun a u h => by
 simp only [List.mem_cons, List.not_mem_nil, or_false] at h
 rcases h with rfl; rfl⟩
theorem SlT.atB {w w' : World} {p : Option Addr} {n cap : Nat} {l : List Bool} (h : SlT boL w (.slice p n cap) l) (bel : Below w.heap.size w w') {i : Nat} (hi : i < l.length) :
  ∃ a b off, l[i]? = some a ∧ p = some ⟨b, off, none⟩ ∧ b < w'.heap.size ∧ b < w.heap.size ∧ w'.cell? ⟨b, off + i, none⟩ = some (.bool a) := by
 obtain ⟨a, b, off, h1, h2, h3, h4, h5⟩ := h.at bel hi
 refine ⟨a, b, off, h1, h2, h3, h4, ?_⟩
 have := h5 0 _ rfl
 rw [show boL.k = 1 from rfl, Nat.mul_one] at this
 exact this
structure Hr where
 h : List Bool
 v : Sv
def hrL : Lay Hr := ⟨fun r => [.slice r.v.p r.v.n r.v.c], 1, by decide, fun _ => rfl, fun a u h => by
 simp only [List.mem_cons, List.not_mem_nil, or_false] at h
 rcases h with rfl; rfl⟩
def HrOk (w : World) (r : Hr) : Prop := SlT boL w (.slice r.v.p r.v.n r.v.c) r.h
theorem HrOk.below {w w' : World} {r : Hr} (h : HrOk w r) (hb : Below w.heap.size w w') : HrOk w' r := SlT.below h hb
theorem SlT.atH {w w' : World} {p : Option Addr} {n cap : Nat} {l : List Hr} (h : SlT hrL w (.slice p n cap) l) (bel : Below w.heap.size w w') {i : Nat} (hi : i < l.length) :
  ∃ a b off, l[i]? = some a ∧ p = some ⟨b, off, none⟩ ∧ b < w'.heap.size ∧ b < w.heap.size ∧ w'.cell? ⟨b, off + i, none⟩ = some (.slice a.v.p a.v.n a.v.c) := by
 obtain ⟨a, b, off, h1, h2, h3, h4, h5⟩ := h.at bel hi
 refine ⟨a, b, off, h1, h2, h3, h4, ?_⟩
 have := h5 0 _ rfl
 rw [show hrL.k = 1 from rfl, Nat.mul_one] at this
 exact this
structure HsOk (w : World) (v : Value) (hs : List Hr) (n : Nat) : Prop where
 sl : SlT hrL w v hs
 ok : ∀ r ∈ hs, HrOk w r
 len : hs.length = n
 row : ∀ r ∈ hs, r.h.length = n
theorem HsOk.below {w w' : World} {v : Value} {hs : List Hr} {n : Nat} (h : HsOk w v hs n) (hb : Below w.heap.size w w') : HsOk w' v hs n := ⟨SlT.below h.sl hb, fun r hr => (h.ok r hr).below hb, h.len, h.row⟩
structure TsOk (w : World) (v : Value) (ts : List Tr) (n : Nat) : Prop where
 sl : SlT trL w v ts
 ok : ∀ r ∈ ts, TrOk w r
 len : ts.length = n
theorem TsOk.below {w w' : World} {v : Value} {ts : List Tr} {n : Nat} (h : TsOk w v ts n) (hb : Below w.heap.size w w') : TsOk w' v ts n := ⟨SlT.below h.sl hb, fun r hr => (h.ok r hr).below hb, h.len⟩
structure Cl5 where
 s : Int
 o : Int
 l : Int
 a : Int
 b : Int
def c5L : Lay Cl5 := ⟨fun c => [.int .i64 c.s, .int .i64 c.o, .int .i64 c.l, .int .i64 c.a, .int .i64 c.b], 5, by decide, fun _ => rfl, fun a u h => by
 simp only [List.mem_cons, List.not_mem_nil, or_false] at h
 rcases h with rfl | rfl | rfl | rfl | rfl <;> rfl⟩
def logT (i : Int) (us : List Us) : List ((Int × Int) × Int) := us.map fun u => ((u.s, u.o), i)
def logN (ts : List Tb) : Nat → List ((Int × Int) × Int)
 | 0 => []
 | i + 1 => logN ts i ++ (match ts[i]? with | some t => logT i t.us | none => [])
theorem logN_step {ts : List Tb} {i : Nat} {t : Tb} (h : ts[i]? = some t) : logN ts (i + 1) = logN ts i ++ logT i t.us := by simp [logN, h]
theorem logT_step {i : Int} {us : List Us} {j : Nat} {u : Us} (h : us[j]? = some u) : logT i (us.take (j + 1)) = logT i (us.take j) ++ [((u.s, u.o), i)] := by simp [logT, take_snocG h]
def clB (M : List ((Int × Int) × Int)) (l : Int) (g : Gr) (c : Int) (is : Bool) : Bool := (is && !(c == l)) && (!(c == g.p) && (atC M g.s g.o).contains c)
def clH (M : List ((Int × Int) × Int)) (l : Int) (g : Gr) (h : List Bool) : Nat → List Cl5
 | 0 => []
 | c + 1 => clH M l g h c ++ (match h[c]? with | some is => if clB M l g c is = true then [⟨g.s, g.o, l, g.p, c⟩] else [] | none => [])
theorem clH_step {M : List ((Int × Int) × Int)} {l : Int} {g : Gr} {h : List Bool} {c : Nat} {is : Bool} (hc : h[c]? = some is) : clH M l g h (c + 1) = clH M l g h c ++ (if clB M l g c is = true then [⟨g.s, g.o, l, g.p, c⟩] else []) := by simp [clH, hc]
def clG (M : List ((Int × Int) × Int)) (f l : Int) (h : List Bool) (gs : List Gr) : List Cl5 := gs.flatMap fun g => if g.u < f then [] else clH M l g h h.length
theorem clG_step {M : List ((Int × Int) × Int)} {f l : Int} {h : List Bool} {gs : List Gr} {j : Nat} {g : Gr} (hg : gs[j]? = some g) : clG M f l h (gs.take (j + 1)) = clG M f l h (gs.take j) ++ (if g.u < f then [] else clH M l g h h.length) := by simp [clG, take_snocG hg]
def clN (M : List ((Int × Int) × Int)) (f : Int) (hs : List (List Bool)) (ts : List Tb) : Nat → List Cl5
 | 0 => []
 | l + 1 => clN M f hs ts l ++ (match ts[l]?, hs[l]? with | some t, some h => clG M f l h t.gs | _, _ => [])
theorem clN_step {M : List ((Int × Int) × Int)} {f : Int} {hs : List (List Bool)} {ts : List Tb} {l : Nat} {t : Tb} {h : List Bool} (ht : ts[l]? = some t) (hh : hs[l]? = some h) : clN M f hs ts (l + 1) = clN M f hs ts l ++ clG M f l h t.gs := by simp [clN, ht, hh]
def clsF (f : Int) (hs : List (List Bool)) (ts : List Tb) : List Cl5 := clN (logN ts ts.length) f hs ts ts.length
theorem mem_atC {M : List ((Int × Int) × Int)} {s o c : Int} : c ∈ atC M s o ↔ ((s, o), c) ∈ M := by
 simp only [atC, List.mem_map, List.mem_filter, Bool.and_eq_true, beq_iff_eq]
 constructor
 ·rintro ⟨⟨⟨a, b⟩, d⟩, ⟨h1, h2, h3⟩, h4⟩
  simp only at h2 h3 h4
  subst h2 h3 h4
  exact h1
 ·intro h
  exact ⟨_, ⟨h, rfl, rfl⟩, rfl⟩
theorem mem_logN {ts : List Tb} {s o c : Int} : ∀ {n : Nat}, ((s, o), c) ∈ logN ts n → ∃ i t u, i < n ∧ ts[i]? = some t ∧ u ∈ t.us ∧ u.s = s ∧ u.o = o ∧ (i : Int) = c
 | 0, h => by simp [logN] at h
 | n + 1, h => by
  rw [logN, List.mem_append] at h
  rcases h with h | h
  ·obtain ⟨i, t, u, h1, h2⟩ := mem_logN h
   exact ⟨i, t, u, by omega, h2⟩
  ·cases e : ts[n]? with
   | none => rw [e] at h; simp at h
   | some t =>
    rw [e] at h
    simp only [logT, List.mem_map, Prod.mk.injEq] at h
    obtain ⟨u, hu, ⟨h1, h2⟩, h3⟩ := h
    exact ⟨n, t, u, by omega, e, hu, h1, h2, h3⟩
theorem clsF_quiet {n : Nat} {H : Nat → Nat → Bool} {T : Nat → Tb} {f : Int} {hs : List (List Bool)} {ts : List Tb} (hq : Quiet n H T f) (hl : ts.length = n) (ht : ∀ i t, ts[i]? = some t → t = T i) (hh : ∀ i h, hs[i]? = some h → h.length = n ∧ ∀ (k : Nat) (is : Bool), h[k]? = some is → H i k = is) : clsF f hs ts = [] := by
 have h1 : ∀ (l : Nat) (g : Gr) (t : Tb) (h : List Bool), ts[l]? = some t → hs[l]? = some h → g ∈ t.gs → ¬ g.u < f → ∀ c, c ≤ n → clH (logN ts ts.length) l g h c = [] := by
  intro l g t h e1 e2 hg hu c
  induction c with
  | zero => intro _; rfl
  | succ c ih =>
   intro hc
   rw [clH, ih (by omega), List.nil_append]
   cases e3 : h[c]? with
   | none => rfl
   | some is =>
    dsimp only
    rw [if_neg]
    intro hb
    simp only [clB, Bool.and_eq_true, Bool.not_eq_true', beq_eq_false_iff_ne, List.contains_iff_mem] at hb
    obtain ⟨⟨b1, b2⟩, b3, b4⟩ := hb
    obtain ⟨i, t2, u, i1, i2, i3, i4, i5, i6⟩ := mem_logN (mem_atC.1 b4)
    have i7 : i = c := by omega
    subst i7
    have q1 := ht l t e1
    have q2 := ht i t2 i2
    have q3 := (hh l h e2).2 i is e3
    have hll : l < n := by rw [← hl]; exact (List.getElem?_eq_some_iff.1 e1).1
    refine hq l hll g (by rw [← q1]; exact hg) (by omega) i (by omega) (by rw [q3]; exact b1) (by omega) b3 u (by rw [← q2]; exact i3) ⟨i4, i5⟩
 have h2 : ∀ l, clN (logN ts ts.length) f hs ts l = [] := by
  intro l
  induction l with
  | zero => rfl
  | succ l ih =>
   rw [clN, ih, List.nil_append]
   cases e1 : ts[l]? with
   | none => rfl
   | some t =>
    cases e2 : hs[l]? with
    | none => rfl
    | some h =>
     dsimp only
     rw [clG, List.flatMap_eq_nil_iff]
     intro g hg
     by_cases hu : g.u < f
     ·rw [if_pos hu]
     ·rw [if_neg hu]
      exact h1 l g t h e1 e2 hg hu _ (by rw [(hh l h e2).1]; exact Nat.le_refl _)
 exact h2 _
end Go.Proofs.YtmopiifamopidaaGreat
end
section
namespace Go.Proofs.YtmopiifamopidaaGreat
open Go.RowKit
theorem own6 {w : World} {b : Nat} {t : TypeId} {x0 x1 x2 x3 x4 x5 : Value} (h : Own w b [x0, x1, x2, x3, x4, x5] t) : w.cell? ⟨b, 0, none⟩ = some x0 ∧ w.cell? ⟨b, 1, none⟩ = some x1 ∧ w.cell? ⟨b, 2, none⟩ = some x2 ∧ w.cell? ⟨b, 3, none⟩ = some x3 ∧ w.cell? ⟨b, 4, none⟩ = some x4 ∧ w.cell? ⟨b, 5, none⟩ = some x5 ∧ (∀ o, w.frozen? ⟨b, o, none⟩ = false) ∧ b < w.heap.size := ⟨h.cell rfl, h.cell rfl, h.cell rfl, h.cell rfl, h.cell rfl, h.cell rfl, h.frozen, h.lt⟩
theorem rg_bc {w : World} {b : Nat} {t : TypeId} {r : Nr} (h : Own w b (bcells r) t) : w.rangeAt b 0 (bcells r) := fun j v hv => by rw [Nat.zero_add]; exact h.cell hv
theorem nsok_set {w : World} {l : List Nr} {b : Nat} {ns : List Sv} {t : TypeId} (h : NsOk w l) (o : Own w b (ns.map Sv.v) t) (i : Nat) (v : Value) : NsOk (w.setCell ⟨b, i, none⟩ v) l := by
 have hn : ∀ c ∈ ns.map Sv.v, ∀ k n, c ≠ .int k n := fun c hc k n e => by
  obtain ⟨s, _, rfl⟩ := List.mem_map.1 hc
  cases e
 have hw : ∀ b', b' ≠ b → b' < w.heap.size → (w.setCell ⟨b, i, none⟩ v).heap[b']? = w.heap[b']? := fun b' hb' _ => Below.heap_setCell w ⟨b, i, none⟩ v b' hb'
 exact fun r hr => ⟨(h r hr).1.apart numU o hn (by simp) hw, (h r hr).2.1.apart numG o hn (by simp) hw, (h r hr).2.2.apart numA o hn (by simp) hw⟩
theorem load_yields {P : Program} {o : Oper} {ρ : Operand → Value} {w : World} (ty : TypeId) (x : Operand) (b off : Nat) (cs : List Value) (d : TypeDesc) (ho : o.op = .load ty x) (hx : ρ x = .pointer (some ⟨b, off, none⟩)) (hc : w.rangeAt b off cs) (hu : P.underlying ty = some d) (hd : d.isRow = true) (hi : (P.info? ty).map (·.size) = some cs.length) :
  (execOp ρ o).run P w = .ok (.value (.agg cs.toArray)) w := by
 unfold execOp
 simp only [ho, hx, Instr.loadAt, Instr.sureAddr, Sem.run_bind, Sem.run_pure, Result.andThen_ok, run_loadVar_mid w b off ty cs d hc hu hd hi]
theorem own_keptR {w w' : World} {b : Nat} {cs : List Value} {t : TypeId} {row : Option Nat} (o : Own w b cs t) (hg : w.grownBy w' row) (hne : ∀ k, row = some k → k ≠ b) : Own w' b cs t := (hg.block b o.lt (fun e => hne b e.symm rfl)).trans o
def NotP (bN ix : Nat) (ns : List Sv) (l : List Nr) (r : Nr) (w : World) (e : Ending) (w' : World) : Prop := e = .returned (.tuple #[]) ∧ ∃ (s' : Sv) (l' : List Nr), Own w' bN ((ns.set ix s').map Sv.v) 56 ∧ SlN w' (.slice s'.p s'.n s'.c) l' ∧ NsOk w' l' ∧ l'.map Nr.b = notF r.b false (l.map Nr.b) ∧ Belo w.heap.size bN w w'
def NotI (w1 : World) (b : Nb) (l : List Nr) (qs : List Nr) (done : Bool) (i : Nat) (wz : World) (pq : Option Addr) (cq : Nat) : Prop := wz.ownsRow w1.heap.size 86 31 (.slice pq qs.length cq) qs.length (flatT nrL qs) ∧ NsOk w1 qs ∧ qs.map Nr.b ++ notF b done ((l.drop i).map Nr.b) = notF b false (l.map Nr.b) ∧ Below w1.heap.size w1 wz ∧ qs.length ≤ 2 * i
theorem notF_at {b : Nb} {done : Bool} {l : List Nr} {i : Nat} {d : Nr} (h : l[i]? = some d) : notF b done ((l.drop i).map Nr.b) = (if (!done && decide (b.fm ≤ d.b.fm)) = true then [b] else []) ++ (if (d.b.fm == b.fm) = true then [] else [d.b]) ++ notF b (done || decide (b.fm ≤ d.b.fm)) ((l.drop (i + 1)).map Nr.b) := by
 obtain ⟨hl, he⟩ := List.getElem?_eq_some_iff.1 h
 rw [List.drop_eq_getElem_cons hl, he, List.map_cons]; rfl
theorem nsok_snoc {w : World} {l : List Nr} {r : Nr} (h : NsOk w l) (hr : NrOk w r) : NsOk w (l ++ [r]) := fun x hx => by
 rcases List.mem_append.1 hx with hx | hx
 ·exact h x hx
 ·rw [List.mem_singleton] at hx; subst hx; exact hr
set_option maxRecDepth 100000 in
set_option maxHeartbeats 8000000 in
theorem not_any (bW bN n cn ix : Nat) (N D : Int) (vh vt s : Sv) (ns : List Sv) (l : List Nr) (r : Nr) (w : World) (oW : Own w bW [.int .i64 N, .int .i64 D, .slice vh.p vh.n vh.c, .slice vt.p vt.n vt.c, .slice (some ⟨bN, 0, none⟩) n cn, .int .i64 r.b.fr] 35) (oN : Own w bN (ns.map Sv.v) 56) (hn : ns.length = n) (hi : ns[ix]? = some s) (sl : SlN w (.slice s.p s.n s.c) l) (ho : NsOk w l) (hk : NrOk w r) (h1000 : l.length ≤ 1000) (n30 : n ≤ 30) (hWN : bW ≠ bN) :
  Calls Tryz.prog 11 #[.pointer (some ⟨bW, 0, none⟩), .int .i64 ix, .agg #[.int .i64 r.b.fm, .int .i64 0, .int .i64 0, .int .i64 0, .int .i64 0, .int .i64 0, .int .i64 0, .int .i64 0, .int .i64 0, .int .i64 0, .int .i64 0, .slice r.vu.p r.vu.n r.vu.c, .slice r.vg.p r.vg.n r.vg.c, .slice r.va.p r.va.n r.va.c, .slice none 0 0, .bool false, .slice none 0 0, .slice none 0 0, .slice none 0 0, .int .i64 0, .int .i64 0, .int .u64 0, .int .i64 0, .int .i64 0, .int .i64 0, .int .i64 0, .int .i64 0, .slice none 0 0, .slice none 0 0, .bool false]] w (NotP bN ix ns l r w) := by
 obtain ⟨pl, cl, e0, hlc, hcm, hpn⟩ := SlT.form (L := nrL) l.length sl rfl
 injection e0 with e1 e2 e3
 obtain ⟨sp, sn, sc⟩ := s
 dsimp only at e1 e2 e3
 subst e1 e2 e3
 unfold maxLen at hcm
 have SL1 := Lib.hid (SlT.below sl (belowNew w (.cells #[.int .i64 r.b.fm, .int .i64 0, .int .i64 0, .int .i64 0, .int .i64 0, .int .i64 0, .int .i64 0, .int .i64 0, .int .i64 0, .int .i64 0, .int .i64 0, .slice r.vu.p r.vu.n r.vu.c, .slice r.vg.p r.vg.n r.vg.c, .slice r.va.p r.va.n r.va.c, .slice none 0 0, .bool false, .slice none 0 0, .slice none 0 0, .slice none 0 0, .int .i64 0, .int .i64 0, .int .u64 0, .int .i64 0, .int .i64 0, .int .i64 0, .int .i64 0, .int .i64 0, .slice none 0 0, .slice none 0 0, .bool false] 71)))
 have HO1 := Lib.hid (ho.below (belowNew w (.cells #[.int .i64 r.b.fm, .int .i64 0, .int .i64 0, .int .i64 0, .int .i64 0, .int .i64 0, .int .i64 0, .int .i64 0, .int .i64 0, .int .i64 0, .int .i64 0, .slice r.vu.p r.vu.n r.vu.c, .slice r.vg.p r.vg.n r.vg.c, .slice r.va.p r.va.n r.va.c, .slice none 0 0, .bool false, .slice none 0 0, .slice none 0 0, .slice none 0 0, .int .i64 0, .int .i64 0, .int .u64 0, .int .i64 0, .int .i64 0, .int .i64 0, .int .i64 0, .int .i64 0, .slice none 0 0, .slice none 0 0, .bool false] 71)))
 have HK1 := Lib.hid (hk.below (belowNew w (.cells #[.int .i64 r.b.fm, .int .i64 0, .int .i64 0, .int .i64 0, .int .i64 0, .int .i64 0, .int .i64 0, .int .i64 0, .int .i64 0, .int .i64 0, .int .i64 0, .slice r.vu.p r.vu.n r.vu.c, .slice r.vg.p r.vg.n r.vg.c, .slice r.va.p r.va.n r.va.c, .slice none 0 0, .bool false, .slice none 0 0, .slice none 0 0, .slice none 0 0, .int .i64 0, .int .i64 0, .int .u64 0, .int .i64 0, .int .i64 0, .int .i64 0, .int .i64 0, .int .i64 0, .slice none 0 0, .slice none 0 0, .bool false] 71)))
 have OW1 := Lib.hid (oW.alloc (.cells #[.int .i64 r.b.fm, .int .i64 0, .int .i64 0, .int .i64 0, .int .i64 0, .int .i64 0, .int .i64 0, .int .i64 0, .int .i64 0, .int .i64 0, .int .i64 0, .slice r.vu.p r.vu.n r.vu.c, .slice r.vg.p r.vg.n r.vg.c, .slice r.va.p r.va.n r.va.c, .slice none 0 0, .bool false, .slice none 0 0, .slice none 0 0, .slice none 0 0, .int .i64 0, .int .i64 0, .int .u64 0, .int .i64 0, .int .i64 0, .int .i64 0, .int .i64 0, .int .i64 0, .slice none 0 0, .slice none 0 0, .bool false] 71))
 have ON1 := Lib.hid (oN.alloc (.cells #[.int .i64 r.b.fm, .int .i64 0, .int .i64 0, .int .i64 0, .int .i64 0, .int .i64 0, .int .i64 0, .int .i64 0, .int .i64 0, .int .i64 0, .int .i64 0, .slice r.vu.p r.vu.n r.vu.c, .slice r.vg.p r.vg.n r.vg.c, .slice r.va.p r.va.n r.va.c, .slice none 0 0, .bool false, .slice none 0 0, .slice none 0 0, .slice none 0 0, .int .i64 0, .int .i64 0, .int .u64 0, .int .i64 0, .int .i64 0, .int .i64 0, .int .i64 0, .int .i64 0, .slice none 0 0, .slice none 0 0, .bool false] 71))
 have B01 := Lib.hid (belowNew w (.cells #[.int .i64 r.b.fm, .int .i64 0, .int .i64 0, .int .i64 0, .int .i64 0, .int .i64 0, .int .i64 0, .int .i64 0, .int .i64 0, .int .i64 0, .int .i64 0, .slice r.vu.p r.vu.n r.vu.c, .slice r.vg.p r.vg.n r.vg.c, .slice r.va.p r.va.n r.va.c, .slice none 0 0, .bool false, .slice none 0 0, .slice none 0 0, .slice none 0 0, .int .i64 0, .int .i64 0, .int .u64 0, .int .i64 0, .int .i64 0, .int .i64 0, .int .i64 0, .int .i64 0, .slice none 0 0, .slice none 0 0, .bool false] 71))
 have O51 := Lib.hid (show Own (w.alloc (.cells #[.int .i64 r.b.fm, .int .i64 0, .int .i64 0, .int .i64 0, .int .i64 0, .int .i64 0, .int .i64 0, .int .i64 0, .int .i64 0, .int .i64 0, .int .i64 0, .slice r.vu.p r.vu.n r.vu.c, .slice r.vg.p r.vg.n r.vg.c, .slice r.va.p r.va.n r.va.c, .slice none 0 0, .bool false, .slice none 0 0, .slice none 0 0, .slice none 0 0, .int .i64 0, .int .i64 0, .int .u64 0, .int .i64 0, .int .i64 0, .int .i64 0, .int .i64 0, .int .i64 0, .slice none 0 0, .slice none 0 0, .bool false] 71)) w.heap.size (bcells r) 71 from own_at _ _ rfl)
 have hixn : ix < n := by rw [← hn]; exact (List.getElem?_eq_some_iff.1 hi).1
 have HI := Lib.hid hi
 have HN := Lib.hid hn
 have ix0 : (0 : Int) ≤ (ix : Int) := Int.natCast_nonneg _
 have ix1 : (ix : Int) < (n : Int) := by omega
 have c1 := oN.cell (i := ix) (x := .slice sp l.length sc) (by rw [List.getElem?_map, hi]; rfl)
 have zN := oN.lt
 obtain ⟨w0c, w1c, w2c, w3c, w4c, w5c, _, zW⟩ := own6 oW
 obtain ⟨iN, hi1, hz1, hs1, hb1⟩ := info_parts info_nr
 have IF := Lib.hid (And.intro hi1 (And.intro hz1 (And.intro hs1 hb1)))
 clear hi1 hz1 hs1 hb1 hpn sl ho hk oW oN hi hn
 go_enter Tryz.func11, Tryz.ntmps11
 go_wp2_with fail
 clear c1 w0c w1c w2c w3c w4c w5c
 generalize w.alloc (.cells #[.int .i64 r.b.fm, .int .i64 0, .int .i64 0, .int .i64 0, .int .i64 0, .int .i64 0, .int .i64 0, .int .i64 0, .int .i64 0, .int .i64 0, .int .i64 0, .slice r.vu.p r.vu.n r.vu.c, .slice r.vg.p r.vg.n r.vg.c, .slice r.va.p r.va.n r.va.c, .slice none 0 0, .bool false, .slice none 0 0, .slice none 0 0, .slice none 0 0, .int .i64 0, .int .i64 0, .int .u64 0, .int .i64 0, .int .i64 0, .int .i64 0, .int .i64 0, .int .i64 0, .slice none 0 0, .slice none 0 0, .bool false] 71) = w1 at SL1 HO1 HK1 OW1 ON1 B01 O51 ⊢
 obtain ⟨b5, hb5⟩ : ∃ b5, w.heap.size = b5 := ⟨_, rfl⟩
 rw [hb5] at O51 ⊢
 have HB5 := Lib.hid hb5
 clear hb5
 have I0 := Lib.hid (show NotI w1 r.b l [] false 0 w1 none 0 from ⟨World.ownsRow_nil _ _ _ _, (fun x hx => by simp at hx), by simp, Below.refl _ _, Nat.le_refl _⟩)
 go_loopw [6, 7, 18] (fun out dn ii wz => ∃ (i : Nat) (qs : List Nr) (done : Bool) (pq : Option Addr) (cq : Nat), i ≤ l.length ∧ ii = .int .i64 i ∧ dn = .bool done ∧ out = .slice pq qs.length cq ∧ NotI w1 r.b l qs done i wz pq cq) (fun _ _ ii _ => l.length - (intOf ii).toNat)
 case atStart => exact ⟨0, [], false, none, 0, by omega, rfl, rfl, rfl, I0.out⟩
 case round =>
  clear I0
  obtain ⟨i, qs, done, pq, cq, hi, rfl, rfl, rfl, hrow, hok, heq, hbel, hql⟩ := hrel
  have ROW := Lib.hid hrow
  have HOK := Lib.hid hok
  have HEQ := Lib.hid heq
  have BE := Lib.hid hbel
  clear hrow hok heq hbel
  have j0 : (0 : Int) ≤ (i : Int) := Int.natCast_nonneg _
  by_cases hlt : i < l.length
  ·obtain ⟨d, b, off, hd, rfl, hbl, _, hrg⟩ := SL1.out.atN BE.out hlt
   have j1 : (i : Int) < (l.length : Int) := by omega
   have HD := Lib.hid (notF_at (b := r.b) (done := done) hd)
   have HOD := Lib.hid (HO1.out.at hd)
   have HR := Lib.hid hrg
   clear hd hrg
   obtain ⟨k50, f5, z5⟩ : wr.cell? ⟨b5, 0, none⟩ = some (.int .i64 r.b.fm) ∧ (∀ o, wr.frozen? ⟨b5, o, none⟩ = false) ∧ b5 < wr.heap.size := ⟨(O51.out.below BE.out).cell (i := 0) rfl, (O51.out.below BE.out).frozen, (O51.out.below BE.out).lt⟩
   go_upto_region 6 with (first | ((with_reducible refine loadN d b (off + i * 31) ?_ ?_ HR.out ?_); (next => rfl); (next => exact ⟨_, rfl, rfl⟩)) | ((with_reducible refine storeNewN d wr.heap.size ?_ ?_ ?_ ?_); (next => exact ⟨_, _, rfl, rfl, rfl⟩); (next => rfl); (next => first | rfl | simp)) | fail)
   have oD : Own (wr.alloc (Obj.cells #[.int .i64 d.b.fr, .int .i64 d.b.fm, .int .i64 0, .int .i64 0, .int .i64 0, .int .i64 0, .int .i64 0, .int .i64 0, .int .i64 0, .int .i64 0, .int .i64 0, .int .i64 0, .slice d.vu.p d.vu.n d.vu.c, .slice d.vg.p d.vg.n d.vg.c, .slice d.va.p d.va.n d.va.c, .slice none 0 0, .bool false, .slice none 0 0, .slice none 0 0, .slice none 0 0, .int .i64 0, .int .i64 0, .int .u64 0, .int .i64 0, .int .i64 0, .int .i64 0, .int .i64 0, .int .i64 0, .slice none 0 0, .slice none 0 0, .bool false] 86)) wr.heap.size [.int .i64 d.b.fr, .int .i64 d.b.fm, .int .i64 0, .int .i64 0, .int .i64 0, .int .i64 0, .int .i64 0, .int .i64 0, .int .i64 0, .int .i64 0, .int .i64 0, .int .i64 0, .slice d.vu.p d.vu.n d.vu.c, .slice d.vg.p d.vg.n d.vg.c, .slice d.va.p d.va.n d.va.c, .slice none 0 0, .bool false, .slice none 0 0, .slice none 0 0, .slice none 0 0, .int .i64 0, .int .i64 0, .int .u64 0, .int .i64 0, .int .i64 0, .int .i64 0, .int .i64 0, .int .i64 0, .slice none 0 0, .slice none 0 0, .bool false] 86 := own_at _ _ rfl
   have hNR0 : ∀ k, Value.ownBlock (.slice pq qs.length cq) = some k → k < wr.heap.size := fun k hk => (ROW.out.lt k hk).2
   have ROa := Lib.hid (ROW.out.alloc (Obj.cells #[.int .i64 d.b.fr, .int .i64 d.b.fm, .int .i64 0, .int .i64 0, .int .i64 0, .int .i64 0, .int .i64 0, .int .i64 0, .int .i64 0, .int .i64 0, .int .i64 0, .int .i64 0, .slice d.vu.p d.vu.n d.vu.c, .slice d.vg.p d.vg.n d.vg.c, .slice d.va.p d.va.n d.va.c, .slice none 0 0, .bool false, .slice none 0 0, .slice none 0 0, .slice none 0 0, .int .i64 0, .int .i64 0, .int .u64 0, .int .i64 0, .int .i64 0, .int .i64 0, .int .i64 0, .int .i64 0, .slice none 0 0, .slice none 0 0, .bool false] 86))
   have BEa := Lib.hid (BE.out.alloc BE.out.size (Obj.cells #[.int .i64 d.b.fr, .int .i64 d.b.fm, .int .i64 0, .int .i64 0, .int .i64 0, .int .i64 0, .int .i64 0, .int .i64 0, .int .i64 0, .int .i64 0, .int .i64 0, .int .i64 0, .slice d.vu.p d.vu.n d.vu.c, .slice d.vg.p d.vg.n d.vg.c, .slice d.va.p d.va.n d.va.c, .slice none 0 0, .bool false, .slice none 0 0, .slice none 0 0, .slice none 0 0, .int .i64 0, .int .i64 0, .int .u64 0, .int .i64 0, .int .i64 0, .int .i64 0, .int .i64 0, .int .i64 0, .slice none 0 0, .slice none 0 0, .bool false] 86))
   clear ROW BE HR k50 f5 z5
   generalize wr.alloc (Obj.cells #[.int .i64 d.b.fr, .int .i64 d.b.fm, .int .i64 0, .int .i64 0, .int .i64 0, .int .i64 0, .int .i64 0, .int .i64 0, .int .i64 0, .int .i64 0, .int .i64 0, .int .i64 0, .slice d.vu.p d.vu.n d.vu.c, .slice d.vg.p d.vg.n d.vg.c, .slice d.va.p d.va.n d.va.c, .slice none 0 0, .bool false, .slice none 0 0, .slice none 0 0, .slice none 0 0, .int .i64 0, .int .i64 0, .int .u64 0, .int .i64 0, .int .i64 0, .int .i64 0, .int .i64 0, .int .i64 0, .slice none 0 0, .slice none 0 0, .bool false] 86) = wa at oD ROa BEa ⊢
   have HNR := Lib.hid hNR0
   clear hNR0
   obtain ⟨bD, hbD⟩ : ∃ bD, wr.heap.size = bD := ⟨_, rfl⟩
   rw [hbD] at oD HNR ⊢
   clear hbD hbl
   have OD := Lib.hid oD
   clear oD
   cases hdn : done with
   | true =>
    subst hdn
    go_upto_region 9 with fail
    obtain ⟨d1c, zD⟩ : wa.cell? ⟨bD, 1, none⟩ = some (.int .i64 d.b.fm) ∧ bD < wa.heap.size := ⟨OD.out.cell (i := 1) rfl, OD.out.lt⟩
    have k50 := (O51.out.below BEa.out).cell (i := 0) rfl
    have z50 := (O51.out.below BEa.out).lt
    cases hne : (d.b.fm != r.b.fm) with
    | false =>
     have HNE := Lib.hid (show (d.b.fm == r.b.fm) = true by simpa using hne)
     go_wp2_with fail
     go_roundw
     case rel => exact ⟨i + 1, qs, true, pq, cq, by omega, by go_num, rfl, rfl, ROa.out, HOK.out, by rw [← HEQ.out, HD.out]; simp [HNE.out, ], BEa.out, by omega⟩
     case measure => simp [intOf]; omega
    | true =>
     have HNE := Lib.hid (show (d.b.fm == r.b.fm) = false by simpa using hne)
     have RGD := Lib.hid (show World.rangeAt _ bD 0 d.cells from rg_own (r := d) OD.out)
     have ROx := Lib.hid (ROa.out.alloc (Obj.cells #[.int .i64 d.b.fr, .int .i64 d.b.fm, .int .i64 0, .int .i64 0, .int .i64 0, .int .i64 0, .int .i64 0, .int .i64 0, .int .i64 0, .int .i64 0, .int .i64 0, .int .i64 0, .slice d.vu.p d.vu.n d.vu.c, .slice d.vg.p d.vg.n d.vg.c, .slice d.va.p d.va.n d.va.c, .slice none 0 0, .bool false, .slice none 0 0, .slice none 0 0, .slice none 0 0, .int .i64 0, .int .i64 0, .int .u64 0, .int .i64 0, .int .i64 0, .int .i64 0, .int .i64 0, .int .i64 0, .slice none 0 0, .slice none 0 0, .bool false] 86))
     have hwz : w1.heap.size ≤ wa.heap.size := BEa.out.size
     go_wp2_with (first | ((with_reducible refine loadNg d bD 0 ?_ ?_ RGD.out ?_); (next => exact ⟨_, rfl, rfl⟩); (next => rfl)) | (at_builtin; refine wpList_append_own _ rfl _ _ 56 rfl w1.heap.size 86 iN _ 31 392 (by kernel_rfl) IF.out.1 IF.out.2.1 IF.out.2.2.1 IF.out.2.2.2 rfl (by decide) _ qs.length (flatT nrL (qs)) rfl ROx.out _ 1 1 (nrL.f d) rfl rfl (newsTn (L := nrL) (w := wa) (by simp) d 86) (nrL.one _) ?qc4 ?qc5 ?qc6 ?_) | fail)
     case qc4 => unfold maxLen; omega
     case qc5 => omega
     case qc6 => (first | omega | (simp; omega))
     intro v3 w3 hown hgrow hnil
     obtain ⟨p3, c3, hv3⟩ := row_form hown
     subst hv3
     have BE3 := Lib.hid ((BEa.out.alloc hwz _).grown hgrow (by simp; omega) (fun k hk => (ROx.out.lt k hk).1))
     have RO3 := Lib.hid hown
     clear hown hgrow hnil
     go_wp2_with fail
     go_roundw
     case rel => exact ⟨i + 1, qs ++ [d], true, p3, c3, by omega, by go_num, rfl, (by rw [len_snoc]), (by rw [flatT_append (ss := [d]), flatT_one, len_snoc]; exact RO3.out), nsok_snoc (HOK.out) HOD.out, by rw [← HEQ.out, HD.out]; simp [HNE.out, ], BE3.out, by rw [len_snoc]; omega⟩
     case measure => simp [intOf]; omega
   | false =>
    subst hdn
    have k50 := (O51.out.below BEa.out).cell (i := 0) rfl
    have z50 := (O51.out.below BEa.out).lt
    obtain ⟨d1c, zD⟩ : wa.cell? ⟨bD, 1, none⟩ = some (.int .i64 d.b.fm) ∧ bD < wa.heap.size := ⟨OD.out.cell (i := 1) rfl, OD.out.lt⟩
    cases hge : decide (r.b.fm ≤ d.b.fm) with
    | false =>
     have HGE := Lib.hid (of_decide_eq_false hge)
     go_upto_region 9 with fail
     clear k50 z50 d1c zD
     obtain ⟨d1c, zD⟩ : wa.cell? ⟨bD, 1, none⟩ = some (.int .i64 d.b.fm) ∧ bD < wa.heap.size := ⟨OD.out.cell (i := 1) rfl, OD.out.lt⟩
     have k50 := (O51.out.below BEa.out).cell (i := 0) rfl
     have z50 := (O51.out.below BEa.out).lt
     cases hne : (d.b.fm != r.b.fm) with
     | false =>
      have HNE := Lib.hid (show (d.b.fm == r.b.fm) = true by simpa using hne)
      go_wp2_with fail
      go_roundw
      case rel => exact ⟨i + 1, qs, false, pq, cq, by omega, by go_num, rfl, rfl, ROa.out, HOK.out, by rw [← HEQ.out, HD.out]; simp [HNE.out, (show ¬ (r.b.fm ≤ d.b.fm) by have := HGE.out; omega)], BEa.out, by omega⟩
      case measure => simp [intOf]; omega
     | true =>
      have HNE := Lib.hid (show (d.b.fm == r.b.fm) = false by simpa using hne)
      have RGD := Lib.hid (show World.rangeAt _ bD 0 d.cells from rg_own (r := d) OD.out)
      have ROx := Lib.hid (ROa.out.alloc (Obj.cells #[.int .i64 d.b.fr, .int .i64 d.b.fm, .int .i64 0, .int .i64 0, .int .i64 0, .int .i64 0, .int .i64 0, .int .i64 0, .int .i64 0, .int .i64 0, .int .i64 0, .int .i64 0, .slice d.vu.p d.vu.n d.vu.c, .slice d.vg.p d.vg.n d.vg.c, .slice d.va.p d.va.n d.va.c, .slice none 0 0, .bool false, .slice none 0 0, .slice none 0 0, .slice none 0 0, .int .i64 0, .int .i64 0, .int .u64 0, .int .i64 0, .int .i64 0, .int .i64 0, .int .i64 0, .int .i64 0, .slice none 0 0, .slice none 0 0, .bool false] 86))
      have hwz : w1.heap.size ≤ wa.heap.size := BEa.out.size
      go_wp2_with (first | ((with_reducible refine loadNg d bD 0 ?_ ?_ RGD.out ?_); (next => exact ⟨_, rfl, rfl⟩); (next => rfl)) | (at_builtin; refine wpList_append_own _ rfl _ _ 56 rfl w1.heap.size 86 iN _ 31 392 (by kernel_rfl) IF.out.1 IF.out.2.1 IF.out.2.2.1 IF.out.2.2.2 rfl (by decide) _ qs.length (flatT nrL (qs)) rfl ROx.out _ 1 1 (nrL.f d) rfl rfl (newsTn (L := nrL) (w := wa) (by simp) d 86) (nrL.one _) ?qc4 ?qc5 ?qc6 ?_) | fail)
      case qc4 => unfold maxLen; omega
      case qc5 => omega
      case qc6 => (first | omega | (simp; omega))
      intro v3 w3 hown hgrow hnil
      obtain ⟨p3, c3, hv3⟩ := row_form hown
      subst hv3
      have BE3 := Lib.hid ((BEa.out.alloc hwz _).grown hgrow (by simp; omega) (fun k hk => (ROx.out.lt k hk).1))
      have RO3 := Lib.hid hown
      clear hown hgrow hnil
      go_wp2_with fail
      go_roundw
      case rel => exact ⟨i + 1, qs ++ [d], false, p3, c3, by omega, by go_num, rfl, (by rw [len_snoc]), (by rw [flatT_append (ss := [d]), flatT_one, len_snoc]; exact RO3.out), nsok_snoc (HOK.out) HOD.out, by rw [← HEQ.out, HD.out]; simp [HNE.out, (show ¬ (r.b.fm ≤ d.b.fm) by have := HGE.out; omega)], BE3.out, by rw [len_snoc]; omega⟩
      case measure => simp [intOf]; omega
    | true =>
     have HGE := Lib.hid (of_decide_eq_true hge)
     go_wp2_with fail
     clear k50 z50 d1c zD
     have OWx := Lib.hid (OW1.out.below BEa.out)
     have O5x := Lib.hid (O51.out.below BEa.out)
     have OWd := Lib.hid (show Own wa.drew bW [.int .i64 N, .int .i64 D, .slice vh.p vh.n vh.c, .slice vt.p vt.n vt.c, .slice (some ⟨bN, 0, none⟩) n cn, .int .i64 r.b.fr] 35 from OWx.out)
     have O5d := Lib.hid (show Own wa.drew b5 (bcells r) 71 from O5x.out)
     have ROd := Lib.hid (show World.ownsRow wa.drew _ _ _ _ _ _ from ROa.out)
     have BEd := Lib.hid (show Below w1.heap.size w1 wa.drew from BEa.out.drew)
     have ODd := Lib.hid (show Own wa.drew bD [.int .i64 d.b.fr, .int .i64 d.b.fm, .int .i64 0, .int .i64 0, .int .i64 0, .int .i64 0, .int .i64 0, .int .i64 0, .int .i64 0, .int .i64 0, .int .i64 0, .int .i64 0, .slice d.vu.p d.vu.n d.vu.c, .slice d.vg.p d.vg.n d.vg.c, .slice d.va.p d.va.n d.va.c, .slice none 0 0, .bool false, .slice none 0 0, .slice none 0 0, .slice none 0 0, .int .i64 0, .int .i64 0, .int .u64 0, .int .i64 0, .int .i64 0, .int .i64 0, .int .i64 0, .int .i64 0, .slice none 0 0, .slice none 0 0, .bool false] 86 from OD.out)
     have hwd : w1.heap.size ≤ wa.heap.size := BEd.out.size
     refine region_H 10 #[false, false, false, false, false, false, false, false, false, false] (by kernel_rfl) (by kernel_rfl) (fun w' => w'.cell? ⟨bW, 5, none⟩ = some (.int .i64 r.b.fr) ∧ w'.rangeAt b5 0 (bcells r)) (by kernel_rfl) ?x1s (fun hHeld => ?x1r)
     case x1s => exact ⟨OWd.out.cell (i := 5) rfl, rg_bc O5d.out⟩
     refine tH 0 32 ?_
     refine tH 1 33 ?_
     refine tH 2 34 ?_
     refine tH 3 35 ?_
     refine tH 4 36 ?_
     refine wpH_take (i := 5) (some 37) (v := .agg #[.int .i64 r.b.fm, .int .i64 0, .int .i64 0, .int .i64 0, .int .i64 0, .int .i64 0, .int .i64 0, .int .i64 0, .int .i64 0, .int .i64 0, .int .i64 0, .slice r.vu.p r.vu.n r.vu.c, .slice r.vg.p r.vg.n r.vg.c, .slice r.va.p r.va.n r.va.c, .slice none 0 0, .bool false, .slice none 0 0, .slice none 0 0, .slice none 0 0, .int .i64 0, .int .i64 0, .int .u64 0, .int .i64 0, .int .i64 0, .int .i64 0, .int .i64 0, .int .i64 0, .slice none 0 0, .slice none 0 0, .bool false]) rfl (by kernel_rfl) (by kernel_rfl) (by kernel_rfl) rfl (fun _ _ _ h => h) (Or.inl ⟨by rfl, ?x7y⟩) hHeld ?x7r
     case x7y => (intro w hSw; exact load_yields 71 (.tmp 5) b5 0 (bcells r) _ rfl rfl hSw.2 Tryz.underlying71 rfl info_bcS)
     try simp only [Act.put, List.setIfInBounds_toArray, List.set_cons_zero, List.set_cons_succ]
     refine tH 6 38 ?_
     refine wpH_one (i := 7) (by kernel_rfl) rfl (fun K hK => ?_)
     rw [if_pos (by rfl)]
     go_simp
     have OWe := Lib.hid (show Own (wa.alloc (Obj.cells #[.int .i64 r.b.fr, .int .i64 r.b.fm, .int .i64 0, .int .i64 0, .int .i64 0, .int .i64 0, .int .i64 0, .int .i64 0, .int .i64 0, .int .i64 0, .int .i64 0, .int .i64 0, .slice r.vu.p r.vu.n r.vu.c, .slice r.vg.p r.vg.n r.vg.c, .slice r.va.p r.va.n r.va.c, .slice none 0 0, .bool false, .slice none 0 0, .slice none 0 0, .slice none 0 0, .int .i64 0, .int .i64 0, .int .u64 0, .int .i64 0, .int .i64 0, .int .i64 0, .int .i64 0, .int .i64 0, .slice none 0 0, .slice none 0 0, .bool false] 86)).drew bW [.int .i64 N, .int .i64 D, .slice vh.p vh.n vh.c, .slice vt.p vt.n vt.c, .slice (some ⟨bN, 0, none⟩) n cn, .int .i64 r.b.fr] 35 from (OWx.out.alloc _).drew)
     have O5e := Lib.hid (show Own (wa.alloc (Obj.cells #[.int .i64 r.b.fr, .int .i64 r.b.fm, .int .i64 0, .int .i64 0, .int .i64 0, .int .i64 0, .int .i64 0, .int .i64 0, .int .i64 0, .int .i64 0, .int .i64 0, .int .i64 0, .slice r.vu.p r.vu.n r.vu.c, .slice r.vg.p r.vg.n r.vg.c, .slice r.va.p r.va.n r.va.c, .slice none 0 0, .bool false, .slice none 0 0, .slice none 0 0, .slice none 0 0, .int .i64 0, .int .i64 0, .int .u64 0, .int .i64 0, .int .i64 0, .int .i64 0, .int .i64 0, .int .i64 0, .slice none 0 0, .slice none 0 0, .bool false] 86)).drew b5 (bcells r) 71 from (O5x.out.alloc _).drew)
     have ROe := Lib.hid (show World.ownsRow (wa.alloc (Obj.cells #[.int .i64 r.b.fr, .int .i64 r.b.fm, .int .i64 0, .int .i64 0, .int .i64 0, .int .i64 0, .int .i64 0, .int .i64 0, .int .i64 0, .int .i64 0, .int .i64 0, .int .i64 0, .slice r.vu.p r.vu.n r.vu.c, .slice r.vg.p r.vg.n r.vg.c, .slice r.va.p r.va.n r.va.c, .slice none 0 0, .bool false, .slice none 0 0, .slice none 0 0, .slice none 0 0, .int .i64 0, .int .i64 0, .int .u64 0, .int .i64 0, .int .i64 0, .int .i64 0, .int .i64 0, .int .i64 0, .slice none 0 0, .slice none 0 0, .bool false] 86)).drew _ _ _ _ _ _ from (ROa.out.alloc (Obj.cells #[.int .i64 r.b.fr, .int .i64 r.b.fm, .int .i64 0, .int .i64 0, .int .i64 0, .int .i64 0, .int .i64 0, .int .i64 0, .int .i64 0, .int .i64 0, .int .i64 0, .int .i64 0, .slice r.vu.p r.vu.n r.vu.c, .slice r.vg.p r.vg.n r.vg.c, .slice r.va.p r.va.n r.va.c, .slice none 0 0, .bool false, .slice none 0 0, .slice none 0 0, .slice none 0 0, .int .i64 0, .int .i64 0, .int .u64 0, .int .i64 0, .int .i64 0, .int .i64 0, .int .i64 0, .int .i64 0, .slice none 0 0, .slice none 0 0, .bool false] 86)).drew)
     have BEe := Lib.hid (show Below w1.heap.size w1 (wa.alloc (Obj.cells #[.int .i64 r.b.fr, .int .i64 r.b.fm, .int .i64 0, .int .i64 0, .int .i64 0, .int .i64 0, .int .i64 0, .int .i64 0, .int .i64 0, .int .i64 0, .int .i64 0, .int .i64 0, .slice r.vu.p r.vu.n r.vu.c, .slice r.vg.p r.vg.n r.vg.c, .slice r.va.p r.va.n r.va.c, .slice none 0 0, .bool false, .slice none 0 0, .slice none 0 0, .slice none 0 0, .int .i64 0, .int .i64 0, .int .u64 0, .int .i64 0, .int .i64 0, .int .i64 0, .int .i64 0, .int .i64 0, .slice none 0 0, .slice none 0 0, .bool false] 86)).drew from (BEa.out.alloc hwd (Obj.cells #[.int .i64 r.b.fr, .int .i64 r.b.fm, .int .i64 0, .int .i64 0, .int .i64 0, .int .i64 0, .int .i64 0, .int .i64 0, .int .i64 0, .int .i64 0, .int .i64 0, .int .i64 0, .slice r.vu.p r.vu.n r.vu.c, .slice r.vg.p r.vg.n r.vg.c, .slice r.va.p r.va.n r.va.c, .slice none 0 0, .bool false, .slice none 0 0, .slice none 0 0, .slice none 0 0, .int .i64 0, .int .i64 0, .int .u64 0, .int .i64 0, .int .i64 0, .int .i64 0, .int .i64 0, .int .i64 0, .slice none 0 0, .slice none 0 0, .bool false] 86)).drew)
     have NEWS := Lib.hid (show ∀ j u, (nrL.f r)[j]? = some u → ((wa.alloc (Obj.cells #[.int .i64 r.b.fr, .int .i64 r.b.fm, .int .i64 0, .int .i64 0, .int .i64 0, .int .i64 0, .int .i64 0, .int .i64 0, .int .i64 0, .int .i64 0, .int .i64 0, .int .i64 0, .slice r.vu.p r.vu.n r.vu.c, .slice r.vg.p r.vg.n r.vg.c, .slice r.va.p r.va.n r.va.c, .slice none 0 0, .bool false, .slice none 0 0, .slice none 0 0, .slice none 0 0, .int .i64 0, .int .i64 0, .int .u64 0, .int .i64 0, .int .i64 0, .int .i64 0, .int .i64 0, .int .i64 0, .slice none 0 0, .slice none 0 0, .bool false] 86)).drew).cell? ((⟨wa.heap.size, 0, none⟩ : Addr).add j) = some u from newsT (L := nrL) wa r 86)
     have hWe : w1.heap.size ≤ ((wa.alloc (Obj.cells #[.int .i64 r.b.fr, .int .i64 r.b.fm, .int .i64 0, .int .i64 0, .int .i64 0, .int .i64 0, .int .i64 0, .int .i64 0, .int .i64 0, .int .i64 0, .int .i64 0, .int .i64 0, .slice r.vu.p r.vu.n r.vu.c, .slice r.vg.p r.vg.n r.vg.c, .slice r.va.p r.va.n r.va.c, .slice none 0 0, .bool false, .slice none 0 0, .slice none 0 0, .slice none 0 0, .int .i64 0, .int .i64 0, .int .u64 0, .int .i64 0, .int .i64 0, .int .i64 0, .int .i64 0, .int .i64 0, .slice none 0 0, .slice none 0 0, .bool false] 86)).drew).heap.size := BEe.out.size
     have ODe := Lib.hid (show Own (wa.alloc (Obj.cells #[.int .i64 r.b.fr, .int .i64 r.b.fm, .int .i64 0, .int .i64 0, .int .i64 0, .int .i64 0, .int .i64 0, .int .i64 0, .int .i64 0, .int .i64 0, .int .i64 0, .int .i64 0, .slice r.vu.p r.vu.n r.vu.c, .slice r.vg.p r.vg.n r.vg.c, .slice r.va.p r.va.n r.va.c, .slice none 0 0, .bool false, .slice none 0 0, .slice none 0 0, .slice none 0 0, .int .i64 0, .int .i64 0, .int .u64 0, .int .i64 0, .int .i64 0, .int .i64 0, .int .i64 0, .int .i64 0, .slice none 0 0, .slice none 0 0, .bool false] 86)).drew bD [.int .i64 d.b.fr, .int .i64 d.b.fm, .int .i64 0, .int .i64 0, .int .i64 0, .int .i64 0, .int .i64 0, .int .i64 0, .int .i64 0, .int .i64 0, .int .i64 0, .int .i64 0, .slice d.vu.p d.vu.n d.vu.c, .slice d.vg.p d.vg.n d.vg.c, .slice d.va.p d.va.n d.va.c, .slice none 0 0, .bool false, .slice none 0 0, .slice none 0 0, .slice none 0 0, .int .i64 0, .int .i64 0, .int .u64 0, .int .i64 0, .int .i64 0, .int .i64 0, .int .i64 0, .int .i64 0, .slice none 0 0, .slice none 0 0, .bool false] 86 from (OD.out.alloc _).drew)
     generalize (wa.alloc (Obj.cells #[.int .i64 r.b.fr, .int .i64 r.b.fm, .int .i64 0, .int .i64 0, .int .i64 0, .int .i64 0, .int .i64 0, .int .i64 0, .int .i64 0, .int .i64 0, .int .i64 0, .int .i64 0, .slice r.vu.p r.vu.n r.vu.c, .slice r.vg.p r.vg.n r.vg.c, .slice r.va.p r.va.n r.va.c, .slice none 0 0, .bool false, .slice none 0 0, .slice none 0 0, .slice none 0 0, .int .i64 0, .int .i64 0, .int .u64 0, .int .i64 0, .int .i64 0, .int .i64 0, .int .i64 0, .int .i64 0, .slice none 0 0, .slice none 0 0, .bool false] 86)).drew = wE at OWe O5e ROe BEe NEWS hWe ODe ⊢
     refine hK.out _ _ (⟨OWe.out.cell (i := 5) rfl, rg_bc O5e.out⟩) ?_
     clear hK K hHeld
     intro hHeld
     try simp only [Act.put, List.setIfInBounds_toArray, List.set_cons_zero, List.set_cons_succ]
     refine wpH_one (i := 8) (by kernel_rfl) rfl (fun K hK => ?_)
     rw [if_pos (by rfl)]
     refine wp_append_own _ _ _ 56 rfl w1.heap.size 86 iN _ 31 392 (by kernel_rfl) IF.out.1 IF.out.2.1 IF.out.2.2.1 IF.out.2.2.2 rfl (by decide) (.slice pq qs.length cq) qs.length (flatT nrL qs) rfl ROe.out _ 1 1 (nrL.f r) rfl rfl NEWS.out (nrL.one _) ?qc4 ?qc5 hWe ?qc7
     case qc4 => unfold maxLen; omega
     case qc5 => omega
     case qc7 =>
      intro v2 w2 hown hgrow hnil
      obtain ⟨p2, c2, hv2⟩ := row_form hown
      subst hv2
      have hrl := ROe.out.lt
      have BE2 := Lib.hid (BEe.out.grown hgrow hWe (fun k hk => (hrl k hk).1))
      have OW2 := Lib.hid (own_keptT OWe.out ROe.out (by decide) hgrow)
      have O52 := Lib.hid (own_keptT O5e.out ROe.out (by decide) hgrow)
      have OD2 := Lib.hid (own_keptR ODe.out hgrow (fun k hk => Nat.ne_of_lt (HNR.out k hk)))
      have RO2 := Lib.hid (show w2.ownsRow w1.heap.size 86 31 (.slice p2 (qs.length + 1) c2) (qs.length + 1) (flatT nrL (qs ++ [r])) from by rw [flatT_append (ss := [r]), flatT_one]; exact hown)
      clear hown hgrow hnil hrl
      refine hK.out _ _ (⟨OW2.out.cell (i := 5) rfl, rg_bc O52.out⟩) ?_
      clear hK K hHeld
      intro hHeld
      try simp only [Act.put, List.setIfInBounds_toArray, List.set_cons_zero, List.set_cons_succ]
      refine tH 9 6 ?_
      refine wpAnyH_done (by kernel_rfl) ?_ _
      clear hHeld
      go_upto_region 9 with fail
      obtain ⟨d1c, zD⟩ : w2.cell? ⟨bD, 1, none⟩ = some (.int .i64 d.b.fm) ∧ bD < w2.heap.size := ⟨OD2.out.cell (i := 1) rfl, OD2.out.lt⟩
      have k50 := (O51.out.below BE2.out).cell (i := 0) rfl
      have z50 := (O51.out.below BE2.out).lt
      cases hne : (d.b.fm != r.b.fm) with
      | false =>
       have HNE := Lib.hid (show (d.b.fm == r.b.fm) = true by simpa using hne)
       go_wp2_with fail
       go_roundw
       case rel => exact ⟨i + 1, qs ++ [r], true, p2, c2, by omega, by go_num, rfl, (by rw [len_snoc]), (by rw [len_snoc]; exact RO2.out), nsok_snoc HOK.out HK1.out, by rw [← HEQ.out, HD.out]; simp [HNE.out, (show r.b.fm ≤ d.b.fm by have := HGE.out; omega)], BE2.out, by (first | omega | (rw [len_snoc]; omega))⟩
       case measure => simp [intOf]; omega
      | true =>
       have HNE := Lib.hid (show (d.b.fm == r.b.fm) = false by simpa using hne)
       have RGD := Lib.hid (show World.rangeAt _ bD 0 d.cells from rg_own (r := d) OD2.out)
       have ROx := Lib.hid (RO2.out.alloc (Obj.cells #[.int .i64 d.b.fr, .int .i64 d.b.fm, .int .i64 0, .int .i64 0, .int .i64 0, .int .i64 0, .int .i64 0, .int .i64 0, .int .i64 0, .int .i64 0, .int .i64 0, .int .i64 0, .slice d.vu.p d.vu.n d.vu.c, .slice d.vg.p d.vg.n d.vg.c, .slice d.va.p d.va.n d.va.c, .slice none 0 0, .bool false, .slice none 0 0, .slice none 0 0, .slice none 0 0, .int .i64 0, .int .i64 0, .int .u64 0, .int .i64 0, .int .i64 0, .int .i64 0, .int .i64 0, .int .i64 0, .slice none 0 0, .slice none 0 0, .bool false] 86))
       have hwz : w1.heap.size ≤ w2.heap.size := BE2.out.size
       go_wp2_with (first | ((with_reducible refine loadNg d bD 0 ?_ ?_ RGD.out ?_); (next => exact ⟨_, rfl, rfl⟩); (next => rfl)) | (at_builtin; refine wpList_append_own _ rfl _ _ 56 rfl w1.heap.size 86 iN _ 31 392 (by kernel_rfl) IF.out.1 IF.out.2.1 IF.out.2.2.1 IF.out.2.2.2 rfl (by decide) _ (qs.length + 1) (flatT nrL (qs ++ [r])) rfl ROx.out _ 1 1 (nrL.f d) rfl rfl (newsTn (L := nrL) (w := w2) (by simp) d 86) (nrL.one _) ?qc4 ?qc5 ?qc6 ?_) | fail)
       case qc4 => unfold maxLen; omega
       case qc5 => omega
       case qc6 => (first | omega | (simp; omega))
       intro v3 w3 hown hgrow hnil
       obtain ⟨p3, c3, hv3⟩ := row_form hown
       subst hv3
       have BE3 := Lib.hid ((BE2.out.alloc hwz _).grown hgrow (by simp; omega) (fun k hk => (ROx.out.lt k hk).1))
       have RO3 := Lib.hid hown
       clear hown hgrow hnil
       go_wp2_with fail
       go_roundw
       case rel => exact ⟨i + 1, (qs ++ [r]) ++ [d], true, p3, c3, by omega, by go_num, rfl, (by rw [len_snoc, len_snoc]), (by rw [flatT_append (ss := [d]), flatT_one, len_snoc, len_snoc]; exact RO3.out), nsok_snoc (nsok_snoc HOK.out HK1.out) HOD.out, by rw [← HEQ.out, HD.out]; simp [HNE.out, (show r.b.fm ≤ d.b.fm by have := HGE.out; omega)], BE3.out, by rw [len_snoc]; (first | omega | (rw [len_snoc]; omega))⟩
       case measure => simp [intOf]; omega
  ·have HE := Lib.hid (show qs.map Nr.b ++ (if done = true then [] else [r.b]) = notF r.b false (l.map Nr.b) from by have h9 := HEQ.out; rw [List.drop_of_length_le (by omega)] at h9; exact h9)
   clear HEQ
   cases hdn : done with
   | true =>
    subst hdn
    have ONz := ON1.out.below BE.out
    have OWz := OW1.out.below BE.out
    have hzN := ONz.lt
    have fzN := ONz.frozen
    have n1c := ONz.cell (i := ix) (x := .slice sp l.length sc) (by rw [List.getElem?_map, HI.out]; rfl)
    obtain ⟨w0c, w1c, w2c, w3c, w4c, w5c, _, zW2⟩ := own6 OWz
    have BF := Lib.hid (((Belo.refl w.heap.size bN w).to (B01.out.trans (BE.out.mono B01.out.size))).set ix (.slice pq qs.length cq))
    have OF := Lib.hid (show Own (wr.setCell ⟨bN, ix, none⟩ (.slice pq qs.length cq)) bN ((ns.set ix ⟨pq, qs.length, cq⟩).map Sv.v) 56 from by rw [List.map_set]; exact ONz.set ix _)
    have SF := Lib.hid (show SlN (wr.setCell ⟨bN, ix, none⟩ (.slice pq qs.length cq)) (.slice pq qs.length cq) (qs) from (slt_of_own (L := nrL) (ROW.out)).small ONz (by rw [List.length_map, HN.out]; show n < 31; omega) (by simp) (fun b' hb' _ => Below.heap_setCell _ ⟨bN, ix, none⟩ _ b' hb'))
    have NF := Lib.hid (nsok_set ((HOK.out).below BE.out) ONz ix (.slice pq qs.length cq))
    go_wp2_with fail
    first | (refine bodyPost_end (results_none rfl _ _ _) rfl ?_; exact ⟨rfl, ⟨pq, qs.length, cq⟩, qs, OF.out, SF.out, NF.out, by have h9 := HE.out; simpa using h9, BF.out⟩) | (refine bodyPost_ret (results_none rfl _ _ _) rfl ?_; exact ⟨rfl, ⟨pq, qs.length, cq⟩, qs, OF.out, SF.out, NF.out, by have h9 := HE.out; simpa using h9, BF.out⟩)
   | false =>
    subst hdn
    go_wp2_with fail
    have OWx := Lib.hid (OW1.out.below BE.out)
    have O5x := Lib.hid (O51.out.below BE.out)
    have OWd := Lib.hid (show Own wr.drew bW [.int .i64 N, .int .i64 D, .slice vh.p vh.n vh.c, .slice vt.p vt.n vt.c, .slice (some ⟨bN, 0, none⟩) n cn, .int .i64 r.b.fr] 35 from OWx.out)
    have O5d := Lib.hid (show Own wr.drew b5 (bcells r) 71 from O5x.out)
    have ROd := Lib.hid (show World.ownsRow wr.drew _ _ _ _ _ _ from ROW.out)
    have BEd := Lib.hid (show Below w1.heap.size w1 wr.drew from BE.out.drew)
    have hwd : w1.heap.size ≤ wr.heap.size := BEd.out.size
    refine region_H 10 #[false, false, false, false, false, false, false, false, false, false] (by kernel_rfl) (by kernel_rfl) (fun w' => w'.cell? ⟨bW, 5, none⟩ = some (.int .i64 r.b.fr) ∧ w'.rangeAt b5 0 (bcells r)) (by kernel_rfl) ?x10s (fun hHeld => ?x10r)
    case x10s => exact ⟨OWd.out.cell (i := 5) rfl, rg_bc O5d.out⟩
    refine tH 0 54 ?_
    refine tH 1 55 ?_
    refine tH 2 56 ?_
    refine tH 3 57 ?_
    refine tH 4 58 ?_
    refine wpH_take (i := 5) (some 59) (v := .agg #[.int .i64 r.b.fm, .int .i64 0, .int .i64 0, .int .i64 0, .int .i64 0, .int .i64 0, .int .i64 0, .int .i64 0, .int .i64 0, .int .i64 0, .int .i64 0, .slice r.vu.p r.vu.n r.vu.c, .slice r.vg.p r.vg.n r.vg.c, .slice r.va.p r.va.n r.va.c, .slice none 0 0, .bool false, .slice none 0 0, .slice none 0 0, .slice none 0 0, .int .i64 0, .int .i64 0, .int .u64 0, .int .i64 0, .int .i64 0, .int .i64 0, .int .i64 0, .int .i64 0, .slice none 0 0, .slice none 0 0, .bool false]) rfl (by kernel_rfl) (by kernel_rfl) (by kernel_rfl) rfl (fun _ _ _ h => h) (Or.inl ⟨by rfl, ?x16y⟩) hHeld ?x16r
    case x16y => (intro w hSw; exact load_yields 71 (.tmp 5) b5 0 (bcells r) _ rfl rfl hSw.2 Tryz.underlying71 rfl info_bcS)
    try simp only [Act.put, List.setIfInBounds_toArray, List.set_cons_zero, List.set_cons_succ]
    refine tH 6 60 ?_
    refine wpH_one (i := 7) (by kernel_rfl) rfl (fun K hK => ?_)
    rw [if_pos (by rfl)]
    go_simp
    have OWe := Lib.hid (show Own (wr.alloc (Obj.cells #[.int .i64 r.b.fr, .int .i64 r.b.fm, .int .i64 0, .int .i64 0, .int .i64 0, .int .i64 0, .int .i64 0, .int .i64 0, .int .i64 0, .int .i64 0, .int .i64 0, .int .i64 0, .slice r.vu.p r.vu.n r.vu.c, .slice r.vg.p r.vg.n r.vg.c, .slice r.va.p r.va.n r.va.c, .slice none 0 0, .bool false, .slice none 0 0, .slice none 0 0, .slice none 0 0, .int .i64 0, .int .i64 0, .int .u64 0, .int .i64 0, .int .i64 0, .int .i64 0, .int .i64 0, .int .i64 0, .slice none 0 0, .slice none 0 0, .bool false] 86)).drew bW [.int .i64 N, .int .i64 D, .slice vh.p vh.n vh.c, .slice vt.p vt.n vt.c, .slice (some ⟨bN, 0, none⟩) n cn, .int .i64 r.b.fr] 35 from (OWx.out.alloc _).drew)
    have O5e := Lib.hid (show Own (wr.alloc (Obj.cells #[.int .i64 r.b.fr, .int .i64 r.b.fm, .int .i64 0, .int .i64 0, .int .i64 0, .int .i64 0, .int .i64 0, .int .i64 0, .int .i64 0, .int .i64 0, .int .i64 0, .int .i64 0, .slice r.vu.p r.vu.n r.vu.c, .slice r.vg.p r.vg.n r.vg.c, .slice r.va.p r.va.n r.va.c, .slice none 0 0, .bool false, .slice none 0 0, .slice none 0 0, .slice none 0 0, .int .i64 0, .int .i64 0, .int .u64 0, .int .i64 0, .int .i64 0, .int .i64 0, .int .i64 0, .int .i64 0, .slice none 0 0, .slice none 0 0, .bool false] 86)).drew b5 (bcells r) 71 from (O5x.out.alloc _).drew)
    have ROe := Lib.hid (show World.ownsRow (wr.alloc (Obj.cells #[.int .i64 r.b.fr, .int .i64 r.b.fm, .int .i64 0, .int .i64 0, .int .i64 0, .int .i64 0, .int .i64 0, .int .i64 0, .int .i64 0, .int .i64 0, .int .i64 0, .int .i64 0, .slice r.vu.p r.vu.n r.vu.c, .slice r.vg.p r.vg.n r.vg.c, .slice r.va.p r.va.n r.va.c, .slice none 0 0, .bool false, .slice none 0 0, .slice none 0 0, .slice none 0 0, .int .i64 0, .int .i64 0, .int .u64 0, .int .i64 0, .int .i64 0, .int .i64 0, .int .i64 0, .int .i64 0, .slice none 0 0, .slice none 0 0, .bool false] 86)).drew _ _ _ _ _ _ from (ROW.out.alloc (Obj.cells #[.int .i64 r.b.fr, .int .i64 r.b.fm, .int .i64 0, .int .i64 0, .int .i64 0, .int .i64 0, .int .i64 0, .int .i64 0, .int .i64 0, .int .i64 0, .int .i64 0, .int .i64 0, .slice r.vu.p r.vu.n r.vu.c, .slice r.vg.p r.vg.n r.vg.c, .slice r.va.p r.va.n r.va.c, .slice none 0 0, .bool false, .slice none 0 0, .slice none 0 0, .slice none 0 0, .int .i64 0, .int .i64 0, .int .u64 0, .int .i64 0, .int .i64 0, .int .i64 0, .int .i64 0, .int .i64 0, .slice none 0 0, .slice none 0 0, .bool false] 86)).drew)
    have BEe := Lib.hid (show Below w1.heap.size w1 (wr.alloc (Obj.cells #[.int .i64 r.b.fr, .int .i64 r.b.fm, .int .i64 0, .int .i64 0, .int .i64 0, .int .i64 0, .int .i64 0, .int .i64 0, .int .i64 0, .int .i64 0, .int .i64 0, .int .i64 0, .slice r.vu.p r.vu.n r.vu.c, .slice r.vg.p r.vg.n r.vg.c, .slice r.va.p r.va.n r.va.c, .slice none 0 0, .bool false, .slice none 0 0, .slice none 0 0, .slice none 0 0, .int .i64 0, .int .i64 0, .int .u64 0, .int .i64 0, .int .i64 0, .int .i64 0, .int .i64 0, .int .i64 0, .slice none 0 0, .slice none 0 0, .bool false] 86)).drew from (BE.out.alloc hwd (Obj.cells #[.int .i64 r.b.fr, .int .i64 r.b.fm, .int .i64 0, .int .i64 0, .int .i64 0, .int .i64 0, .int .i64 0, .int .i64 0, .int .i64 0, .int .i64 0, .int .i64 0, .int .i64 0, .slice r.vu.p r.vu.n r.vu.c, .slice r.vg.p r.vg.n r.vg.c, .slice r.va.p r.va.n r.va.c, .slice none 0 0, .bool false, .slice none 0 0, .slice none 0 0, .slice none 0 0, .int .i64 0, .int .i64 0, .int .u64 0, .int .i64 0, .int .i64 0, .int .i64 0, .int .i64 0, .int .i64 0, .slice none 0 0, .slice none 0 0, .bool false] 86)).drew)
    have NEWS := Lib.hid (show ∀ j u, (nrL.f r)[j]? = some u → ((wr.alloc (Obj.cells #[.int .i64 r.b.fr, .int .i64 r.b.fm, .int .i64 0, .int .i64 0, .int .i64 0, .int .i64 0, .int .i64 0, .int .i64 0, .int .i64 0, .int .i64 0, .int .i64 0, .int .i64 0, .slice r.vu.p r.vu.n r.vu.c, .slice r.vg.p r.vg.n r.vg.c, .slice r.va.p r.va.n r.va.c, .slice none 0 0, .bool false, .slice none 0 0, .slice none 0 0, .slice none 0 0, .int .i64 0, .int .i64 0, .int .u64 0, .int .i64 0, .int .i64 0, .int .i64 0, .int .i64 0, .int .i64 0, .slice none 0 0, .slice none 0 0, .bool false] 86)).drew).cell? ((⟨wr.heap.size, 0, none⟩ : Addr).add j) = some u from newsT (L := nrL) wr r 86)
    have hWe : w1.heap.size ≤ ((wr.alloc (Obj.cells #[.int .i64 r.b.fr, .int .i64 r.b.fm, .int .i64 0, .int .i64 0, .int .i64 0, .int .i64 0, .int .i64 0, .int .i64 0, .int .i64 0, .int .i64 0, .int .i64 0, .int .i64 0, .slice r.vu.p r.vu.n r.vu.c, .slice r.vg.p r.vg.n r.vg.c, .slice r.va.p r.va.n r.va.c, .slice none 0 0, .bool false, .slice none 0 0, .slice none 0 0, .slice none 0 0, .int .i64 0, .int .i64 0, .int .u64 0, .int .i64 0, .int .i64 0, .int .i64 0, .int .i64 0, .int .i64 0, .slice none 0 0, .slice none 0 0, .bool false] 86)).drew).heap.size := BEe.out.size
    generalize (wr.alloc (Obj.cells #[.int .i64 r.b.fr, .int .i64 r.b.fm, .int .i64 0, .int .i64 0, .int .i64 0, .int .i64 0, .int .i64 0, .int .i64 0, .int .i64 0, .int .i64 0, .int .i64 0, .int .i64 0, .slice r.vu.p r.vu.n r.vu.c, .slice r.vg.p r.vg.n r.vg.c, .slice r.va.p r.va.n r.va.c, .slice none 0 0, .bool false, .slice none 0 0, .slice none 0 0, .slice none 0 0, .int .i64 0, .int .i64 0, .int .u64 0, .int .i64 0, .int .i64 0, .int .i64 0, .int .i64 0, .int .i64 0, .slice none 0 0, .slice none 0 0, .bool false] 86)).drew = wE at OWe O5e ROe BEe NEWS hWe  ⊢
    refine hK.out _ _ (⟨OWe.out.cell (i := 5) rfl, rg_bc O5e.out⟩) ?_
    clear hK K hHeld
    intro hHeld
    try simp only [Act.put, List.setIfInBounds_toArray, List.set_cons_zero, List.set_cons_succ]
    refine wpH_one (i := 8) (by kernel_rfl) rfl (fun K hK => ?_)
    rw [if_pos (by rfl)]
    refine wp_append_own _ _ _ 56 rfl w1.heap.size 86 iN _ 31 392 (by kernel_rfl) IF.out.1 IF.out.2.1 IF.out.2.2.1 IF.out.2.2.2 rfl (by decide) (.slice pq qs.length cq) qs.length (flatT nrL qs) rfl ROe.out _ 1 1 (nrL.f r) rfl rfl NEWS.out (nrL.one _) ?qc4 ?qc5 hWe ?qc7
    case qc4 => unfold maxLen; omega
    case qc5 => omega
    case qc7 =>
     intro v2 w2 hown hgrow hnil
     obtain ⟨p2, c2, hv2⟩ := row_form hown
     subst hv2
     have hrl := ROe.out.lt
     have BE2 := Lib.hid (BEe.out.grown hgrow hWe (fun k hk => (hrl k hk).1))
     have OW2 := Lib.hid (own_keptT OWe.out ROe.out (by decide) hgrow)
     have O52 := Lib.hid (own_keptT O5e.out ROe.out (by decide) hgrow)
     have RO2 := Lib.hid (show w2.ownsRow w1.heap.size 86 31 (.slice p2 (qs.length + 1) c2) (qs.length + 1) (flatT nrL (qs ++ [r])) from by rw [flatT_append (ss := [r]), flatT_one]; exact hown)
     clear hown hgrow hnil hrl
     refine hK.out _ _ (⟨OW2.out.cell (i := 5) rfl, rg_bc O52.out⟩) ?_
     clear hK K hHeld
     intro hHeld
     try simp only [Act.put, List.setIfInBounds_toArray, List.set_cons_zero, List.set_cons_succ]
     refine tH 9 6 ?_
     refine wpAnyH_done (by kernel_rfl) ?_ _
     clear hHeld
     have ONz := ON1.out.below BE2.out
     have OWz := OW1.out.below BE2.out
     have hzN := ONz.lt
     have fzN := ONz.frozen
     have n1c := ONz.cell (i := ix) (x := .slice sp l.length sc) (by rw [List.getElem?_map, HI.out]; rfl)
     obtain ⟨w0c, w1c, w2c, w3c, w4c, w5c, _, zW2⟩ := own6 OWz
     have BF := Lib.hid (((Belo.refl w.heap.size bN w).to (B01.out.trans (BE2.out.mono B01.out.size))).set ix (.slice p2 (qs.length + 1) c2))
     have OF := Lib.hid (show Own (w2.setCell ⟨bN, ix, none⟩ (.slice p2 (qs.length + 1) c2)) bN ((ns.set ix ⟨p2, (qs.length + 1), c2⟩).map Sv.v) 56 from by rw [List.map_set]; exact ONz.set ix _)
     have SF := Lib.hid (show SlN (w2.setCell ⟨bN, ix, none⟩ (.slice p2 (qs.length + 1) c2)) (.slice p2 (qs.length + 1) c2) (qs ++ [r]) from (slt_of_own (L := nrL) (by rw [len_snoc]; exact RO2.out)).small ONz (by rw [List.length_map, HN.out]; show n < 31; omega) (by simp) (fun b' hb' _ => Below.heap_setCell _ ⟨bN, ix, none⟩ _ b' hb'))
     have NF := Lib.hid (nsok_set ((nsok_snoc HOK.out HK1.out).below BE2.out) ONz ix (.slice p2 (qs.length + 1) c2))
     go_wp2_with fail
     first | (refine bodyPost_end (results_none rfl _ _ _) rfl ?_; exact ⟨rfl, ⟨p2, (qs.length + 1), c2⟩, qs ++ [r], OF.out, SF.out, NF.out, by have h9 := HE.out; simpa using h9, BF.out⟩) | (refine bodyPost_ret (results_none rfl _ _ _) rfl ?_; exact ⟨rfl, ⟨p2, (qs.length + 1), c2⟩, qs ++ [r], OF.out, SF.out, NF.out, by have h9 := HE.out; simpa using h9, BF.out⟩)
end Go.Proofs.YtmopiifamopidaaGreat
end
section
namespace Go.Proofs.YtmopiifamopidaaGreat
open Go.RowKit
structure Nv where
 l : List Nr
 v : Sv
structure Wrd (w0 : World) (bW bT bN : Nat) (N D : Int) (n : Nat) (vh : Sv) (f : Int) (T : Nat → Tb) (R : Nat → List Nb) (ts : List Tr) (ns : List Nv) (w : World) : Prop where
 oW : Own w bW [.int .i64 N, .int .i64 D, .slice vh.p vh.n vh.c, .slice (some ⟨bT, 0, none⟩) n n, .slice (some ⟨bN, 0, none⟩) n n, .int .i64 f] 35
 oT : Own w bT (flatT trL ts) 43
 oN : Own w bN ((ns.map Nv.v).map Sv.v) 56
 lt : ts.length = n
 ln : ns.length = n
 tab : ∀ i r, ts[i]? = some r → r.t = T i ∧ TrOk w r
 near : ∀ i x, ns[i]? = some x → SlN w (.slice x.v.p x.v.n x.v.c) x.l ∧ NsOk w x.l ∧ x.l.map Nr.b = R i
 bel : Below w0.heap.size w0 w
 b1 : w0.heap.size ≤ bW
 b2 : w0.heap.size ≤ bT
 b3 : w0.heap.size ≤ bN
 d1 : bW ≠ bT
 d2 : bW ≠ bN
 d3 : bT ≠ bN
theorem Wrd.below {w0 : World} {bW bT bN n : Nat} {N D f : Int} {vh : Sv} {T : Nat → Tb} {R : Nat → List Nb} {ts : List Tr} {ns : List Nv} {w w' : World} (h : Wrd w0 bW bT bN N D n vh f T R ts ns w) (hb : Below w.heap.size w w') : Wrd w0 bW bT bN N D n vh f T R ts ns w' :=
 ⟨h.oW.below hb, h.oT.below hb, h.oN.below hb, h.lt, h.ln, fun i r hr => ⟨(h.tab i r hr).1, (h.tab i r hr).2.below hb⟩, fun i x hx => ⟨SlT.below (h.near i x hx).1 hb, (h.near i x hx).2.1.below hb, (h.near i x hx).2.2⟩, h.bel.trans (hb.mono h.bel.size), h.b1, h.b2, h.b3, h.d1, h.d2, h.d3⟩
theorem Wrd.congr {w0 : World} {bW bT bN n : Nat} {N D f : Int} {vh : Sv} {T T' : Nat → Tb} {R R' : Nat → List Nb} {ts : List Tr} {ns : List Nv} {w : World} (h : Wrd w0 bW bT bN N D n vh f T R ts ns w) (hT : ∀ i, i < n → T' i = T i) (hR : ∀ i, i < n → R' i = R i) : Wrd w0 bW bT bN N D n vh f T' R' ts ns w :=
 ⟨h.oW, h.oT, h.oN, h.lt, h.ln, fun i r hr => ⟨by rw [hT i (by rw [← h.lt]; exact (List.getElem?_eq_some_iff.1 hr).1)]; exact (h.tab i r hr).1, (h.tab i r hr).2⟩, fun i x hx => ⟨(h.near i x hx).1, (h.near i x hx).2.1, by rw [hR i (by rw [← h.ln]; exact (List.getElem?_eq_some_iff.1 hx).1)]; exact (h.near i x hx).2.2⟩, h.bel, h.b1, h.b2, h.b3, h.d1, h.d2, h.d3⟩
theorem Wrd.tabAt {w0 : World} {bW bT bN n : Nat} {N D f : Int} {vh : Sv} {T : Nat → Tb} {R : Nat → List Nb} {ts : List Tr} {ns : List Nv} {w : World} (h : Wrd w0 bW bT bN N D n vh f T R ts ns w) {i : Nat} (hi : i < n) :
  ∃ r : Tr, ts[i]? = some r ∧ r.t = T i ∧ TrOk w r ∧ w.cell? ⟨bT, i * 3, none⟩ = some (.slice r.vu.p r.vu.n r.vu.c) ∧ w.cell? ⟨bT, i * 3 + 1, none⟩ = some (.slice r.vg.p r.vg.n r.vg.c) ∧ w.cell? ⟨bT, i * 3 + 2, none⟩ = some (.slice r.va.p r.va.n r.va.c) := by
 obtain ⟨r, hr⟩ : ∃ r, ts[i]? = some r := ⟨_, List.getElem?_eq_getElem (by rw [h.lt]; exact hi)⟩
 refine ⟨r, hr, (h.tab i r hr).1, (h.tab i r hr).2, ?_, ?_, ?_⟩
 ·exact h.oT.cell (i := i * 3) (by have := flatT_at (L := trL) (j := 0) hr rfl; exact this)
 ·exact h.oT.cell (i := i * 3 + 1) (flatT_at (L := trL) (j := 1) hr rfl)
 ·exact h.oT.cell (i := i * 3 + 2) (flatT_at (L := trL) (j := 2) hr rfl)
theorem Wrd.nearAt {w0 : World} {bW bT bN n : Nat} {N D f : Int} {vh : Sv} {T : Nat → Tb} {R : Nat → List Nb} {ts : List Tr} {ns : List Nv} {w : World} (h : Wrd w0 bW bT bN N D n vh f T R ts ns w) {i : Nat} (hi : i < n) :
  ∃ x : Nv, ns[i]? = some x ∧ SlN w (.slice x.v.p x.v.n x.v.c) x.l ∧ NsOk w x.l ∧ x.l.map Nr.b = R i ∧ w.cell? ⟨bN, i, none⟩ = some (.slice x.v.p x.v.n x.v.c) := by
 obtain ⟨x, hx⟩ : ∃ x, ns[i]? = some x := ⟨_, List.getElem?_eq_getElem (by rw [h.ln]; exact hi)⟩
 exact ⟨x, hx, (h.near i x hx).1, (h.near i x hx).2.1, (h.near i x hx).2.2, h.oN.cell (i := i) (by rw [List.getElem?_map, List.getElem?_map, hx]; rfl)⟩
theorem flat_slices (ts : List Tr) : ∀ c ∈ flatT trL ts, ∀ k n, c ≠ .int k n := fun c hc k n e => by
 simp only [flatT, List.mem_flatMap] at hc
 obtain ⟨r, _, hr⟩ := hc
 have h : c ∈ [Value.slice r.vu.p r.vu.n r.vu.c, .slice r.vg.p r.vg.n r.vg.c, .slice r.va.p r.va.n r.va.c] := hr
 simp only [List.mem_cons, List.not_mem_nil, or_false] at h
 subst e
 rcases h with h | h | h <;> cases h
theorem flatR_set : ∀ {ts : List Tr} {i : Nat} {r : Tr} (q : Tr), ts[i]? = some r → (((flatT trL ts).set (i * 3) (.slice q.vu.p q.vu.n q.vu.c)).set (i * 3 + 1) (.slice q.vg.p q.vg.n q.vg.c)).set (i * 3 + 2) (.slice q.va.p q.va.n q.va.c) = flatT trL (ts.set i q)
 | [], i, r, q, h => by simp at h
 | a :: ts, 0, r, q, _ => rfl
 | a :: ts, i + 1, r, q, h => by
  have ih := flatR_set (ts := ts) (i := i) q (by simpa using h)
  have hl : (trL.f a).length = 3 := rfl
  show (((trL.f a ++ flatT trL ts).set ((i + 1) * 3) _).set ((i + 1) * 3 + 1) _).set ((i + 1) * 3 + 2) _ = trL.f a ++ flatT trL (ts.set i q)
  rw [← ih, List.set_append_right _ _ (by rw [hl]; omega), List.set_append_right _ _ (by rw [hl]; omega), List.set_append_right _ _ (by rw [hl]; omega), hl, show (i + 1) * 3 - 3 = i * 3 by omega, show (i + 1) * 3 + 1 - 3 = i * 3 + 1 by omega, show (i + 1) * 3 + 2 - 3 = i * 3 + 2 by omega]
theorem set3o_block {w : World} {b b' i : Nat} {x y z : Value} (h : b' ≠ b) : (((w.setCell ⟨b, i, none⟩ x).setCell ⟨b, i + 1, none⟩ y).setCell ⟨b, i + 2, none⟩ z).heap[b']? = w.heap[b']? := by
 rw [Below.heap_setCell _ ⟨b, i + 2, none⟩ z b' h, Below.heap_setCell _ ⟨b, i + 1, none⟩ y b' h, Below.heap_setCell _ ⟨b, i, none⟩ x b' h]
theorem Wrd.setT {w0 : World} {bW bT bN n : Nat} {N D f : Int} {vh : Sv} {T : Nat → Tb} {R : Nat → List Nb} {ts : List Tr} {ns : List Nv} {w : World} (h : Wrd w0 bW bT bN N D n vh f T R ts ns w) (hn : n ≤ 8) {i : Nat} (hi : i < n) (q : Tr) (hq : TrOk w q) :
  Wrd w0 bW bT bN N D n vh f (updF T i q.t) R (ts.set i q) ns (((w.setCell ⟨bT, i * 3, none⟩ (.slice q.vu.p q.vu.n q.vu.c)).setCell ⟨bT, i * 3 + 1, none⟩ (.slice q.vg.p q.vg.n q.vg.c)).setCell ⟨bT, i * 3 + 2, none⟩ (.slice q.va.p q.va.n q.va.c)) := by
 obtain ⟨r, hr, _⟩ := h.tabAt hi
 have hw : ∀ b', b' ≠ bT → b' < w.heap.size → (((w.setCell ⟨bT, i * 3, none⟩ (.slice q.vu.p q.vu.n q.vu.c)).setCell ⟨bT, i * 3 + 1, none⟩ (.slice q.vg.p q.vg.n q.vg.c)).setCell ⟨bT, i * 3 + 2, none⟩ (.slice q.va.p q.va.n q.va.c)).heap[b']? = w.heap[b']? := fun b' hb' _ => set3o_block hb'
 have hs : w.heap.size ≤ (((w.setCell ⟨bT, i * 3, none⟩ (.slice q.vu.p q.vu.n q.vu.c)).setCell ⟨bT, i * 3 + 1, none⟩ (.slice q.vg.p q.vg.n q.vg.c)).setCell ⟨bT, i * 3 + 2, none⟩ (.slice q.va.p q.va.n q.va.c)).heap.size := by simp
 have tok : ∀ r, TrOk w r → TrOk _ r := fun r hr => ⟨hr.1.apart numU h.oT (flat_slices ts) hs hw, hr.2.1.apart numG h.oT (flat_slices ts) hs hw, hr.2.2.apart numA h.oT (flat_slices ts) hs hw⟩
 refine ⟨?_, ?_, ?_, by rw [List.length_set, h.lt], h.ln, fun j r' hr' => ?_, fun j x hx => ?_, ?_, h.b1, h.b2, h.b3, h.d1, h.d2, h.d3⟩
 ·exact ((h.oW.other (a := ⟨bT, i * 3, none⟩) h.d1 _).other (a := ⟨bT, i * 3 + 1, none⟩) h.d1 _).other (a := ⟨bT, i * 3 + 2, none⟩) h.d1 _
 ·rw [← flatR_set q hr]; exact ((h.oT.set _ _).set _ _).set _ _
 ·exact ((h.oN.other (a := ⟨bT, i * 3, none⟩) (fun e => h.d3 e.symm) _).other (a := ⟨bT, i * 3 + 1, none⟩) (fun e => h.d3 e.symm) _).other (a := ⟨bT, i * 3 + 2, none⟩) (fun e => h.d3 e.symm) _
 ·rw [List.getElem?_set] at hr'
  unfold updF
  by_cases e : i = j
  ·rw [if_pos e] at hr'
   split at hr'
   ·obtain rfl := Option.some.inj hr'
    rw [if_pos e.symm]
    exact ⟨rfl, tok _ hq⟩
   ·cases hr'
  ·rw [if_neg e] at hr'
   rw [if_neg (fun e' => e e'.symm)]
   exact ⟨(h.tab j r' hr').1, tok _ (h.tab j r' hr').2⟩
 ·obtain ⟨x1, x2, x3⟩ := h.near j x hx
  refine ⟨x1.small h.oT (by rw [flatT_len, h.lt]; show n * 3 < 31; omega) hs hw, fun r hr => ⟨?_, ?_, ?_⟩, x3⟩
  ·exact (x2 r hr).1.apart numU h.oT (flat_slices ts) hs hw
  ·exact (x2 r hr).2.1.apart numG h.oT (flat_slices ts) hs hw
  ·exact (x2 r hr).2.2.apart numA h.oT (flat_slices ts) hs hw
 ·exact ((h.bel.setCell (p := ⟨bT, i * 3, none⟩) h.b2 _).setCell (p := ⟨bT, i * 3 + 1, none⟩) h.b2 _).setCell (p := ⟨bT, i * 3 + 2, none⟩) h.b2 _
theorem svs_slices (ns : List Sv) : ∀ c ∈ ns.map Sv.v, ∀ k n, c ≠ .int k n := fun c hc k n e => by
 obtain ⟨s, _, rfl⟩ := List.mem_map.1 hc
 cases e
theorem Wrd.noted {w0 : World} {bW bT bN n : Nat} {N D f : Int} {vh : Sv} {T : Nat → Tb} {R : Nat → List Nb} {ts : List Tr} {ns : List Nv} {w w' : World} (h : Wrd w0 bW bT bN N D n vh f T R ts ns w) (hn : n ≤ 8) {i : Nat} (x : Nv) (hx : SlN w' (.slice x.v.p x.v.n x.v.c) x.l) (ho : NsOk w' x.l)
  (hN : Own w' bN (((ns.map Nv.v).set i x.v).map Sv.v) 56) (hB : Belo w.heap.size bN w w') : Wrd w0 bW bT bN N D n vh f T (updF R i (x.l.map Nr.b)) ts (ns.set i x) w' := by
 have hw : ∀ b', b' ≠ bN → b' < w.heap.size → w'.heap[b']? = w.heap[b']? := fun b' hb' hl => hB.block b' hl hb'
 have hnl : ((ns.map Nv.v).map Sv.v).length = n := by simp [h.ln]
 refine ⟨hB.own h.oW h.oW.lt h.d2, hB.own h.oT h.oT.lt h.d3, by rw [List.map_set]; exact hN, h.lt, by rw [List.length_set, h.ln], fun j r hr => ⟨(h.tab j r hr).1, ?_⟩, fun j y hy => ?_, h.bel.trans (hB.below h.b3 h.bel.size), h.b1, h.b2, h.b3, h.d1, h.d2, h.d3⟩
 ·obtain ⟨r1, r2, r3⟩ := (h.tab j r hr).2
  exact ⟨r1.apart numU h.oN (svs_slices _) hB.size hw, r2.apart numG h.oN (svs_slices _) hB.size hw, r3.apart numA h.oN (svs_slices _) hB.size hw⟩
 ·rw [List.getElem?_set] at hy
  unfold updF
  by_cases e : i = j
  ·rw [if_pos e] at hy
   split at hy
   ·obtain rfl := Option.some.inj hy
    rw [if_pos e.symm]
    exact ⟨hx, ho, rfl⟩
   ·cases hy
  ·rw [if_neg e] at hy
   rw [if_neg (fun e' => e e'.symm)]
   obtain ⟨x1, x2, x3⟩ := h.near j y hy
   refine ⟨x1.small h.oN (by rw [hnl]; show n < 31; omega) hB.size hw, fun r hr => ⟨?_, ?_, ?_⟩, x3⟩
   ·exact (x2 r hr).1.apart numU h.oN (svs_slices _) hB.size hw
   ·exact (x2 r hr).2.1.apart numG h.oN (svs_slices _) hB.size hw
   ·exact (x2 r hr).2.2.apart numA h.oN (svs_slices _) hB.size hw
theorem SlT.apart3 {α : Type} {L : Lay α} {w w' : World} {v : Value} {l : List α} {b : Nat} {x0 x1 x5 : Value} {p2 p3 p4 : Option Addr} {n2 n3 n4 c2 c3 c4 : Nat} {t : TypeId} (h : SlT L w v l) (hN : NumL L) (hk : 3 ≤ L.k) (o : Own w b [x0, x1, .slice p2 n2 c2, .slice p3 n3 c3, .slice p4 n4 c4, x5] t) (hs : w.heap.size ≤ w'.heap.size)
  (hw : ∀ b', b' ≠ b → b' < w.heap.size → w'.heap[b']? = w.heap[b']?) : SlT L w' v l := by
 obtain ⟨p, cap, h1, h2, h3, h4, h5⟩ := h
 refine ⟨p, cap, h1, h2, h3, h4, fun i cs' hi => ?_⟩
 obtain ⟨b', off, e, hlt, hc⟩ := h5 i cs' hi
 refine ⟨b', off, e, Nat.lt_of_lt_of_le hlt hs, fun j x hx => ?_⟩
 have hne : b' ≠ b := fun e => by
  subst e
  rw [List.getElem?_map] at hi
  cases ha : l[i]? with
  | none => rw [ha] at hi; cases hi
  | some a =>
   rw [ha] at hi
   obtain rfl : L.f a = cs' := by simpa using hi
   have num : ∀ j, j < 3 → ∃ n, w.cell? ⟨b', off + i * L.k + j, none⟩ = some (.int .i64 n) := fun j hj => by
    have hl : j < (L.f a).length := by rw [L.len]; omega
    have h0 := hc j _ (List.getElem?_eq_getElem hl)
    obtain ⟨n, hn⟩ := hN a _ (List.getElem_mem hl)
    exact ⟨n, by rw [h0, hn]⟩
   obtain ⟨m0, q0⟩ := num 0 (by omega)
   obtain ⟨m1, q1⟩ := num 1 (by omega)
   obtain ⟨m2, q2⟩ := num 2 (by omega)
   simp only [World.cell?, show w.heap[b']? = _ from o] at q0 q1 q2
   generalize off + i * L.k = q at q0 q1 q2
   match q, q0, q1, q2 with
   | 0, _, _, q2 => simp at q2
   | 1, _, q1, _ => simp at q1
   | 2, q0, _, _ => simp at q0
   | 3, q0, _, _ => simp at q0
   | 4, q0, _, _ => simp at q0
   | q + 5, _, q1, _ => simp at q1
 rw [← hc j x hx]
 exact World.cell?_of_block (a := ⟨b', _, none⟩) (hw b' hne hlt)
theorem Wrd.setF {w0 : World} {bW bT bN n : Nat} {N D f g : Int} {vh : Sv} {T : Nat → Tb} {R : Nat → List Nb} {ts : List Tr} {ns : List Nv} {w : World} (h : Wrd w0 bW bT bN N D n vh f T R ts ns w) : Wrd w0 bW bT bN N D n vh g T R ts ns (w.setCell ⟨bW, 5, none⟩ (.int .i64 g)) := by
 have hw : ∀ b', b' ≠ bW → b' < w.heap.size → (w.setCell ⟨bW, 5, none⟩ (.int .i64 g)).heap[b']? = w.heap[b']? := fun b' hb' _ => Below.heap_setCell w ⟨bW, 5, none⟩ _ b' hb'
 have hs : w.heap.size ≤ (w.setCell ⟨bW, 5, none⟩ (.int .i64 g)).heap.size := by simp
 have aU : ∀ {v : Value} {l : List Us}, SlU w v l → SlU (w.setCell ⟨bW, 5, none⟩ (.int .i64 g)) v l := fun q => SlT.apart3 q numU (by show 3 ≤ 4; omega) h.oW hs hw
 have aG : ∀ {v : Value} {l : List Gr}, SlG w v l → SlG (w.setCell ⟨bW, 5, none⟩ (.int .i64 g)) v l := fun q => SlT.apart3 q numG (by show 3 ≤ 5; omega) h.oW hs hw
 have aA : ∀ {v : Value} {l : List Ak}, SlA w v l → SlA (w.setCell ⟨bW, 5, none⟩ (.int .i64 g)) v l := fun q => SlT.apart3 q numA (by show 3 ≤ 3; omega) h.oW hs hw
 refine ⟨h.oW.set 5 _, h.oT.other (a := ⟨bW, 5, none⟩) (fun e => h.d1 e.symm) _, h.oN.other (a := ⟨bW, 5, none⟩) (fun e => h.d2 e.symm) _, h.lt, h.ln, fun j r hr => ⟨(h.tab j r hr).1, aU (h.tab j r hr).2.1, aG (h.tab j r hr).2.2.1, aA (h.tab j r hr).2.2.2⟩, fun j y hy => ?_, h.bel.setCell (p := ⟨bW, 5, none⟩) h.b1 _, h.b1, h.b2, h.b3, h.d1, h.d2, h.d3⟩
 obtain ⟨x1, x2, x3⟩ := h.near j y hy
 exact ⟨x1.small h.oW (by show 6 < 31; omega) hs hw, fun r hr => ⟨aU (x2 r hr).1, aG (x2 r hr).2.1, aA (x2 r hr).2.2⟩, x3⟩
end Go.Proofs.YtmopiifamopidaaGreat
end

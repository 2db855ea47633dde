/- Regions that draw their order, inside a fence that lets every function by: an operation that yields its value in every world of a class S may be taken first, S being shown anew behind each operation that is carried out. Conditions: no defer, no select; the region is left normally. -/
import Derived.Test.YtheifmdaladfdaaYield21
namespace Go.Proofs.Ytheifmdaladfdaa
open Go.RowKit
section
variable {F : Fence} {n : Nat} {P : Program} {ops : Array Oper} {R : Act → World → Prop} {md : Region.Mode} {S : World → Prop}

/-- What one operation hands on: a value into its temporary (the ways on that are normal). -/
theorem uponIn_map {o : Oper} {a b : Act} {K K' : Act → World → Prop} {r : Result Next} (hd : ∀ d w', K ({ b with defers := d :: b.defers }.put o.dst undef) w' → K' ({ a with defers := d :: a.defers }.put o.dst undef) w') (hk : ∀ u w', K (b.put o.dst u) w' → K' (a.put o.dst u) w')
    (h : o.uponIn F n P b K (Nor R) r) : o.uponIn F n P a K' (Nor R) r := by
  cases r with
  | halt x w' => cases x <;> exact False.elim h
  | ok x w' =>
    cases x
    case value u => exact hk u w' h
    case skip => exact hk _ w' h
    case defer d => exact hd d w' h
    case enter f args => exact ⟨h.1, h.2.mono fun e w'' he => by cases e <;> first | exact hk _ _ he | exact he⟩
    case row row args => exact ⟨h.1, h.2.mono fun u w'' he => hk u w'' he⟩
    case round l f ts x1 x2 => exact ⟨h.1, h.2.mono fun e w'' he => by cases e <;> first | exact hk _ _ he | exact he⟩
    all_goals exact False.elim h
/-- Every order, S behind each operation as long as number c has not come up. -/
def wpS (F : Fence) (n : Nat) (P : Program) (md : Region.Mode) (ops : Array Oper) (R : Act → World → Prop) (S : World → Prop) (c : Nat) : Nat → Array Bool → Act → World → Prop
  | 0, listed, a, w => Region.ready md ops listed = [] ∧ R a w
  | fuel + 1, listed, a, w => (Region.ready md ops listed = [] → R a w) ∧ ∀ i ∈ Region.ready md ops listed, wpOpIn F n P ops (Nor R) i (fun a' w' => ((listed.setIfInBounds i true).getD c false = false → S w') ∧ wpS F n P md ops R S c fuel (listed.setIfInBounds i true) a' w') a w
theorem wpS_any {c : Nat} (hF : ∀ f, F.fn f) : ∀ (fuel : Nat) (listed : Array Bool) (a : Act) (w : World), wpS F n P md ops R S c fuel listed a w → wpAnyIn F n P md ops (Nor R) fuel listed a w
  | 0, _, _, _, h => h
  | fuel + 1, _, _, _, h => ⟨h.1, fun i hi => wpOpIn_mono (fun _ _ k => wpS_any hF fuel _ _ _ k.2) (h.2 i hi)⟩
/-- Number i comes ahead of number c. -/
def befB (md : Region.Mode) (ops : Array Oper) (i : Nat) : Nat → Nat → Bool
  | 0, _ => false
  | f + 1, c => match ops[c]? with
    | none => false
    | some o => o.after.toList.any fun e => Region.binds md e && (e.on == i || befB md ops i f e.on)
def Clo (md : Region.Mode) (ops : Array Oper) (listed : Array Bool) : Prop := listed.size = ops.size ∧ ∀ k o, ops[k]? = some o → listed.getD k true = true → ∀ e ∈ o.after, Region.binds md e = true → listed.getD e.on false = true
theorem clo_start : Clo md ops (Array.replicate ops.size false) := ⟨by simp, fun k o ho h => by
  have := (Array.getElem?_eq_some_iff.1 ho).1
  simp [this] at h⟩
theorem clo_step {listed : Array Bool} {j : Nat} (h : Clo md ops listed) (hj : j ∈ Region.ready md ops listed) : Clo md ops (listed.setIfInBounds j true) := ⟨by simpa using h.1, fun k o ho hk e he hb => by
  obtain ⟨_, oj, hoj, hall⟩ := mem_ready.1 hj
  rcases Nat.decEq j k with c | c
  · rw [getD_set_ne true c] at hk
    exact getD_set_true (h.2 k o ho hk e he hb)
  · subst c
    rw [hoj] at ho
    cases ho
    exact getD_set_true (hall e he hb)⟩
theorem bef_listed {listed : Array Bool} {i : Nat} (h : Clo md ops listed) : ∀ (f k : Nat) (o : Oper), ops[k]? = some o → befB md ops i f k = true → (∀ e ∈ o.after, Region.binds md e = true → listed.getD e.on false = true) → listed.getD i false = true
  | 0, _, _, _, hb, _ => by cases hb
  | f + 1, k, o, ho, hb, hall => by
    simp only [befB, ho] at hb
    obtain ⟨e, he, hb⟩ := List.any_eq_true.1 hb
    rw [Bool.and_eq_true, Bool.or_eq_true] at hb
    have hl := hall e (by simpa using he) hb.1
    rcases hb.2 with c | c
    · rw [beq_iff_eq] at c; rw [← c]; exact hl
    · cases ho2 : ops[e.on]? with
      | none => cases f <;> simp [befB, ho2] at c
      | some o2 =>
        refine bef_listed h f e.on o2 ho2 c (h.2 e.on o2 ho2 ?_)
        by_cases hlt : e.on < listed.size
        · simpa [hlt] using hl
        · simp [hlt] at hl
theorem bef_ready {listed : Array Bool} {i c f : Nat} (h : Clo md ops listed) (hb : befB md ops i f c = true) (hc : c ∈ Region.ready md ops listed) : listed.getD i false = true := by
  obtain ⟨_, o, ho, hall⟩ := mem_ready.1 hc
  exact bef_listed h f c o ho hb hall
theorem nor_imp {Q : Exit → Act → World → Prop} (hR : ∀ a w, R a w → Q .normal a w) : ∀ e a w, Nor R e a w → Q e a w
  | .normal, a, w, h => hR a w h
  | .exit _, _, _, h => h.elim
  | .goto _, _, _, h => h.elim
  | .ret, _, _, h => h.elim
  | .panic _, _, _, h => h.elim
  | .outgrown, _, _, h => h.elim
theorem region_S {id : Nat} {Q : Exit → Act → World → Prop} {a : Act} {w : World} (sz : Nat) (l0 : Array Bool) (hsz : ops.size = sz) (hl0 : Array.replicate sz false = l0) (S : World → Prop) (c : Nat) (R : Act → World → Prop) (hR : ∀ a w, R a w → Q .normal a w) (hF : ∀ f, F.fn f) (hm : P.follows .mixedOrders = true) (hS : S w.drew)
    (h : S w.drew → Hid (Clo .any ops l0) → wpS F n P .any ops R S c sz l0 a w.drew) : (Code.region id ops true).wpIn F n P Q a w := by
  subst hsz hl0
  exact Code.wpIn_mono (nor_imp hR) (wpIn_region_any hm (wpS_any hF _ _ _ _ (h hS (Lib.hid clo_start))))

theorem opS_now {i : Nat} {o : Oper} {v : Value} {a : Act} {w : World} {K : Act → World → Prop} (hF : ∀ f, F.fn f) (hd : noDefer ops = true) (hi : ops[i]? = some o) (hy : YieldsIf P ops S o v a) (hS : S w) (h : K (a.put o.dst v) w) : wpOpIn F n P ops (Nor R) i K a w := by
  unfold wpOpIn
  simp only [hi]
  rcases hy with ⟨hw, hv⟩ | ⟨hw, rfl⟩
  · simp only [hw, if_true]
    refine ⟨fun f _ => hF f, ?_⟩
    rw [Oper.semAt_plain F _ _ (noDefer_spec hd hi), hv w hS]
    exact h
  · simp only [hw, Bool.false_eq_true, if_false]
    exact ⟨fun f _ => hF f, h⟩
/-- An operation apart from oi does the same whether oi's value lies in its temporary or not. -/
theorem opS_put {j : Nat} {oi oj : Oper} {v : Value} {a : Act} {w : World} {K : Act → World → Prop} (hF : ∀ f, F.fn f) (hd : noDefer ops = true) (hs : Region.noSelect ops = true) {i : Nat} (hi : ops[i]? = some oi) (hj : ops[j]? = some oj) (hap : oi.apart ops oj = true)
    (hy : YieldsIf P ops S oi v a) (h : wpOpIn F n P ops (Nor R) j K (a.put oi.dst v) w) : wpOpIn F n P ops (Nor R) j (fun a' w' => YieldsIf P ops S oi v a' ∧ K (a'.put oi.dst v) w') a w := by
  obtain ⟨p1, p2, p3⟩ := Oper.apart_spec hap
  have keep : ∀ u, YieldsIf P ops S oi v (a.put oj.dst u) := fun u =>
    hy.of_same (execOp_put oi (fun cs b => Region.noSelect_spec hs i oi cs b hi) a oj.dst u p3) (wanted_put oi a oj.dst u p3)
  unfold wpOpIn at h ⊢
  simp only [hj, wanted_put oj a oi.dst v p1] at h ⊢
  split
  · rename_i hw
    simp only [hw, if_true] at h
    have h2 := h.2
    rw [Oper.semAt_plain F _ _ (noDefer_spec hd hj), execOp_put oj (fun cs b => Region.noSelect_spec hs j oj cs b hj) a oi.dst v p1] at h2
    refine ⟨fun f _ => hF f, ?_⟩
    rw [Oper.semAt_plain F _ _ (noDefer_spec hd hj)]
    exact uponIn_map (fun d w' hk => ⟨hy.of_same (execOp_put oi (fun cs b => Region.noSelect_spec hs i oi cs b hi) { a with defers := d :: a.defers } oj.dst undef p3) (wanted_put oi { a with defers := d :: a.defers } oj.dst undef p3), by rw [← Act.put_comm _ v undef p2, ← Act.put_defers]; exact hk⟩) (fun u w' hk => ⟨keep u, by rw [← Act.put_comm a v u p2]; exact hk⟩) h2
  · rename_i hw
    simp only [hw] at h
    exact ⟨fun f _ => hF f, keep _, by rw [← Act.put_comm a v undef p2]; exact h.2⟩
theorem wpS_first {i c : Nat} {oi : Oper} {v : Value} (hF : ∀ f, F.fn f) (hd : noDefer ops = true) (hs : Region.noSelect ops = true) (hi : ops[i]? = some oi) (hnc : i ≠ c) (hic : c = ops.size ∨ ∃ f, befB md ops i f c = true) : ∀ (fuel : Nat) (listed : Array Bool) (a : Act) (w : World), Clo md ops listed →
    (∀ j oj, ops[j]? = some oj → j ≠ i → listed.getD j true = false → (∀ e ∈ oj.after, Region.binds md e = true → e.on ≠ i) → oi.apart ops oj = true) →
    i ∈ Region.ready md ops listed → YieldsIf P ops S oi v a → S w → wpS F n P md ops R S c fuel (listed.setIfInBounds i true) (a.put oi.dst v) w → wpS F n P md ops R S c (fuel + 1) listed a w := by
  intro fuel
  induction fuel with
  | zero =>
    intro listed a w _ _ hr hy hS H
    refine ⟨(fun e => by rw [e] at hr; cases hr), fun j hj => ?_⟩
    rcases Nat.decEq j i with e | e
    · have := ready_mono hj e
      rw [H.1] at this; cases this
    · subst e; exact opS_now hF hd hi hy hS ⟨fun _ => hS, H⟩
  | succ fuel ih =>
    intro listed a w hclo hfree hr hy hS H
    refine ⟨(fun e => by rw [e] at hr; cases hr), fun j hj => ?_⟩
    rcases Nat.decEq j i with e | e
    · obtain ⟨hjun, oj, hoj, hall⟩ := mem_ready.1 hj
      have h0 := (mem_ready.1 hr).1
      have hil : ¬ listed.getD i false = true := fun h1 => by
        by_cases hlt : i < listed.size
        · simp [hlt] at h0 h1; simp [h0] at h1
        · simp [hlt] at h1
      have hjc : (listed.setIfInBounds j true).getD c false = false := by
        rcases hic with h | ⟨f, h⟩
        · have := hclo.1
          simp [show ¬ c < listed.size by omega]
        · cases ec : ops[c]? with
          | none => cases f <;> simp [befB, ec] at h
          | some oc =>
            have hcl := (Array.getElem?_eq_some_iff.1 ec).1
            have hjc : j ≠ c := fun e2 => hil (bef_ready hclo h (e2 ▸ hj))
            rw [getD_set_ne false hjc]
            cases hc : listed.getD c false with
            | false => rfl
            | true => exact absurd (bef_listed hclo f c oc ec h (hclo.2 c oc ec (by
                have := hclo.1
                simpa [show c < listed.size by omega] using hc))) hil
      have hjc2 : ((listed.setIfInBounds i true).setIfInBounds j true).getD c false = false := by
        rw [Array.setIfInBounds_comm _ _ (Ne.symm e), getD_set_ne false hnc]; exact hjc
      have hno : ∀ e ∈ oj.after, Region.binds md e = true → e.on ≠ i := fun e he hb heq => hil (by rw [← heq]; exact hall e he hb)
      have h2 := opS_put hF hd hs hi hoj (hfree j oj hoj e hjun hno) hy (H.2 j (ready_mono hj e))
      refine wpOpIn_mono (fun a' w' k => ⟨fun _ => k.2.1 hjc2, ih _ a' w' (clo_step hclo hj) (fun x ox hx hxi hun hn => hfree x ox hx hxi ?_ hn) (ready_mono hr (Ne.symm e)) k.1 (k.2.1 hjc2) ?_⟩) h2
      · rcases Nat.decEq j x with e | e
        · rwa [getD_set_ne true e] at hun
        · subst e; exact hjun
      · rw [Array.setIfInBounds_comm _ _ e]; exact k.2.2
    · subst e; exact opS_now hF hd hi hy hS ⟨fun _ => hS, H⟩
theorem wpS_take {i c : Nat} (dst : Option Tmp) (f : Nat) {oi : Oper} {v : Value} {fuel : Nat} {listed : Array Bool} {a : Act} {w : World} (hF : ∀ f, F.fn f) (hd : noDefer ops = true) (hi : ops[i]? = some oi) (hs : Region.noSelect ops = true) (hf : Region.free md ops listed i = true) (hr : (Region.ready md ops listed).contains i = true)
    (hic : (!(i == c) && (c == ops.size || befB md ops i f c)) = true) (hdst : oi.dst = dst) (hy : YieldsIf P ops S oi v a) (hS : S w) (hclo : Hid (Clo md ops listed)) (h : Hid (Clo md ops (listed.setIfInBounds i true)) → wpS F n P md ops R S c fuel (listed.setIfInBounds i true) (a.put dst v) w) : wpS F n P md ops R S c (fuel + 1) listed a w := by
  subst hdst
  rw [Bool.and_eq_true, Bool.or_eq_true, beq_iff_eq, Bool.not_eq_true', beq_eq_false_iff_ne] at hic
  refine wpS_first hF hd hs hi hic.1 ?_ fuel listed a w hclo.out (Region.free_spec hi hf) (by simpa using hr) hy hS (h (Lib.hid (clo_step hclo.out (by simpa using hr))))
  exact hic.2.imp id fun h => ⟨f, h⟩
/-- The one operation that may come up now. -/
theorem wpS_one {i c : Nat} {o : Oper} {fuel : Nat} {listed : Array Bool} {a : Act} {w : World} (hr : Region.ready md ops listed = [i]) (ho : ops[i]? = some o) (hclo : Hid (Clo md ops listed))
    (h : ∀ K : Act → World → Prop, (∀ a w, ((listed.setIfInBounds i true).getD c false = false → S w) → (((listed.setIfInBounds i true).getD c false = false → S w) → Hid (Clo md ops (listed.setIfInBounds i true)) → wpS F n P md ops R S c fuel (listed.setIfInBounds i true) a w) → K a w) → if Region.wanted o (yielded ops a.tmps) = true then Oper.wpIn F n P o a w K (Nor R) else (∀ f, o.about P w a.eval = some f → F.fn f) ∧ K (a.put o.dst undef) w) :
    wpS F n P md ops R S c (fuel + 1) listed a w := by
  refine ⟨(fun e => by rw [e] at hr; cases hr), fun j hj => ?_⟩
  rw [hr, List.mem_singleton] at hj
  subst hj
  unfold wpOpIn
  rw [ho]
  exact h _ (fun a w hS k => ⟨hS, k hS (Lib.hid (clo_step hclo.out (by rw [hr]; exact List.mem_singleton.2 rfl)))⟩)
/-- Two may come up now. -/
theorem wpS_two {i j c : Nat} {o o2 : Oper} {fuel : Nat} {listed : Array Bool} {a : Act} {w : World} (hr : Region.ready md ops listed = [i, j]) (ho : ops[i]? = some o) (ho2 : ops[j]? = some o2) (hclo : Hid (Clo md ops listed))
    (h : ∀ K : Act → World → Prop, (∀ a w, ((listed.setIfInBounds i true).getD c false = false → S w) → (((listed.setIfInBounds i true).getD c false = false → S w) → Hid (Clo md ops (listed.setIfInBounds i true)) → wpS F n P md ops R S c fuel (listed.setIfInBounds i true) a w) → K a w) → if Region.wanted o (yielded ops a.tmps) = true then Oper.wpIn F n P o a w K (Nor R) else (∀ f, o.about P w a.eval = some f → F.fn f) ∧ K (a.put o.dst undef) w)
    (h2 : ∀ K : Act → World → Prop, (∀ a w, ((listed.setIfInBounds j true).getD c false = false → S w) → (((listed.setIfInBounds j true).getD c false = false → S w) → Hid (Clo md ops (listed.setIfInBounds j true)) → wpS F n P md ops R S c fuel (listed.setIfInBounds j true) a w) → K a w) → if Region.wanted o2 (yielded ops a.tmps) = true then Oper.wpIn F n P o2 a w K (Nor R) else (∀ f, o2.about P w a.eval = some f → F.fn f) ∧ K (a.put o2.dst undef) w) :
    wpS F n P md ops R S c (fuel + 1) listed a w := by
  refine ⟨(fun e => by rw [e] at hr; cases hr), fun k hk => ?_⟩
  have hk' := hk
  rw [hr, List.mem_cons, List.mem_singleton] at hk
  rcases hk with rfl | rfl
  · unfold wpOpIn
    rw [ho]
    exact h _ (fun a w hS k => ⟨hS, k hS (Lib.hid (clo_step hclo.out hk'))⟩)
  · unfold wpOpIn
    rw [ho2]
    exact h2 _ (fun a w hS k => ⟨hS, k hS (Lib.hid (clo_step hclo.out hk'))⟩)
theorem wpS_done {c : Nat} {listed : Array Bool} {a : Act} {w : World} (hr : Region.ready md ops listed = []) (h : R a w) : ∀ fuel, wpS F n P md ops R S c fuel listed a w
  | 0 => ⟨hr, h⟩
  | _ + 1 => ⟨fun _ => h, by rw [hr]; simp⟩
end

end Go.Proofs.Ytheifmdaladfdaa

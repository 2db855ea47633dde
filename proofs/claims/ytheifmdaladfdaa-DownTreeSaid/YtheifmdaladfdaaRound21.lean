/- Regions that draw their order inside a round of a range over a function, at the wide fence: what a plain walk of the orders shows holds in the round, too. Conditions: the region defers nothing, and is left normally. -/
import Derived.Test.YtheifmdaladfdaaDel21
import Derived.RangeFuncNested
import Derived.RangeFuncBound
import Derived.RangeFuncCalls
import Derived.RangeFuncLeaves
import Derived.Shelf.Abstract
import Derived.Shelf.RegionOpen
import Derived.OwnWalkIn
import Derived.TacticsInMore
import Derived.LoopNIn
import Derived.LoopIn
import Derived.Sort.QuietTacIn
namespace Go.Proofs.Ytheifmdaladfdaa
open Go.RowKit

/-- Only a normal way out. -/
def Nor (K : Act → World → Prop) : Exit → Act → World → Prop
  | .normal, a, w => K a w
  | _, _, _ => False
theorem nor_lets {K : Act → World → Prop} (h : LetsOut (Nor K)) : False := by
  obtain ⟨a, w, h⟩ := h
  exact h
def deferB : Op → Bool
  | .defer _ => true
  | _ => false
def noDefer (ops : Array Oper) : Bool := ops.toList.all fun o => !deferB o.op
theorem noDefer_spec {ops : Array Oper} (h : noDefer ops = true) {i : Nat} {o : Oper} (ho : ops[i]? = some o) : ∀ c, o.op ≠ .defer c := by
  intro c hc
  have hm : o ∈ ops.toList := by
    rw [← Array.getElem?_toList] at ho
    exact List.mem_of_getElem? ho
  have := List.all_eq_true.1 h o hm
  rw [hc] at this
  cases this
theorem rows_wide {n : Nat} {P : Program} {row : String} {args : Array Value} {w : World} {R : Value → World → Prop} (h : Rows P row args w R) : RowsIn Fence.wide n P row args w R :=
  fun c cs _ => let ⟨v, w', r, s⟩ := h c cs; ⟨v, w', r, stepsIn_wide.2 s⟩
theorem upon_round {l n : Nat} {P : Program} {o : Oper} {a : Act} {K K0 : Act → World → Prop} {Q : Exit → Act → World → Prop} {r : Result Next} (h : o.upon P a K (Nor K0) r) : o.uponIn (Fence.wide.inRound l) n P a K Q r := by
  cases r with
  | ok x w' =>
    cases x <;> simp only [Oper.upon] at h <;> simp only [Oper.uponIn]
    case value => exact h
    case skip => exact h
    case defer => exact h
    case enter f args =>
      refine ⟨(fun e => by cases e), CallsIn.inRound l (callsIn_wide.2 (h.mono fun e w'' he => ?_))⟩
      cases e with
      | returned v => exact he
      | panicked c => exact he.elim
      | outgrown => exact (nor_lets he).elim
    case row row args => exact ⟨(fun e => by cases e), rows_wide h⟩
  | halt x w' => cases x <;> simp only [Oper.upon, Nor] at h
theorem wpOp_round {l n : Nat} {P : Program} {ops : Array Oper} {i : Nat} {K K0 : Act → World → Prop} {Q : Exit → Act → World → Prop} {a : Act} {w : World} (hd : noDefer ops = true) (h : wpOp P ops (Nor K0) i K a w) : wpOpIn (Fence.wide.inRound l) n P ops Q i K a w := by
  unfold wpOp at h
  unfold wpOpIn
  cases ho : ops[i]? with
  | none => simpa only [ho] using h
  | some o =>
    simp only [ho] at h ⊢
    split
    · rename_i hw
      simp only [hw, if_true] at h
      rcases h with h | ⟨_, h⟩
      · refine ⟨fun _ _ => trivial, ?_⟩
        rw [Fence.inRound_round, Oper.semAt_some l _ _ (noDefer_spec hd ho)]
        exact upon_round h
      · exact (nor_lets h).elim
    · rename_i hw
      simp only [hw] at h
      exact ⟨fun _ _ => trivial, h⟩
theorem wpAny_round {l n : Nat} {P : Program} {md : Region.Mode} {ops : Array Oper} {K : Act → World → Prop} {Q : Exit → Act → World → Prop} (hd : noDefer ops = true) (hK : ∀ a w, K a w → Q .normal a w) :
    ∀ (fuel : Nat) (listed : Array Bool) (a : Act) (w : World), wpAny P md ops (Nor K) fuel listed a w → wpAnyIn (Fence.wide.inRound l) n P md ops Q fuel listed a w
  | 0, _, _, _, h => ⟨h.1, hK _ _ h.2⟩
  | fuel + 1, _, _, _, h => ⟨fun e => hK _ _ (h.1 e), fun i hi => wpOpIn_mono (fun a' w' => wpAny_round hd hK fuel _ a' w') (wpOp_round hd (h.2 i hi))⟩
/-- A region that draws, walked in the plain way, inside a round. -/
theorem region_round {l n id : Nat} {P : Program} {ops : Array Oper} {Q : Exit → Act → World → Prop} {a : Act} {w : World} (K : Act → World → Prop) (hm : P.follows .mixedOrders = true) (hd : noDefer ops = true) (hK : ∀ a w, K a w → Q .normal a w)
    (h : wpAny P .any ops (Nor K) ops.size (Array.replicate ops.size false) a w.drew) : (Code.region id ops true).wpIn (Fence.wide.inRound l) n P Q a w :=
  wpIn_region_any hm (wpAny_round hd hK _ _ _ _ h)
theorem region_held_round {l n id : Nat} {P : Program} {ops : Array Oper} {Q : Exit → Act → World → Prop} {a : Act} {w : World} (K : Act → World → Prop) (S : World → Prop) (hm : P.follows .mixedOrders = true) (hd : noDefer ops = true) (hK : ∀ a w, K a w → Q .normal a w) (hS : S w.drew)
    (h : S w.drew → wpAnyH P .any ops (Nor K) S ops.size (Array.replicate ops.size false) a w.drew) : (Code.region id ops true).wpIn (Fence.wide.inRound l) n P Q a w :=
  region_round K hm hd hK (wpAny_of_held _ _ _ _ (h hS))
/-- .. whose operations only read. -/
theorem region_quiet_round {l n id : Nat} {P : Program} {ops : List Oper} {Q : Exit → Act → World → Prop} {a : Act} {w : World} (hm : P.follows .mixedOrders = true) (hd : noDefer ops.toArray = true) (hB : Region.lexB .any ops.toArray = true)
    (h : wpQuiet P ops.toArray (fun w' => ∃ n, w' = w.drewN n) (fun a' => ∀ w', (∃ n, w' = w.drewN n) → Q .normal a' w') ops a) : (Code.region id ops.toArray true).wpIn (Fence.wide.inRound l) n P Q a w := by
  simp only [Region.lexB, Bool.and_eq_true] at hB
  refine region_round (fun a' w' => Q .normal a' w') hm hd (fun _ _ h => h) ?_
  refine wpAny_of_quiet (Q' := Nor fun a' w' => Q .normal a' w') (C := fun w' => ∃ n, w' = w.drewN n) (Q := fun a' => ∀ w', (∃ n, w' = w.drewN n) → Q .normal a' w') (fun _ w' hw' h => h w' hw') _ _ _ w.drew ⟨1, rfl⟩ ?_
  have := wpAnyQ_lex (C := fun w' => ∃ n, w' = w.drewN n) (md := .any) hB.1 ops.toArray.toList 0 (Array.replicate ops.toArray.size false) a (by simp) (by simpa using hB.2) (by simpa using h)
  simpa using this

end Go.Proofs.Ytheifmdaladfdaa

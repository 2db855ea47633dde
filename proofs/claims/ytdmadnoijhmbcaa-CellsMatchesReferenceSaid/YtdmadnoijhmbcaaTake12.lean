/- Regions that draw their order: the kit's laws for them with sizes written out; an operation that is not wanted is taken at once. No program is in sight here. -/
import Derived.Deep.RegionHeld3
namespace Go.Proofs.Ytdmadnoijhmbcaa
section
variable {P : Program} {ops : Array Oper} {Q : Exit → Act → World → Prop} {md : Region.Mode} {S : World → Prop}

theorem region_H {id : Nat} {a : Act} {w : World} (sz : Nat) (l0 : Array Bool) (hsz : ops.size = sz) (hl0 : Array.replicate sz false = l0) (S : World → Prop) (hm : P.follows .mixedOrders = true) (hS : S w.drew)
    (h : S w.drew → wpAnyH P .any ops Q S sz l0 a w.drew) : (Code.region id ops true).wp P Q a w := by
  subst hsz hl0
  exact wp_region_held_drew hm hS h
theorem wpH_take {i : Nat} (dst : Option Tmp) {oi : Oper} {v : Value} {fuel : Nat} {listed : Array Bool} {a : Act} {w : World} (hi : ops[i]? = some oi)
    (hs : Region.noSelect ops = true) (hf : Region.free md ops listed i = true) (hr : (Region.ready md ops listed).contains i = true)
    (hdst : oi.dst = dst) (hQ : ∀ c a w, Q (.panic c) (a.put dst v) w → Q (.panic c) a w) (hy : YieldsIf P ops S oi v a) (hS : S w)
    (h : wpAnyH P md ops Q S fuel (listed.setIfInBounds i true) (a.put dst v) w) : wpAnyH P md ops Q S (fuel + 1) listed a w := by
  subst hdst
  exact wpAnyH_take hi hs hf hr hQ hy hS h
/-- The one operation that may come up now. -/
theorem wpH_one {i : Nat} {o : Oper} {fuel : Nat} {listed : Array Bool} {a : Act} {w : World} (hr : Region.ready md ops listed = [i]) (ho : ops[i]? = some o)
    (h : ∀ K' : Act → World → Prop, Shut (∀ a w, S w → (S w → wpAnyH P md ops Q S fuel (listed.setIfInBounds i true) a w) → K' a w) → if Region.wanted o (yielded ops a.tmps) = true then Oper.wp P o a w K' Q else K' (a.put o.dst undef) w) : wpAnyH P md ops Q S (fuel + 1) listed a w :=
  wpAnyH_ready hr (by simp) (AllReadyH.cons ho h AllReadyH.nil)
end

end Go.Proofs.Ytdmadnoijhmbcaa

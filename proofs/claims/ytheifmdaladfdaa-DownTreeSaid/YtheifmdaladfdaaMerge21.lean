/- Merging what is told into routes, and that it says of each target what is learnt. No program is in sight here. -/
import Derived.Test.YtheifmdaladfdaaNews21
namespace Go.Proofs.Ytheifmdaladfdaa

def nwD (c f : Int) (x : Dn) : Dn := ⟨x.t, c, x.s, f + 3⟩
def mrg (c f : Int) : List Dn → List Dn → List Dn
  | [], r => r
  | x :: xs, r => r.takeWhile (fun d => decide (d.t < x.t)) ++ (match r.dropWhile (fun d => decide (d.t < x.t)) with
    | [] => nwD c f x :: mrg c f xs []
    | y :: ys => if y.t = x.t then (if lrKeep y c (nwD c f x) = true then y else nwD c f x) :: mrg c f xs ys else nwD c f x :: mrg c f xs (y :: ys))
variable {c f : Int}
theorem mrg_skip {x : Dn} {xs : List Dn} {d : Dn} {r : List Dn} (h : d.t < x.t) : mrg c f (x :: xs) (d :: r) = d :: mrg c f (x :: xs) r := by
  simp [mrg, h]
theorem mrg_nil {x : Dn} {xs : List Dn} : mrg c f (x :: xs) [] = nwD c f x :: mrg c f xs [] := by simp [mrg]
theorem mrg_lt {x : Dn} {xs : List Dn} {y : Dn} {ys : List Dn} (h : x.t < y.t) : mrg c f (x :: xs) (y :: ys) = nwD c f x :: mrg c f xs (y :: ys) := by
  have h1 : ¬ y.t < x.t := by omega
  have h2 : ¬ y.t = x.t := by omega
  simp [mrg, h1, h2]
theorem mrg_keep {x : Dn} {xs : List Dn} {y : Dn} {ys : List Dn} (h : y.t = x.t) (hk : lrKeep y c (nwD c f x) = true) : mrg c f (x :: xs) (y :: ys) = y :: mrg c f xs ys := by
  have h1 : ¬ y.t < x.t := by omega
  simp [mrg, h, hk]
theorem mrg_new {x : Dn} {xs : List Dn} {y : Dn} {ys : List Dn} (h : y.t = x.t) (hk : lrKeep y c (nwD c f x) = false) : mrg c f (x :: xs) (y :: ys) = nwD c f x :: mrg c f xs ys := by
  have h1 : ¬ y.t < x.t := by omega
  simp [mrg, h, hk]
/-- Only targets and numbers of what is told matter. -/
theorem mrg_key : ∀ {xs xs' : List Dn} (r : List Dn), xs.map keyD = xs'.map keyD → mrg c f xs r = mrg c f xs' r
  | [], [], _, _ => rfl
  | [], _ :: _, _, h => by simp at h
  | _ :: _, [], _, h => by simp at h
  | x :: xs, y :: ys, r, h => by
    simp only [List.map_cons, List.cons.injEq] at h
    obtain ⟨h1, h2⟩ := h
    have ht : x.t = y.t := congrArg Prod.fst h1
    have hs : x.s = y.s := congrArg Prod.snd h1
    have hn : nwD c f x = nwD c f y := by simp [nwD, ht, hs]
    simp only [mrg, ht, hn]
    cases e : r.dropWhile (fun d => decide (d.t < y.t)) with
    | nil => simp only []; rw [mrg_key [] h2]
    | cons z zs => simp only []; rw [mrg_key zs h2, mrg_key (z :: zs) h2]
/-- What the walk carries between two rounds. -/
def MrgO (c f : Int) (ls out rest pre : List Dn) : Prop := ∀ more, out ++ mrg c f more rest = mrg c f (pre ++ more) ls
/-- .. and inside a round. -/
def MrgI (c f : Int) (ls out rest pre : List Dn) (x : Dn) : Prop := ∀ more, out ++ mrg c f (x :: more) rest = mrg c f (pre ++ x :: more) ls
variable {ls out rest pre : List Dn} {x : Dn}
theorem MrgO.start : MrgO c f ls [] ls [] := fun _ => rfl
theorem MrgO.go (h : MrgO c f ls out rest pre) (x : Dn) : MrgI c f ls out rest pre x := fun more => h (x :: more)
theorem MrgI.skip {d : Dn} {r : List Dn} (h : MrgI c f ls out (d :: r) pre x) (hd : d.t < x.t) : MrgI c f ls (out ++ [d]) r pre x := fun more => by
  have := h more
  rw [mrg_skip hd] at this
  rw [← this]; simp
theorem MrgI.fin {o2 r2 : List Dn} (h : MrgI c f ls out rest pre x) (e : ∀ more, mrg c f (x :: more) rest = o2 ++ mrg c f more r2) : MrgO c f ls (out ++ o2) r2 (pre ++ [x]) := fun more => by
  have := h more
  rw [e] at this
  rw [List.append_assoc, this]; simp
theorem MrgI.nil (h : MrgI c f ls out [] pre x) : MrgO c f ls (out ++ [nwD c f x]) [] (pre ++ [x]) := h.fin fun more => by rw [mrg_nil]; rfl
theorem MrgI.lt {y : Dn} {ys : List Dn} (h : MrgI c f ls out (y :: ys) pre x) (hy : x.t < y.t) : MrgO c f ls (out ++ [nwD c f x]) (y :: ys) (pre ++ [x]) := h.fin fun more => by rw [mrg_lt hy]; rfl
theorem MrgI.keep {y : Dn} {ys : List Dn} (h : MrgI c f ls out (y :: ys) pre x) (hy : y.t = x.t) (hk : lrKeep y c (nwD c f x) = true) : MrgO c f ls (out ++ [y]) ys (pre ++ [x]) := h.fin fun more => by rw [mrg_keep hy hk]; rfl
theorem MrgI.new {y : Dn} {ys : List Dn} (h : MrgI c f ls out (y :: ys) pre x) (hy : y.t = x.t) (hk : lrKeep y c (nwD c f x) = false) : MrgO c f ls (out ++ [nwD c f x]) ys (pre ++ [x]) := h.fin fun more => by rw [mrg_new hy hk]; rfl
theorem MrgO.done {xs : List Dn} (h : MrgO c f ls out rest xs) : out ++ rest = mrg c f xs ls := by
  have := h []
  rwa [List.append_nil] at this

end Go.Proofs.Ytheifmdaladfdaa

/- TopChain: the walk, as the row asks for it: two slices of structs and a number. -/
import Derived.Test.YthnilgmafbkdkaaChain17
namespace Go.Proofs.Ythnilgmafbkdkaa
open Go.RowKit

theorem ck_of {cs : List Value} (h : okCells [some .i64, some .i64] cs) : ∃ c : Ck, cs = ckL.f c ∧ True := by
  simp only [okCells] at h
  obtain ⟨a, _, rfl, _, b, _, rfl, _, rfl⟩ := h
  exact ⟨⟨a, b⟩, rfl, trivial⟩
def Hop.ok (h : Hop) : Prop := 0 ≤ h.f ∧ h.f ≤ 255 ∧ 0 ≤ h.t ∧ h.t ≤ 255 ∧ 0 ≤ h.w ∧ h.w ≤ 65535
theorem has_u8 {n : Int} (h : IntKind.u8.has n) : 0 ≤ n ∧ n ≤ 255 := by
  simpa [IntKind.has, IntKind.min, IntKind.max, IntKind.signed, IntKind.bits] using h
theorem has_u16 {n : Int} (h : IntKind.u16.has n) : 0 ≤ n ∧ n ≤ 65535 := by
  simpa [IntKind.has, IntKind.min, IntKind.max, IntKind.signed, IntKind.bits] using h
theorem has_u32 {n : Int} (h : IntKind.u32.has n) : 0 ≤ n ∧ n ≤ 4294967295 := by
  simpa [IntKind.has, IntKind.min, IntKind.max, IntKind.signed, IntKind.bits] using h
theorem hop_of {cs : List Value} (h : okCells [some .u8, some .u8, some .u16] cs) : ∃ c : Hop, cs = hopL.f c ∧ c.ok := by
  simp only [okCells] at h
  obtain ⟨a, _, rfl, ha, b, _, rfl, hb, c, _, rfl, hc, rfl⟩ := h
  exact ⟨⟨a, b, c⟩, rfl, (has_u8 ha).1, (has_u8 ha).2, (has_u8 hb).1, (has_u8 hb).2, (has_u16 hc).1, (has_u16 hc).2⟩

theorem topChain_walk (v : Value) (cs : List Ck) (u : Value) (hs : List Hop) (q : Int) (w : World) (sl : SlV w v 2 (cs.map ckL.f)) (_ : ∀ c ∈ cs, True) (sh : SlV w u 3 (hs.map hopL.f)) (hr : ∀ h ∈ hs, h.ok) (hq : IntKind.u32.has q) :
    Calls Try.prog 4 #[v, u, .int .u32 q] w fun e w' => e = .returned (.bool true) ∧ Below w.heap.size w w' :=
  chain_walk v u cs hs q w sl sh (has_u32 hq).1 (has_u32 hq).2 hr

end Go.Proofs.Ythnilgmafbkdkaa

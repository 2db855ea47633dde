/- What errors.Is returns at two values of the program's own type of errors: whether they are equal. -/
import Derived.Test.YtfclodgfifbfbaaChecked
import Derived.Test.YtfclodgfifbfbaaKit
import Derived.WalkKit
import Derived.LaidEql
import Derived.Stop.Asserts
import Derived.RowKitTokens
namespace Go.Proofs.Ytfclodgfifbfbaa
open Go.RowKit Go.Extern.Stop Go.Stop Go.Extern

theorem run_equalIn_iface_int {P : Program} (w : World) (d : Nat) {ti tn : TypeId} {ms : Array (String × TypeId)} {i : TypeInfo} {k : IntKind} (a b : Int)
    (hi : P.underlying ti = some (.interface ms)) (hn : P.underlying tn = some (.int k)) (hinfo : P.info? tn = some i) (hcomp : i.comparable = true) :
    (Op.equalIn (d + 2) ti (.iface tn (.int k a)) (.iface tn (.int k b))).run P w = .ok (a == b) w := by
  simp [Op.equalIn, run_underlying hi, run_underlying hn, typeInfo, hinfo, hcomp]

/-- 'x == y', both interface values of one integer type: as the numbers are. -/
theorem run_eql_iface_int {P : Program} (w : World) {ti tn : TypeId} {ms : Array (String × TypeId)} {i : TypeInfo} {k : IntKind} (a b : Int)
    (hi : P.underlying ti = some (.interface ms)) (hn : P.underlying tn = some (.int k)) (hinfo : P.info? tn = some i) (hcomp : i.comparable = true) :
    (binOp .eql ti (.iface tn (.int k a)) (.iface tn (.int k b))).run P w = .ok (.bool (a == b)) w := by
  simp only [binOp]
  simp [Op.equal, Op.maxDepth, run_equalIn_iface_int w 9998 a b hi hn hinfo hcomp]

theorem isTypeOf (v : Value) (w : World) : (Extern.ReflectliteType.typeOf #[.iface 29 v]).run Try.prog w = .ok (.iface 78 (.agg #[.pointer (some ⟨0, 29, none⟩)])) w := by kernel_rfl
/-- The model's entry behind 'Comparable'. -/
def cmpF : Array Value → Sem Value := Extern.ReflectliteType.method fun t => do Extern.Rtype.noPackHeld "Comparable" t; pure (.bool (← typeInfo t).comparable)
theorem isComparable (w : World) : (cmpF #[.agg #[.pointer (some ⟨0, 29, none⟩)]]).run Try.prog w = .ok (.bool true) w := by kernel_rfl
theorem isMethodComparable (n : Nat) (v : Value) (w : World) : (Go.method (n + 2) 78 v "Comparable").run Try.prog w = .ok (70, v) w := by kernel_rfl
theorem isComp : (Try.prog.info? 29).map (·.comparable) = some true := by kernel_rfl

theorem noIs (v : Value) (xT : TypeId) (w : World) : (Instr.typeAssert (.iface 29 v) xT 80 true).run Try.prog w = .ok (.tuple #[.nilIface, .bool false]) w := run_typeAssert_lacksB Try.underlying80 (by kernel_rfl) (by kernel_rfl) v xT w
theorem noUnwrap (v : Value) (xT : TypeId) (w : World) : (Instr.typeAssert (.iface 29 v) xT 83 true).run Try.prog w = .ok (.tuple #[.nilIface, .bool false]) w := run_typeAssert_lacksB Try.underlying83 (by kernel_rfl) (by kernel_rfl) v xT w
theorem noUnwraps (v : Value) (xT : TypeId) (w : World) : (Instr.typeAssert (.iface 29 v) xT 85 true).run Try.prog w = .ok (.tuple #[.nilIface, .bool false]) w := run_typeAssert_lacksB Try.underlying85 (by kernel_rfl) (by kernel_rfl) v xT w

set_option maxRecDepth 100000 in
set_option maxHeartbeats 2000000 in
theorem is_errno (a b : Int) (r : Bool) (w : World) (hr : (a == b) = r) :
    Calls Try.prog 29 #[.iface 29 (.int .i64 a), .iface 29 (.int .i64 b)] w fun e w' => e = .returned (.bool r) ∧ w = w' := by
  obtain ⟨i, hi, hcmp⟩ := Option.map_eq_some_iff.1 isComp
  have h8 := @run_callFunc_extern Try.prog 46 _ Extern.ReflectliteType.typeOf Try.func46 (by kernel_rfl) (by kernel_rfl) (by kernel_rfl) (by kernel_rfl)
  have h32 := @run_callFunc_extern Try.prog 70 _ cmpF Try.func70 (by kernel_rfl) (by kernel_rfl) (by kernel_rfl) (by kernel_rfl)
  have tT := isTypeOf
  have cT := isComparable
  have mR := isMethodComparable
  have nE := noIs
  have uE := noUnwrap
  have vE := noUnwraps
  have heq := run_eql_iface_int (P := Try.prog) w (k := .i64) a b Try.underlying70 Try.underlying29 hi hcmp
  rw [hr] at heq
  clear hr
  cases r
  · go_enter Try.func29, Try.ntmps29
    go_wp2
    refine wp_loop_rounds 1 ?_
    rw [rounds_succ]
    go_wp2
    go_ret
    exact ⟨rfl, rfl⟩
  · go_enter Try.func29, Try.ntmps29
    go_wp2
    refine wp_loop_rounds 1 ?_
    rw [rounds_succ]
    go_wp2
    go_ret
    exact ⟨rfl, rfl⟩

end Go.Proofs.Ytfclodgfifbfbaa

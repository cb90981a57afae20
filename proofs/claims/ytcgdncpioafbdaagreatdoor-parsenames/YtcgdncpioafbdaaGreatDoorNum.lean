/- errors.Is at strconv's error of a range, and at nil; lex.num: a number at the beginning. -/
import Derived.Test.YtcgdncpioafbdaaGreatDoorProg
import Derived.WalkKit
import Derived.WalkSpells
import Derived.LaidEql
import Derived.Stop.Asserts
import Derived.RowKitTokens
import Derived.Outline
namespace Go.Proofs.YtcgdncpioafbdaaGreatDoor.Q
open Go Go.RowKit Go.Extern.Stop Go.Stop Go.Extern

theorem isTypeOf (v : Value) (w : World) : (Extern.ReflectliteType.typeOf #[.iface 398 v]).run Tryz.prog w = .ok (.iface 323 (.agg #[.pointer (some ⟨9, 398, none⟩)])) w := by kernel_rfl
theorem isComparable (w : World) : ((Extern.ReflectliteType.method fun t => do Extern.Rtype.noPackHeld "Comparable" t; (fun a => Value.bool a.comparable) <$> typeInfo t) #[.agg #[.pointer (some ⟨9, 398, none⟩)]]).run Tryz.prog w = .ok (.bool true) w := by kernel_rfl
theorem isMethodComparable (v : Value) (w : World) : (Go.method 540 323 v "Comparable").run Tryz.prog w = .ok (393, v) w := by kernel_rfl
theorem methodUnwrap (v : Value) (w : World) : (Go.method 540 319 v "Unwrap").run Tryz.prog w = .ok (389, v) w := by kernel_rfl
theorem isComp : (Tryz.prog.info? 398).map (·.comparable) = some true := by kernel_rfl
theorem isSize : (Tryz.prog.info? 400).map (·.size) = some 1 := by kernel_rfl
theorem noIsW (v : Value) (xT : TypeId) (w : World) : (Instr.typeAssert (.iface 319 v) xT 325 true).run Tryz.prog w = .ok (.tuple #[.nilIface, .bool false]) w := run_typeAssert_lacksB Tryz.underlying325 (by kernel_rfl) (by kernel_rfl) v xT w
theorem hasUnwrapW (v : Value) (xT : TypeId) (w : World) : (Instr.typeAssert (.iface 319 v) xT 328 true).run Tryz.prog w = .ok (.tuple #[.iface 319 v, .bool true]) w := run_typeAssert_hasB Tryz.underlying328 (by kernel_rfl) v xT w

set_option maxRecDepth 100000 in
theorem is_range (N : Nat) (b : Addr) (w : World) (h1 : w.cell? ⟨N, 2, none⟩ = some (.iface 398 (.pointer (some b)))) :
    Calls Tryz.prog 124 #[.iface 319 (.pointer (some ⟨N, 0, none⟩)), .iface 398 (.pointer (some b))] w fun e w' => e = .returned (.bool true) ∧ w' = w := by
  obtain ⟨i, hi, hcmp⟩ := Option.map_eq_some_iff.1 isComp
  obtain ⟨j, hj, hjs⟩ := Option.map_eq_some_iff.1 isSize
  have h8 := @run_callFunc_extern Tryz.prog 208 _ Extern.ReflectliteType.typeOf Tryz.func208 (by kernel_rfl) (by kernel_rfl) (by kernel_rfl) (by kernel_rfl)
  have h32 := @run_callFunc_extern Tryz.prog 393 _ (Extern.ReflectliteType.method fun t => do Extern.Rtype.noPackHeld "Comparable" t; pure (.bool (← typeInfo t).comparable)) Tryz.func393 (by kernel_rfl) (by kernel_rfl) (by kernel_rfl) (by kernel_rfl)
  have tT := isTypeOf
  have cT := isComparable
  have mR := isMethodComparable
  have mU := methodUnwrap
  have nW := noIsW
  have uW := hasUnwrapW
  have heq := run_eql_iface_ptr_same (P := Tryz.prog) w b Tryz.underlying163 Tryz.underlying398 hi hcmp hj
  have hty := run_eql_iface_types (P := Tryz.prog) 319 398 (.pointer (some ⟨N, 0, none⟩)) (.pointer (some b)) Tryz.underlying163 (by decide) w
  go_enter Tryz.func124, Tryz.ntmps124
  go_wp2
  refine wp_loop_rounds 2 ?_
  rw [rounds_succ]
  go_wp2
  rw [rounds_succ]
  go_wp2
  go_ret
  exact ⟨rfl, rfl⟩

set_option maxRecDepth 100000 in
theorem is_nil (b : Addr) (w : World) :
    Calls Tryz.prog 124 #[.nilIface, .iface 398 (.pointer (some b))] w fun e w' => e = .returned (.bool false) ∧ w' = w := by
  have hn := run_eql_iface_nil_left (P := Tryz.prog) w 398 (.pointer (some b)) Tryz.underlying163
  go_enter Tryz.func124, Tryz.ntmps124
  go_wp2
  go_ret
  exact ⟨rfl, rfl⟩

end Go.Proofs.YtcgdncpioafbdaaGreatDoor.Q

/- Closed facts of the program, one theorem each (by wip/facts.py). -/
import Derived.Test.YtcgdncpioafbdaaGreatDoorRows
import Derived.ProofKit
import Derived.SevenTiedAt
import Derived.JoinedOf
import Derived.KernelRfl
namespace Go.Proofs.YtcgdncpioafbdaaGreatDoor.Fx
open Go
set_option maxRecDepth 100000
theorem both {a b : Bool} (h : a = true) (k : b = true) : (a && b) = true := by rw [h, k]; rfl
theorem p2 : laidOutB Tryz.prog = true := by kernel_rfl
theorem p3 : mapsRowed Tryz.prog = true := by kernel_rfl
theorem p7 : (Tryz.prog.stops == []) = true := by kernel_rfl
theorem p9 : (Tryz.prog.stopKnobs == []) = true := by kernel_rfl
theorem p22 : (false == Tryz.prog.plainKeys) = true := by kernel_rfl
theorem p23b : Tryz.prog.stopsHeard = true := by kernel_rfl
theorem p24 : Tryz.prog.mayEnter = true := by kernel_rfl
theorem p24b : ((Rows.lexJoinsRow).lifted == Tryz.prog.liftsFinal) = true := by kernel_rfl
theorem p24c : (Tryz.prog.make == some (Rows.lexJoinsRow).make) = true := by kernel_rfl
theorem pm : Tryz.prog.mainIs = some (true, "890fae4095338e243913fac227808f3884bb7d0425187019eadb0545e2bf9cfc".toList) := by kernel_rfl
theorem pl : true = Tryz.prog.looks [] := by kernel_rfl
end Go.Proofs.YtcgdncpioafbdaaGreatDoor.Fx

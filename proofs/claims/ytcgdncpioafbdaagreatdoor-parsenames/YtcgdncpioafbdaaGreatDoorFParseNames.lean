/- Closed facts of the row of ParseNames, one theorem each (by wip/facts.py). -/
import Derived.Test.YtcgdncpioafbdaaGreatDoorFP
namespace Go.Proofs.YtcgdncpioafbdaaGreatDoor.FxParseNames
open Go
set_option maxRecDepth 100000
theorem k1 : Rows.parseNamesRow.wf (OpenSpec.ofChange Rows.parseNamesSpec) = true := by kernel_rfl
theorem k4 : Tryz.f11.params.all (Tryz.prog.readableRec ·) = true := by kernel_rfl
theorem k5 : namedTie Tryz.prog Rows.parseNamesRow.named Rows.parseNamesSpec.vars = true := by kernel_rfl
theorem k10 : (Rows.parseNamesRow.inPlace == Tryz.prog.inPlace 11) = true := by kernel_rfl
theorem k11 : (Rows.parseNamesRow.unfollowed == Tryz.prog.unfollowed 11) = true := by kernel_rfl
theorem k12 : (Rows.parseNamesRow.recurses == Tryz.prog.recurses 11) = true := by kernel_rfl
theorem k13 : (Rows.parseNamesRow.named == Tryz.prog.varsNamed 11) = true := by kernel_rfl
theorem k14 : (Rows.parseNamesRow.maps == (Tryz.f11.params.toList ++ Rows.parseNamesSpec.plain.varTypes Tryz.prog).any (Tryz.prog.mapsRec ·)) = true := by kernel_rfl
theorem k15 : (Rows.parseNamesRow.ifaces == (Tryz.f11.params.toList ++ Rows.parseNamesSpec.plain.varTypes Tryz.prog).any (Tryz.prog.ifacesRec ·)) = true := by kernel_rfl
theorem k16 : (Rows.parseNamesRow.mapsOut == Tryz.prog.mapsAmong Tryz.f11.resultTypes.toList) = true := by kernel_rfl
theorem k17 : (Rows.parseNamesRow.loops == (Tryz.f11.params.toList ++ Rows.parseNamesSpec.plain.varTypes Tryz.prog).any (Tryz.prog.loopsFrom ·)) = true := by kernel_rfl
theorem k17b : (Rows.parseNamesRow.wideKeys == (Tryz.f11.params.toList ++ Rows.parseNamesSpec.plain.varTypes Tryz.prog ++ Tryz.f11.resultTypes.toList).any (Tryz.prog.wideKeysFrom ·)) = true := by kernel_rfl
theorem k18 : Rows.parseNamesSpec.vars.all (Tryz.prog.varReadable ·) = true := by kernel_rfl
theorem k19 : Tryz.f11.resultTypes.all (fun t => Tryz.prog.readableRec t && decide (t < Tryz.prog.types.size)) = true := by kernel_rfl
theorem k20 : (Rows.parseNamesRow.ifacesOut == Tryz.f11.resultTypes.toList.any (Tryz.prog.ifacesRec ·)) = true := by kernel_rfl
theorem k21 : (Rows.parseNamesRow.loopsOut == Tryz.f11.resultTypes.toList.any (Tryz.prog.loopsFrom ·)) = true := by kernel_rfl
theorem k25 : (Rows.parseNamesRow.kinds == (if Rows.parseNamesRow.domain.isEmpty then [] else Tryz.f11.params.toList.map fun t => match Tryz.prog.underlying t with | some (.int k) => some k | _ => none)) = true := by kernel_rfl
theorem k26 : (Rows.parseNamesRow.pinned == Rows.parseNamesRow.pinnedBy) = true := by kernel_rfl
theorem k27 : (Rows.parseNamesRow.veiled == (Tryz.f11.params.toList ++ Rows.parseNamesSpec.plain.varTypes Tryz.prog ++ Tryz.f11.resultTypes.toList).any (Tryz.prog.veiledRec ·)) = true := by kernel_rfl
theorem k28 : Rows.parseNamesRow.veiledFits Tryz.prog Tryz.f11.params.toList (Tryz.f11.params.toList ++ Rows.parseNamesSpec.plain.varTypes Tryz.prog ++ Tryz.f11.resultTypes.toList) = true := by kernel_rfl
theorem name : Tryz.prog.funcNamed Rows.parseNamesRow.func = some 11 := by kernel_rfl
theorem wft : Rows.parseNamesRow.wfByText (OpenSpec.ofChange Rows.parseNamesSpec) = true := by kernel_rfl
theorem goes : false = Rows.parseNamesRow.goesBy Tryz.prog := by kernel_rfl
theorem noInit : Tryz.prog.inits.idxOf? 11 = none := by kernel_rfl
theorem stand : ([9].all fun u => !Tryz.prog.wantsStandIn u) = true := by kernel_rfl
theorem joined : joinedFacts Tryz.prog 11 Tryz.f11 Rows.parseNamesSpec Rows.parseNamesRow = true := by
  exact (Fx.both (Fx.both (Fx.both (Fx.both (Fx.both (Fx.both (Fx.both (Fx.both (Fx.both (Fx.both (Fx.both (Fx.both (Fx.both (Fx.both (Fx.both (Fx.both (Fx.both (Fx.both (Fx.both (Fx.both (Fx.both (Fx.both (Fx.both (Fx.both (Fx.both (Fx.both (Fx.both (Fx.both (Fx.both (Fx.both (Fx.both k1 Fx.p2) Fx.p3) k4) k5) rfl) Fx.p7) rfl) Fx.p9) k10) k11) k12) k13) k14) k15) k16) k17) k17b) k18) k19) k20) k21) Fx.p22) rfl) Fx.p23b) Fx.p24) Fx.p24b) Fx.p24c) k25) k26) k27) k28)
end Go.Proofs.YtcgdncpioafbdaaGreatDoor.FxParseNames

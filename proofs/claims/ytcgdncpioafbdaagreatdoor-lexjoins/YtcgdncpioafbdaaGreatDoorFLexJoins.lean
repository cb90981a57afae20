/- Closed facts of the row of LexJoins, one theorem each (by wip/facts.py). -/
import Derived.Test.YtcgdncpioafbdaaGreatDoorFP
namespace Go.Proofs.YtcgdncpioafbdaaGreatDoor.FxLexJoins
open Go
set_option maxRecDepth 100000
theorem k1 : Rows.lexJoinsRow.wf (OpenSpec.ofChange Rows.lexJoinsSpec) = true := by kernel_rfl
theorem k4 : Tryz.f8.params.all (Tryz.prog.readableRec ·) = true := by kernel_rfl
theorem k5 : namedTie Tryz.prog Rows.lexJoinsRow.named Rows.lexJoinsSpec.vars = true := by kernel_rfl
theorem k10 : (Rows.lexJoinsRow.inPlace == Tryz.prog.inPlace 8) = true := by kernel_rfl
theorem k11 : (Rows.lexJoinsRow.unfollowed == Tryz.prog.unfollowed 8) = true := by kernel_rfl
theorem k12 : (Rows.lexJoinsRow.recurses == Tryz.prog.recurses 8) = true := by kernel_rfl
theorem k13 : (Rows.lexJoinsRow.named == Tryz.prog.varsNamed 8) = true := by kernel_rfl
theorem k14 : (Rows.lexJoinsRow.maps == (Tryz.f8.params.toList ++ Rows.lexJoinsSpec.plain.varTypes Tryz.prog).any (Tryz.prog.mapsRec ·)) = true := by kernel_rfl
theorem k15 : (Rows.lexJoinsRow.ifaces == (Tryz.f8.params.toList ++ Rows.lexJoinsSpec.plain.varTypes Tryz.prog).any (Tryz.prog.ifacesRec ·)) = true := by kernel_rfl
theorem k16 : (Rows.lexJoinsRow.mapsOut == Tryz.prog.mapsAmong Tryz.f8.resultTypes.toList) = true := by kernel_rfl
theorem k17 : (Rows.lexJoinsRow.loops == (Tryz.f8.params.toList ++ Rows.lexJoinsSpec.plain.varTypes Tryz.prog).any (Tryz.prog.loopsFrom ·)) = true := by kernel_rfl
theorem k17b : (Rows.lexJoinsRow.wideKeys == (Tryz.f8.params.toList ++ Rows.lexJoinsSpec.plain.varTypes Tryz.prog ++ Tryz.f8.resultTypes.toList).any (Tryz.prog.wideKeysFrom ·)) = true := by kernel_rfl
theorem k18 : Rows.lexJoinsSpec.vars.all (Tryz.prog.varReadable ·) = true := by kernel_rfl
theorem k19 : Tryz.f8.resultTypes.all (fun t => Tryz.prog.readableRec t && decide (t < Tryz.prog.types.size)) = true := by kernel_rfl
theorem k20 : (Rows.lexJoinsRow.ifacesOut == Tryz.f8.resultTypes.toList.any (Tryz.prog.ifacesRec ·)) = true := by kernel_rfl
theorem k21 : (Rows.lexJoinsRow.loopsOut == Tryz.f8.resultTypes.toList.any (Tryz.prog.loopsFrom ·)) = true := by kernel_rfl
theorem k25 : (Rows.lexJoinsRow.kinds == (if Rows.lexJoinsRow.domain.isEmpty then [] else Tryz.f8.params.toList.map fun t => match Tryz.prog.underlying t with | some (.int k) => some k | _ => none)) = true := by kernel_rfl
theorem k26 : (Rows.lexJoinsRow.pinned == Rows.lexJoinsRow.pinnedBy) = true := by kernel_rfl
theorem k27 : (Rows.lexJoinsRow.veiled == (Tryz.f8.params.toList ++ Rows.lexJoinsSpec.plain.varTypes Tryz.prog ++ Tryz.f8.resultTypes.toList).any (Tryz.prog.veiledRec ·)) = true := by kernel_rfl
theorem k28 : Rows.lexJoinsRow.veiledFits Tryz.prog Tryz.f8.params.toList (Tryz.f8.params.toList ++ Rows.lexJoinsSpec.plain.varTypes Tryz.prog ++ Tryz.f8.resultTypes.toList) = true := by kernel_rfl
theorem name : Tryz.prog.funcNamed Rows.lexJoinsRow.func = some 8 := by kernel_rfl
theorem wft : Rows.lexJoinsRow.wfByText (OpenSpec.ofChange Rows.lexJoinsSpec) = true := by kernel_rfl
theorem goes : false = Rows.lexJoinsRow.goesBy Tryz.prog := by kernel_rfl
theorem noInit : Tryz.prog.inits.idxOf? 8 = none := by kernel_rfl
theorem stand : ([9, 9].all fun u => !Tryz.prog.wantsStandIn u) = true := by kernel_rfl
theorem joined : joinedFacts Tryz.prog 8 Tryz.f8 Rows.lexJoinsSpec Rows.lexJoinsRow = true := by
  exact (Fx.both (Fx.both (Fx.both (Fx.both (Fx.both (Fx.both (Fx.both (Fx.both (Fx.both (Fx.both (Fx.both (Fx.both (Fx.both (Fx.both (Fx.both (Fx.both (Fx.both (Fx.both (Fx.both (Fx.both (Fx.both (Fx.both (Fx.both (Fx.both (Fx.both (Fx.both (Fx.both (Fx.both (Fx.both (Fx.both (Fx.both k1 Fx.p2) Fx.p3) k4) k5) rfl) Fx.p7) rfl) Fx.p9) k10) k11) k12) k13) k14) k15) k16) k17) k17b) k18) k19) k20) k21) Fx.p22) rfl) Fx.p23b) Fx.p24) Fx.p24b) Fx.p24c) k25) k26) k27) k28)
end Go.Proofs.YtcgdncpioafbdaaGreatDoor.FxLexJoins

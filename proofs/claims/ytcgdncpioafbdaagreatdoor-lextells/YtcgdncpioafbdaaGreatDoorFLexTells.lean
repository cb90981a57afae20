/- Closed facts of the row of LexTells, one theorem each (by wip/facts.py). -/
import Derived.Test.YtcgdncpioafbdaaGreatDoorFP
namespace Go.Proofs.YtcgdncpioafbdaaGreatDoor.FxLexTells
open Go
set_option maxRecDepth 100000
theorem k1 : Rows.lexTellsRow.wf (OpenSpec.ofChange Rows.lexTellsSpec) = true := by kernel_rfl
theorem k4 : Tryz.f3.params.all (Tryz.prog.readableRec ·) = true := by kernel_rfl
theorem k5 : namedTie Tryz.prog Rows.lexTellsRow.named Rows.lexTellsSpec.vars = true := by kernel_rfl
theorem k10 : (Rows.lexTellsRow.inPlace == Tryz.prog.inPlace 3) = true := by kernel_rfl
theorem k11 : (Rows.lexTellsRow.unfollowed == Tryz.prog.unfollowed 3) = true := by kernel_rfl
theorem k12 : (Rows.lexTellsRow.recurses == Tryz.prog.recurses 3) = true := by kernel_rfl
theorem k13 : (Rows.lexTellsRow.named == Tryz.prog.varsNamed 3) = true := by kernel_rfl
theorem k14 : (Rows.lexTellsRow.maps == (Tryz.f3.params.toList ++ Rows.lexTellsSpec.plain.varTypes Tryz.prog).any (Tryz.prog.mapsRec ·)) = true := by kernel_rfl
theorem k15 : (Rows.lexTellsRow.ifaces == (Tryz.f3.params.toList ++ Rows.lexTellsSpec.plain.varTypes Tryz.prog).any (Tryz.prog.ifacesRec ·)) = true := by kernel_rfl
theorem k16 : (Rows.lexTellsRow.mapsOut == Tryz.prog.mapsAmong Tryz.f3.resultTypes.toList) = true := by kernel_rfl
theorem k17 : (Rows.lexTellsRow.loops == (Tryz.f3.params.toList ++ Rows.lexTellsSpec.plain.varTypes Tryz.prog).any (Tryz.prog.loopsFrom ·)) = true := by kernel_rfl
theorem k17b : (Rows.lexTellsRow.wideKeys == (Tryz.f3.params.toList ++ Rows.lexTellsSpec.plain.varTypes Tryz.prog ++ Tryz.f3.resultTypes.toList).any (Tryz.prog.wideKeysFrom ·)) = true := by kernel_rfl
theorem k18 : Rows.lexTellsSpec.vars.all (Tryz.prog.varReadable ·) = true := by kernel_rfl
theorem k19 : Tryz.f3.resultTypes.all (fun t => Tryz.prog.readableRec t && decide (t < Tryz.prog.types.size)) = true := by kernel_rfl
theorem k20 : (Rows.lexTellsRow.ifacesOut == Tryz.f3.resultTypes.toList.any (Tryz.prog.ifacesRec ·)) = true := by kernel_rfl
theorem k21 : (Rows.lexTellsRow.loopsOut == Tryz.f3.resultTypes.toList.any (Tryz.prog.loopsFrom ·)) = true := by kernel_rfl
theorem k25 : (Rows.lexTellsRow.kinds == (if Rows.lexTellsRow.domain.isEmpty then [] else Tryz.f3.params.toList.map fun t => match Tryz.prog.underlying t with | some (.int k) => some k | _ => none)) = true := by kernel_rfl
theorem k26 : (Rows.lexTellsRow.pinned == Rows.lexTellsRow.pinnedBy) = true := by kernel_rfl
theorem k27 : (Rows.lexTellsRow.veiled == (Tryz.f3.params.toList ++ Rows.lexTellsSpec.plain.varTypes Tryz.prog ++ Tryz.f3.resultTypes.toList).any (Tryz.prog.veiledRec ·)) = true := by kernel_rfl
theorem k28 : Rows.lexTellsRow.veiledFits Tryz.prog Tryz.f3.params.toList (Tryz.f3.params.toList ++ Rows.lexTellsSpec.plain.varTypes Tryz.prog ++ Tryz.f3.resultTypes.toList) = true := by kernel_rfl
theorem name : Tryz.prog.funcNamed Rows.lexTellsRow.func = some 3 := by kernel_rfl
theorem wft : Rows.lexTellsRow.wfByText (OpenSpec.ofChange Rows.lexTellsSpec) = true := by kernel_rfl
theorem goes : false = Rows.lexTellsRow.goesBy Tryz.prog := by kernel_rfl
theorem noInit : Tryz.prog.inits.idxOf? 3 = none := by kernel_rfl
theorem stand : ([9].all fun u => !Tryz.prog.wantsStandIn u) = true := by kernel_rfl
theorem joined : joinedFacts Tryz.prog 3 Tryz.f3 Rows.lexTellsSpec Rows.lexTellsRow = true := by
  exact (Fx.both (Fx.both (Fx.both (Fx.both (Fx.both (Fx.both (Fx.both (Fx.both (Fx.both (Fx.both (Fx.both (Fx.both (Fx.both (Fx.both (Fx.both (Fx.both (Fx.both (Fx.both (Fx.both (Fx.both (Fx.both (Fx.both (Fx.both (Fx.both (Fx.both (Fx.both (Fx.both (Fx.both (Fx.both (Fx.both (Fx.both k1 Fx.p2) Fx.p3) k4) k5) rfl) Fx.p7) rfl) Fx.p9) k10) k11) k12) k13) k14) k15) k16) k17) k17b) k18) k19) k20) k21) Fx.p22) rfl) Fx.p23b) Fx.p24) Fx.p24b) Fx.p24c) k25) k26) k27) k28)
end Go.Proofs.YtcgdncpioafbdaaGreatDoor.FxLexTells

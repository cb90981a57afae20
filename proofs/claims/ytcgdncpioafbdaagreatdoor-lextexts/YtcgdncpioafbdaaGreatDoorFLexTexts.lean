/- Closed facts of the row of LexTexts, one theorem each (by wip/facts.py). -/
import Derived.Test.YtcgdncpioafbdaaGreatDoorFP
namespace Go.Proofs.YtcgdncpioafbdaaGreatDoor.FxLexTexts
open Go
set_option maxRecDepth 100000
theorem k1 : Rows.lexTextsRow.wf (OpenSpec.ofChange Rows.lexTextsSpec) = true := by kernel_rfl
theorem k4 : Tryz.f4.params.all (Tryz.prog.readableRec ·) = true := by kernel_rfl
theorem k5 : namedTie Tryz.prog Rows.lexTextsRow.named Rows.lexTextsSpec.vars = true := by kernel_rfl
theorem k10 : (Rows.lexTextsRow.inPlace == Tryz.prog.inPlace 4) = true := by kernel_rfl
theorem k11 : (Rows.lexTextsRow.unfollowed == Tryz.prog.unfollowed 4) = true := by kernel_rfl
theorem k12 : (Rows.lexTextsRow.recurses == Tryz.prog.recurses 4) = true := by kernel_rfl
theorem k13 : (Rows.lexTextsRow.named == Tryz.prog.varsNamed 4) = true := by kernel_rfl
theorem k14 : (Rows.lexTextsRow.maps == (Tryz.f4.params.toList ++ Rows.lexTextsSpec.plain.varTypes Tryz.prog).any (Tryz.prog.mapsRec ·)) = true := by kernel_rfl
theorem k15 : (Rows.lexTextsRow.ifaces == (Tryz.f4.params.toList ++ Rows.lexTextsSpec.plain.varTypes Tryz.prog).any (Tryz.prog.ifacesRec ·)) = true := by kernel_rfl
theorem k16 : (Rows.lexTextsRow.mapsOut == Tryz.prog.mapsAmong Tryz.f4.resultTypes.toList) = true := by kernel_rfl
theorem k17 : (Rows.lexTextsRow.loops == (Tryz.f4.params.toList ++ Rows.lexTextsSpec.plain.varTypes Tryz.prog).any (Tryz.prog.loopsFrom ·)) = true := by kernel_rfl
theorem k17b : (Rows.lexTextsRow.wideKeys == (Tryz.f4.params.toList ++ Rows.lexTextsSpec.plain.varTypes Tryz.prog ++ Tryz.f4.resultTypes.toList).any (Tryz.prog.wideKeysFrom ·)) = true := by kernel_rfl
theorem k18 : Rows.lexTextsSpec.vars.all (Tryz.prog.varReadable ·) = true := by kernel_rfl
theorem k19 : Tryz.f4.resultTypes.all (fun t => Tryz.prog.readableRec t && decide (t < Tryz.prog.types.size)) = true := by kernel_rfl
theorem k20 : (Rows.lexTextsRow.ifacesOut == Tryz.f4.resultTypes.toList.any (Tryz.prog.ifacesRec ·)) = true := by kernel_rfl
theorem k21 : (Rows.lexTextsRow.loopsOut == Tryz.f4.resultTypes.toList.any (Tryz.prog.loopsFrom ·)) = true := by kernel_rfl
theorem k25 : (Rows.lexTextsRow.kinds == (if Rows.lexTextsRow.domain.isEmpty then [] else Tryz.f4.params.toList.map fun t => match Tryz.prog.underlying t with | some (.int k) => some k | _ => none)) = true := by kernel_rfl
theorem k26 : (Rows.lexTextsRow.pinned == Rows.lexTextsRow.pinnedBy) = true := by kernel_rfl
theorem k27 : (Rows.lexTextsRow.veiled == (Tryz.f4.params.toList ++ Rows.lexTextsSpec.plain.varTypes Tryz.prog ++ Tryz.f4.resultTypes.toList).any (Tryz.prog.veiledRec ·)) = true := by kernel_rfl
theorem k28 : Rows.lexTextsRow.veiledFits Tryz.prog Tryz.f4.params.toList (Tryz.f4.params.toList ++ Rows.lexTextsSpec.plain.varTypes Tryz.prog ++ Tryz.f4.resultTypes.toList) = true := by kernel_rfl
theorem name : Tryz.prog.funcNamed Rows.lexTextsRow.func = some 4 := by kernel_rfl
theorem wft : Rows.lexTextsRow.wfByText (OpenSpec.ofChange Rows.lexTextsSpec) = true := by kernel_rfl
theorem goes : false = Rows.lexTextsRow.goesBy Tryz.prog := by kernel_rfl
theorem noInit : Tryz.prog.inits.idxOf? 4 = none := by kernel_rfl
theorem stand : ([9, 23].all fun u => !Tryz.prog.wantsStandIn u) = true := by kernel_rfl
theorem joined : joinedFacts Tryz.prog 4 Tryz.f4 Rows.lexTextsSpec Rows.lexTextsRow = true := by
  exact (Fx.both (Fx.both (Fx.both (Fx.both (Fx.both (Fx.both (Fx.both (Fx.both (Fx.both (Fx.both (Fx.both (Fx.both (Fx.both (Fx.both (Fx.both (Fx.both (Fx.both (Fx.both (Fx.both (Fx.both (Fx.both (Fx.both (Fx.both (Fx.both (Fx.both (Fx.both (Fx.both (Fx.both (Fx.both (Fx.both (Fx.both k1 Fx.p2) Fx.p3) k4) k5) rfl) Fx.p7) rfl) Fx.p9) k10) k11) k12) k13) k14) k15) k16) k17) k17b) k18) k19) k20) k21) Fx.p22) rfl) Fx.p23b) Fx.p24) Fx.p24b) Fx.p24c) k25) k26) k27) k28)
end Go.Proofs.YtcgdncpioafbdaaGreatDoor.FxLexTexts

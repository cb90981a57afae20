/- Closed facts of the row of LexBlanks, one theorem each (by wip/facts.py). -/
import Derived.Test.YtcgdncpioafbdaaGreatDoorFP
namespace Go.Proofs.YtcgdncpioafbdaaGreatDoor.FxLexBlanks
open Go
set_option maxRecDepth 100000
theorem k1 : Rows.lexBlanksRow.wf (OpenSpec.ofChange Rows.lexBlanksSpec) = true := by kernel_rfl
theorem k4 : Tryz.f5.params.all (Tryz.prog.readableRec ·) = true := by kernel_rfl
theorem k5 : namedTie Tryz.prog Rows.lexBlanksRow.named Rows.lexBlanksSpec.vars = true := by kernel_rfl
theorem k10 : (Rows.lexBlanksRow.inPlace == Tryz.prog.inPlace 5) = true := by kernel_rfl
theorem k11 : (Rows.lexBlanksRow.unfollowed == Tryz.prog.unfollowed 5) = true := by kernel_rfl
theorem k12 : (Rows.lexBlanksRow.recurses == Tryz.prog.recurses 5) = true := by kernel_rfl
theorem k13 : (Rows.lexBlanksRow.named == Tryz.prog.varsNamed 5) = true := by kernel_rfl
theorem k14 : (Rows.lexBlanksRow.maps == (Tryz.f5.params.toList ++ Rows.lexBlanksSpec.plain.varTypes Tryz.prog).any (Tryz.prog.mapsRec ·)) = true := by kernel_rfl
theorem k15 : (Rows.lexBlanksRow.ifaces == (Tryz.f5.params.toList ++ Rows.lexBlanksSpec.plain.varTypes Tryz.prog).any (Tryz.prog.ifacesRec ·)) = true := by kernel_rfl
theorem k16 : (Rows.lexBlanksRow.mapsOut == Tryz.prog.mapsAmong Tryz.f5.resultTypes.toList) = true := by kernel_rfl
theorem k17 : (Rows.lexBlanksRow.loops == (Tryz.f5.params.toList ++ Rows.lexBlanksSpec.plain.varTypes Tryz.prog).any (Tryz.prog.loopsFrom ·)) = true := by kernel_rfl
theorem k17b : (Rows.lexBlanksRow.wideKeys == (Tryz.f5.params.toList ++ Rows.lexBlanksSpec.plain.varTypes Tryz.prog ++ Tryz.f5.resultTypes.toList).any (Tryz.prog.wideKeysFrom ·)) = true := by kernel_rfl
theorem k18 : Rows.lexBlanksSpec.vars.all (Tryz.prog.varReadable ·) = true := by kernel_rfl
theorem k19 : Tryz.f5.resultTypes.all (fun t => Tryz.prog.readableRec t && decide (t < Tryz.prog.types.size)) = true := by kernel_rfl
theorem k20 : (Rows.lexBlanksRow.ifacesOut == Tryz.f5.resultTypes.toList.any (Tryz.prog.ifacesRec ·)) = true := by kernel_rfl
theorem k21 : (Rows.lexBlanksRow.loopsOut == Tryz.f5.resultTypes.toList.any (Tryz.prog.loopsFrom ·)) = true := by kernel_rfl
theorem k25 : (Rows.lexBlanksRow.kinds == (if Rows.lexBlanksRow.domain.isEmpty then [] else Tryz.f5.params.toList.map fun t => match Tryz.prog.underlying t with | some (.int k) => some k | _ => none)) = true := by kernel_rfl
theorem k26 : (Rows.lexBlanksRow.pinned == Rows.lexBlanksRow.pinnedBy) = true := by kernel_rfl
theorem k27 : (Rows.lexBlanksRow.veiled == (Tryz.f5.params.toList ++ Rows.lexBlanksSpec.plain.varTypes Tryz.prog ++ Tryz.f5.resultTypes.toList).any (Tryz.prog.veiledRec ·)) = true := by kernel_rfl
theorem k28 : Rows.lexBlanksRow.veiledFits Tryz.prog Tryz.f5.params.toList (Tryz.f5.params.toList ++ Rows.lexBlanksSpec.plain.varTypes Tryz.prog ++ Tryz.f5.resultTypes.toList) = true := by kernel_rfl
theorem name : Tryz.prog.funcNamed Rows.lexBlanksRow.func = some 5 := by kernel_rfl
theorem wft : Rows.lexBlanksRow.wfByText (OpenSpec.ofChange Rows.lexBlanksSpec) = true := by kernel_rfl
theorem goes : false = Rows.lexBlanksRow.goesBy Tryz.prog := by kernel_rfl
theorem noInit : Tryz.prog.inits.idxOf? 5 = none := by kernel_rfl
theorem stand : ([35, 36].all fun u => !Tryz.prog.wantsStandIn u) = true := by kernel_rfl
theorem joined : joinedFacts Tryz.prog 5 Tryz.f5 Rows.lexBlanksSpec Rows.lexBlanksRow = true := by
  exact (Fx.both (Fx.both (Fx.both (Fx.both (Fx.both (Fx.both (Fx.both (Fx.both (Fx.both (Fx.both (Fx.both (Fx.both (Fx.both (Fx.both (Fx.both (Fx.both (Fx.both (Fx.both (Fx.both (Fx.both (Fx.both (Fx.both (Fx.both (Fx.both (Fx.both (Fx.both (Fx.both (Fx.both (Fx.both (Fx.both (Fx.both k1 Fx.p2) Fx.p3) k4) k5) rfl) Fx.p7) rfl) Fx.p9) k10) k11) k12) k13) k14) k15) k16) k17) k17b) k18) k19) k20) k21) Fx.p22) rfl) Fx.p23b) Fx.p24) Fx.p24b) Fx.p24c) k25) k26) k27) k28)
end Go.Proofs.YtcgdncpioafbdaaGreatDoor.FxLexBlanks

/- What every contract of this seat asks of the world: three package-level variables of the library's as their initialisers lay them (strconv.ErrRange, internal/strconv.uint64pow10; of internal/bytealg.MaxLen: some number). It holds behind whatever leaves the old blocks alone. -/
import Derived.Test.YtcgdncpioafbdaaGreatDoorProg
import Derived.WalkSmall
import Derived.Lib.LaidTab
import Derived.Lib.ItoaNum
namespace Go.Proofs.YtcgdncpioafbdaaGreatDoor.Q
open Go Go.RowKit

theorem gErr : Tryz.prog.globalNamed "strconv.ErrRange" = some 0 := by kernel_rfl
theorem gPow : Tryz.prog.globalNamed "internal/strconv.uint64pow10" = some 1 := by kernel_rfl
theorem gMax : Tryz.prog.globalNamed "internal/bytealg.MaxLen" = some 2 := by kernel_rfl

structure GV (w : World) : Prop where
  err : ∃ a, w.var? Tryz.prog "strconv.ErrRange" = some #[.iface 398 (.pointer (some a))]
  pow : Lib.TabIs Tryz.prog w "internal/strconv.uint64pow10" .u64 Lib.pow10Tab
  max : ∃ m, w.cell? ⟨2, 0, none⟩ = some (.int .i64 m)
  size : 9 ≤ w.heap.size

theorem GV.below {w w' : World} (h : GV w) (hb : Below w.heap.size w w') : GV w' := by
  obtain ⟨⟨a, ha⟩, hp, ⟨m, hm⟩, hs⟩ := h
  refine ⟨⟨a, var?_below hb gErr (by omega) ha⟩, var?_below hb gPow (by omega) hp, ⟨m, ?_⟩, Nat.le_trans hs hb.size⟩
  rw [hb.cell (p := ⟨2, 0, none⟩) (by simp; omega)]
  exact hm

end Go.Proofs.YtcgdncpioafbdaaGreatDoor.Q

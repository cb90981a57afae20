/- The twelve signs that stand alone: the constant string's bytes as a slice in new memory. -/
import Derived.Test.YtcgdncpioafbdaaGreatDoorQ0
import Derived.Lib.SlBytesConst
namespace Go.Proofs.YtcgdncpioafbdaaGreatDoor.Q
open Go Go.RowKit Go.Proofs.YtcgdncpioafbdaaGreatDoorW.PrintWords Go.Proofs.YtcgdncpioafbdaaGreatDoorW.PrintLast Go.Proofs.YtcgdncpioafbdaaGreatDoorW.PrintMore

abbrev onesV : Array Value := #[.int .u8 40, .int .u8 41, .int .u8 44, .int .u8 42, .int .u8 43, .int .u8 45, .int .u8 47, .int .u8 37, .int .u8 61, .int .u8 60, .int .u8 62, .int .u8 59]
set_option maxRecDepth 100000 in
theorem lit12 (a : Act) (w : World) : (execOp a.eval { dst := some 52, op := .buildSlice 36 12 #[(0, .const (.int .u8 40)), (1, .const (.int .u8 41)), (2, .const (.int .u8 44)), (3, .const (.int .u8 42)), (4, .const (.int .u8 43)), (5, .const (.int .u8 45)), (6, .const (.int .u8 47)), (7, .const (.int .u8 37)), (8, .const (.int .u8 61)), (9, .const (.int .u8 60)), (10, .const (.int .u8 62)), (11, .const (.int .u8 59))], type := 36, pos := "ref.go:92", after := #[], guard := none }).run Tryz.prog w = .ok (.value (.slice (some ⟨w.heap.size, 0, none⟩) 12 12)) (w.alloc (.cells onesV 5)) := by
  go_simp
theorem conv12 (a : Act) (w : World) (h : a.tmps.getD 52 undef = .slice (some ⟨w.heap.size, 0, none⟩) 12 12) : (execOp a.eval { dst := some 53, op := .convert 36 36 (.tmp 52), type := 36, pos := "ref.go:92", after := #[{ on := 0, ground := .data }], guard := none }).run Tryz.prog (w.alloc (.cells onesV 5)) = .ok (.value (.slice (some ⟨w.heap.size, 0, none⟩) 12 12)) (w.alloc (.cells onesV 5 (12, 13))) := by
  have kc := Lib.run_convert_bytes_const (P := Tryz.prog) w 36 5 onesV 12 12 Tryz.underlying36 Tryz.underlying5
  have e : onesV.size = 12 := rfl
  rw [e] at kc
  simp only [execOp, go_sem]
  rw [h]
  simp [go_sem, kc]
theorem litC (w : World) (l : List Int) (fr : Nat × Nat) (hl : l.length ≤ 1000) : (Kd.int .u8).C (w.alloc (.cells (l.map (Value.int .u8)).toArray 5 fr)) (some ⟨w.heap.size, 0, none⟩) l.length l :=
  ⟨rfl, by omega, fun _ => ⟨_, rfl, fun j p hj => ⟨[.int .u8 p], rfl, rfl, fun i u hu => by
    cases i with
    | zero =>
      simp only [List.getElem?_cons_zero, Option.some.injEq] at hu
      subst hu
      have h1 := Go.World.cell?_alloc_mark w (l.map (Value.int .u8)).toArray 5 fr j
      have e : (⟨w.heap.size, 0, none⟩ : Addr).add (j * 1 + 0) = ⟨w.heap.size, j, none⟩ := by by_cases h0 : j = 0 <;> simp [Addr.add, h0]
      show (w.alloc _).cell? ((⟨w.heap.size, 0, none⟩ : Addr).add (j * 1 + 0)) = _
      rw [e, h1]
      simp [hj]
    | succ i => simp at hu⟩⟩⟩
abbrev onesL : List Int := [40, 41, 44, 42, 43, 45, 47, 37, 61, 60, 62, 59]
/-- The two operations at once: the slice lies in new memory and reads as the twelve signs. -/
theorem ones_step {ops : Array Oper} {rest : List Oper} {Q : Exit → Act → World → Prop} (a : Act) (w : World) (hz : 52 < a.tmps.size)
    (h : ∀ (ad : Addr) (w' : World), (Kd.int .u8).C w' (some ad) 12 onesL → Below w.heap.size w w' → wpList Tryz.prog ops Q rest ((a.put (some 52) (.slice (some ad) 12 12)).put (some 53) (.slice (some ad) 12 12)) w') :
    wpList Tryz.prog ops Q ({ dst := some 52, op := .buildSlice 36 12 #[(0, .const (.int .u8 40)), (1, .const (.int .u8 41)), (2, .const (.int .u8 44)), (3, .const (.int .u8 42)), (4, .const (.int .u8 43)), (5, .const (.int .u8 45)), (6, .const (.int .u8 47)), (7, .const (.int .u8 37)), (8, .const (.int .u8 61)), (9, .const (.int .u8 60)), (10, .const (.int .u8 62)), (11, .const (.int .u8 59))], type := 36, pos := "ref.go:92", after := #[], guard := none } :: { dst := some 53, op := .convert 36 36 (.tmp 52), type := 36, pos := "ref.go:92", after := #[{ on := 0, ground := .data }], guard := none } :: rest) a w := by
  refine Kd.event_run rfl (lit12 a w) ?_
  refine Kd.event_run rfl (conv12 _ w ?_) (h _ _ (litC w onesL (12, 13) (by decide)) (below_alloc (Below.refl _ _) _))
  simp [Act.put, hz]
end Go.Proofs.YtcgdncpioafbdaaGreatDoor.Q

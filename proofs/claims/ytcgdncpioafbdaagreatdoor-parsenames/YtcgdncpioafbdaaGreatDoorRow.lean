/- From the form's claim to a walk under GV: the listed variables and the world's shape give GV; one wrapper for all laws of the seat (what is listed, the reach and the shape handed on together). -/
import Derived.Test.YtcgdncpioafbdaaGreatDoorGV
import Derived.Test.YtcgdncpioafbdaaGreatDoorRows
import Derived.ProofKit
import Derived.WalkKit
import Derived.Stop.LaidErr
import Derived.HandedShaped
import Derived.Shelf.Vars
import Derived.Lay
import Derived.LaidOnce
import Derived.SevenTiedAt
import Derived.LaidHandle
namespace Go.Proofs.YtcgdncpioafbdaaGreatDoor.Q
open Go Go.ChangeShapes Go.WideShapes Go.RowKit

theorem starE : "*" ++ "errors.errorString" = "*errors.errorString" := by decide
theorem rowE (u : TypeId) (h : Tryz.prog.typeName? 3 u = some "*errors.errorString") : u = 398 :=
  typeName_ptr_named (nm := "errors.errorString") (by rw [starE]; kernel_rfl) (by kernel_rfl) (by decide) u (by rw [starE]; exact h)

/-- The list that every row of the seat bears. -/
def laidL : List (String × DataW Unit) := Rows.lexTellsRow.laid

theorem size_of {W : World} (hS : W.ShapedOpen Tryz.prog) : 9 ≤ W.heap.size := by
  have h0 : ∃ z, ((begin Tryz.prog (fun _ _ => 0) default).world.heap[8]?).bind Obj.row? = some z := Option.isSome_iff_exists.1 (by kernel_rfl)
  obtain ⟨⟨zero, t⟩, h0⟩ := h0
  obtain ⟨cs, hh, _⟩ := hS.1 8 zero t (of_decide_eq_true (by kernel_rfl)) h0
  by_cases h : 8 < W.heap.size
  · omega
  · simp only [Array.getElem?_eq_none (Nat.le_of_not_lt h)] at hh
    cases hh
theorem gv_of {W : World} (hL : laidMetH Tryz.prog laidL W) (hS : W.ShapedOpen Tryz.prog) : GV W := by
  have h9 := size_of hS
  rw [MakeChecks.laidMetH_plain _ _ _ (by kernel_rfl)] at hL
  have h2 := laidMet.tail (laidMet.tail hL)
  have h4 := laidMet.tail (laidMet.tail h2)
  obtain ⟨a, s, hv, -, -, -⟩ := laid_sentinel h4 gErr (ti := 163) (by kernel_rfl) Tryz.underlying163 rowE Tryz.underlying398 Tryz.underlying400 rfl rfl Tryz.underlying9 (by kernel_rfl) (by kernel_rfl)
  obtain ⟨m, hm⟩ := cell_of_shapedOpen_int hS (g := 2) (t := 3) (zero := #[.int .i64 0]) (k := .i64) (of_decide_eq_true (by kernel_rfl)) (by kernel_rfl) rfl (by kernel_rfl) (by kernel_rfl) Tryz.underlying3
  exact ⟨⟨a, hv⟩, Lib.tabIs_of_head gPow (t := 337) (e := 105) (n := 20) (by kernel_rfl) Tryz.underlying337 Tryz.underlying105 (by kernel_rfl) (by kernel_rfl) (show laidMet Tryz.prog (("internal/strconv.uint64pow10", Lib.tabData .u64 Lib.pow10Tab) :: _) W from h2), ⟨m, hm⟩, h9⟩

section
variable {H : Type} {enc : TypeId × Value → H}
/-- The kit's wrap 'returnsInHanded_of_change_and', the world's shape handed on too. -/
theorem returnsIn_law {a : Assume} {C : Checked} {os : Os} {f : FuncId} {fn : Func} {s : ChangeSpec} {conds : List PathCond} {apart fresh handsOn again : Bool} {X : World → Array Value → Prop}
    (hX : ∀ (w w' : World) (args : Array Value), w.heap = w'.heap → X w args → X w' args)
    (own : ownKnob C.prog.godebug = none) (started : os.Started) (noInit : C.prog.inits.idxOf? f = none) (hfn : C.prog.funcs[f]? = some fn)
    (witness : ∃ (w : World) (tape : Tape) (i : Input), w.os = os ∧ (w.forCall tape i).Shaped C.prog ∧ i.vars = [] ∧ Input.okWide C.prog (w.forCall tape i) .any w.heap.size f i ∧
      ((s.pre enc C.prog fn conds apart (w.forCall tape i).memory i.args ∧ X (w.forCall tape i).memory i.args) ∧ sizedMet enc C.prog fn (OpenSpec.ofChange s) apart (w.forCall tape i).memory i.args) ∧ a.holds C.prog (lone (Frame.enter C.prog f i.args .normal) [] (w.forCall tape i)))
    (contract : ∀ (W : World) (base : Nat) (args : Array Value) (ds gs : List (DataW H)) (before : List MemPlace),
      (∀ (j : Nat) t v, fn.params[j]? = some t → args[j]? = some v → Value.okWide C.prog W .any base t v) →
      DataW.Whole enc C.prog fn.params.toList s.vars apart W args.toList ds gs before →
      (DataW.weightsEach C.prog (fn.params.toList ++ s.plain.varTypes C.prog) (ds ++ gs)).all (· ≤ reachBytes) = true → X W args → W.ShapedOpen C.prog →
      Calls C.prog f args W fun e W' => ∃ v, e = .returned v ∧ s.post enc C.prog fn apart fresh handsOn again W args v W') :
    ReturnsInHanded a C os f .any (fun w args => (s.pre enc C.prog fn conds apart w args ∧ X w args) ∧ sizedMet enc C.prog fn (OpenSpec.ofChange s) apart w args) (s.post enc C.prog fn apart fresh handsOn again) := by
  refine returnsInHanded_of_calls own started noInit witness ?_
  intro w tape i _ hsh _ hok hpre hholds
  obtain ⟨_, _, _, fn', hfn', _, _, _, _, hval⟩ := hok
  have e : fn' = fn := Option.some.inj (hfn'.symm.trans hfn)
  subst e
  obtain ⟨⟨⟨ds, gs, before, hw, hc⟩, hx⟩, hz⟩ := hpre
  have hw' := DataW.Whole.of_heap (w' := w.forCall tape i) (by rfl) hw
  refine (contract (w.forCall tape i) w.heap.size i.args ds gs before hval hw' (hz.weights hw) (hX _ _ _ (by rfl) hx) hsh).mono fun e W' ⟨v, he, hp⟩ => ?_
  subst he
  exact ChangeSpec.post_blind hp
end

end Go.Proofs.YtcgdncpioafbdaaGreatDoor.Q

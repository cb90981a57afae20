/- THE LAW ParseBlanks OF vidimus, FOR EVERY INPUT: the call returns true, and each argument reads as it did. Under what the card says: the listed package-level variables start as the program's text lays them. -/
import Derived.Test.YtcgdncpioafbdaaGreatDoorRows
import Derived.Test.YtcgdncpioafbdaaGreatDoorTie
import Derived.Test.YtcgdncpioafbdaaGreatDoorCards
import Derived.Test.YtcgdncpioafbdaaGreatDoorS1
import Derived.Test.YtcgdncpioafbdaaGreatDoorS2
import Derived.Test.YtcgdncpioafbdaaGreatDoorS3
import Derived.Test.YtcgdncpioafbdaaGreatDoorS4
import Derived.Test.YtcgdncpioafbdaaGreatDoorS5
import Derived.Test.YtcgdncpioafbdaaGreatDoorS6
set_option linter.unusedVariables false
set_option linter.unusedSimpArgs false
namespace Go.Proofs.YtcgdncpioafbdaaGreatDoor.Q
open Go Go.RowKit Go.ChangeShapes Go.WideShapes Go.ChangeAt Go.ChangeMaps Go.Proofs.YtcgdncpioafbdaaGreatDoorW.PrintWords
set_option maxRecDepth 100000 in
theorem parseBlanks_lifted (os : Os) (started : os.Started) (H : Type) (enc : TypeId × Value → H) :
    ReturnsInHanded {} Tryz.checked os 10 .any (fun w args => (Rows.parseBlanksSpec.pre enc Tryz.prog Tryz.f10 [] false w args ∧ laidMetH Tryz.prog laidL w) ∧ sizedMet enc Tryz.prog Tryz.f10 (OpenSpec.ofChange Rows.parseBlanksSpec) false w args)
      (Rows.parseBlanksSpec.post enc Tryz.prog Tryz.f10 false true false false) := by
  refine returnsIn_law (C := Tryz.checked) (X := fun w _ => laidMetH Tryz.prog laidL w) (fun _ _ _ hh h => h.of_heap hh) ownK started FxParseBlanks.noInit Tryz.func10
    (ChangeSpec.witness_shaped (enc := enc) (C := Tryz.checked) (os := os) (X := fun w _ => laidMetH Tryz.prog laidL w) false (World.laidAll Tryz.prog os laidL) #[.string ⟨#[]⟩] 8 (World.laidAll_os _ _ _)
      (World.shaped_of_ZipB (by kernel_rfl) (by kernel_rfl)) (by kernel_rfl) (by kernel_rfl) (by kernel_rfl)
      (by rw [MakeChecks.laidMetH_plain _ _ _ (by kernel_rfl)]; exact laidMet_laidAll _ (by kernel_rfl) (by kernel_rfl))) ?_
  intro W base args ds gs before hval0 hW _ hL hS
  have hval : ∀ (j : Nat) t v, Tryz.f10.params[j]? = some t → args[j]? = some v → Value.okWide Tryz.prog W .any base t v := hval0
  have hW' := hW
  obtain ⟨p, q, hA0, hV, rfl, _, _⟩ := hW
  have hA : DataW.TrodAll enc Tryz.prog W 0 (fun _ => true) true Tryz.f10.params.toList args.toList ds p := hA0
  rw [Tryz.params10] at hA hval
  have hST := fun (W' : World) (hb : Below W.heap.size W W') => args_stay hb (by
    intro t ht
    have h1 : ([9].all fun t => Tryz.prog.readableRec t && decide (t < Tryz.prog.types.size)) = true := by kernel_rfl
    simpa using List.all_eq_true.1 h1 t ht) hA
  obtain ⟨v0, d0, rfl, rfl, h0⟩ := trodAll_one hA
  obtain ⟨rfl, rfl⟩ := trodVars_none hV
  obtain ⟨x, rfl, rfl, rfl, wx⟩ := open_string Tryz.underlying9 (hval 0 9 v0 rfl rfl) h0
  simp only [List.append_nil] at hW'
  refine (blanks17_calls x (gv_of hL hS)).mono fun e W' ⟨he, hb⟩ => ?_
  subst he
  exact ⟨_, rfl, _, _, _, [], _, [], hW', trodAll_mk1 (shut_bool Tryz.underlying4 _), hST W' hb, rfl, hb.frame _, fun h => by cases h⟩
theorem parseBlanks_holds : Rows.parseBlanksRow.holds Tryz.pinned (OpenSpec.ofChange Rows.parseBlanksSpec) :=
  OpenClaim.holds_of_wide 10 Tryz.f10 rfl rfl rfl rfl rfl rfl rfl ⟨rfl, rfl, rfl, rfl, rfl⟩ rfl rfl rfl rfl rfl FxParseBlanks.name Tryz.func10 FxParseBlanks.joined
    (of_decide_eq_true (by kernel_rfl)) (by unfold Func.isWrapper; first | (rw [if_pos (by decide +kernel)]; kernel_rfl) | (rw [if_neg (by decide +kernel)]; exact ⟨rfl, rfl⟩))
    (fun os started H enc _ => parseBlanks_lifted os started H enc)
end Go.Proofs.YtcgdncpioafbdaaGreatDoor.Q
namespace Go.Proofs.YtcgdncpioafbdaaGreatDoor
open Go Go.RowKit
theorem parseBlanks_card_holds : Rows.ParseBlanksCardSaid :=
  Claim7.holds_tied_plain_at .later [] [.data, .data, .data, .data, .sentinel, .sentinel, .pinned, .pinned] true (true, "890fae4095338e243913fac227808f3884bb7d0425187019eadb0545e2bf9cfc") true
    Q.parseBlanks_holds (fun _ h => by cases h) FxParseBlanks.wft (fun _ h => by cases h) parseBlanks_row_tie rfl ⟨rfl, rfl⟩ Fx.pm rfl
    (fun f fn hf hfn => by
      obtain rfl : f = 10 := Option.some.inj (FxParseBlanks.name.symm.trans hf) |>.symm
      obtain rfl : fn = Tryz.f10 := (Option.some.inj (Tryz.func10.symm.trans hfn)).symm
      exact ⟨Fx.pl, fun j t ht => by
        rw [Tryz.params10] at ht
        have hm : t ∈ [9] := by simpa using Array.mem_of_getElem? ht
        exact (show Tryz.prog.wantsStandIn t = false by simpa using List.all_eq_true.1 FxParseBlanks.stand t hm)⟩)
    FxParseBlanks.goes
#print axioms parseBlanks_card_holds
end Go.Proofs.YtcgdncpioafbdaaGreatDoor

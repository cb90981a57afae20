/- LexJoins: the row's statement, and the card. -/
import Derived.Test.YtcgdncpioafbdaaGreatDoorRow
import Derived.Test.YtcgdncpioafbdaaGreatDoorTie
import Derived.Test.YtcgdncpioafbdaaGreatDoorCards
import Derived.Test.YtcgdncpioafbdaaGreatDoorPlJoins
import Derived.Test.YtcgdncpioafbdaaGreatDoorQlaw16joins
import Derived.ChangeMaps5
import Derived.Test.YtcgdncpioafbdaaGreatDoorFLexJoins
namespace Go.Proofs.YtcgdncpioafbdaaGreatDoor.Q
open Go Go.RowKit Go.ChangeShapes Go.WideShapes Go.ChangeAt Go.ChangeMaps Go.Proofs.YtcgdncpioafbdaaGreatDoorW.PrintWords

theorem joins_walk (a b : ByteArray) (w : World) (hG : GV w) : Calls Tryz.prog 8 #[.string a, .string b] w fun e w' => e = .returned (.bool true) ∧ Below w.heap.size w w' := by
  obtain ⟨k, hk⟩ := LexJoins_law a b
  exact vidimuslaw16_LexJoins.calls k a b true w hk hG

theorem own0 : ownKnob Tryz.prog.godebug = none := by kernel_rfl
set_option maxRecDepth 100000 in
theorem joins_lifted (os : Os) (started : os.Started) (H : Type) (enc : TypeId × Value → H) :
    ReturnsInHanded {} Tryz.checked os 8 .any (fun w args => (Rows.lexJoinsSpec.pre enc Tryz.prog Tryz.f8 [] false w args ∧ laidMetH Tryz.prog laidL w) ∧ sizedMet enc Tryz.prog Tryz.f8 (OpenSpec.ofChange Rows.lexJoinsSpec) false w args)
      (Rows.lexJoinsSpec.post enc Tryz.prog Tryz.f8 false true false false) := by
  refine returnsIn_law (C := Tryz.checked) (X := fun w _ => laidMetH Tryz.prog laidL w) (fun _ _ _ hh h => h.of_heap hh) own0 started FxLexJoins.noInit Tryz.func8
    (ChangeSpec.witness_shaped (enc := enc) (C := Tryz.checked) (os := os) (X := fun w _ => laidMetH Tryz.prog laidL w) false (World.laidAll Tryz.prog os laidL) #[.string ⟨#[]⟩, .string ⟨#[]⟩] 8 (World.laidAll_os _ _ _)
      (World.shaped_of_ZipB (by kernel_rfl) (by kernel_rfl)) (by kernel_rfl) (by kernel_rfl) (by kernel_rfl)
      (by rw [MakeChecks.laidMetH_plain _ _ _ (by kernel_rfl)]; exact laidMet_laidAll _ (by kernel_rfl) (by kernel_rfl))) ?_
  intro W base args ds gs before hval0 hW _ hL hS
  have hval : ∀ (j : Nat) t v, Tryz.f8.params[j]? = some t → args[j]? = some v → Value.okWide Tryz.prog W .any base t v := hval0
  have hW' := hW
  obtain ⟨p, q, hA0, hV, rfl, _, _⟩ := hW
  have hA : DataW.TrodAll enc Tryz.prog W 0 (fun _ => true) true Tryz.f8.params.toList args.toList ds p := hA0
  rw [Tryz.params8] at hA hval
  obtain ⟨v0, v1, d0, d1, p0, p1, rfl, rfl, rfl, h0, h1⟩ := trodAll_two hA
  obtain ⟨rfl, rfl⟩ := trodVars_none hV
  obtain ⟨x, rfl, rfl, rfl, wx⟩ := open_string Tryz.underlying9 (hval 0 9 v0 rfl rfl) h0
  obtain ⟨y, rfl, rfl, rfl, wy⟩ := open_string Tryz.underlying9 (hval 1 9 v1 rfl rfl) h1
  simp only [List.append_nil] at hW'
  refine (joins_walk x y W (gv_of hL hS)).mono fun e W' ⟨he, hb⟩ => ?_
  subst he
  exact ⟨_, rfl, _, _, _, [], [], [], hW', trodAll_mk1 (shut_bool Tryz.underlying4 _), trodAll_mk2 (shut_string Tryz.underlying9 wx) (shut_string Tryz.underlying9 wy), rfl, hb.frame _, fun h => by cases h⟩
theorem joins_holds : Rows.lexJoinsRow.holds Tryz.pinned (OpenSpec.ofChange Rows.lexJoinsSpec) :=
  OpenClaim.holds_of_wide 8 Tryz.f8 rfl rfl rfl rfl rfl rfl rfl ⟨rfl, rfl, rfl, rfl, rfl⟩ rfl rfl rfl rfl rfl FxLexJoins.name Tryz.func8 FxLexJoins.joined
    (of_decide_eq_true (by kernel_rfl)) (by unfold Func.isWrapper; first | (rw [if_pos (by decide +kernel)]; kernel_rfl) | (rw [if_neg (by decide +kernel)]; exact ⟨rfl, rfl⟩))
    (fun os started H enc _ => joins_lifted os started H enc)
end Go.Proofs.YtcgdncpioafbdaaGreatDoor.Q
namespace Go.Proofs.YtcgdncpioafbdaaGreatDoor
open Go Go.RowKit
theorem lexJoins_card_holds : Rows.LexJoinsCardSaid :=
  Claim7.holds_tied_plain_at .later [] [.data, .data, .data, .data, .sentinel, .sentinel, .pinned, .pinned] true (true, "890fae4095338e243913fac227808f3884bb7d0425187019eadb0545e2bf9cfc") true
    Q.joins_holds (fun _ h => by cases h) FxLexJoins.wft (fun _ h => by cases h) lexJoins_row_tie rfl ⟨rfl, rfl⟩ Fx.pm rfl
    (fun f fn hf hfn => by
      obtain rfl : f = 8 := Option.some.inj (FxLexJoins.name.symm.trans hf) |>.symm
      obtain rfl : fn = Tryz.f8 := (Option.some.inj (Tryz.func8.symm.trans hfn)).symm
      exact ⟨Fx.pl, fun j t ht => by
        rw [Tryz.params8] at ht
        have hm : t ∈ [9, 9] := by simpa using Array.mem_of_getElem? ht
        exact (show Tryz.prog.wantsStandIn t = false by simpa using List.all_eq_true.1 FxLexJoins.stand t hm)⟩)
    FxLexJoins.goes
#print axioms lexJoins_card_holds
end Go.Proofs.YtcgdncpioafbdaaGreatDoor

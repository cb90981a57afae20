/- THE LAW LexTells OF vidimus, FOR EVERY INPUT: the call returns true, and each argument reads as it did. Under what the card says: the listed package-level variables start as the program's text lays them. -/
import Derived.Test.YtcgdncpioafbdaaGreatDoorPlU
import Derived.Test.YtcgdncpioafbdaaGreatDoorOpen
import Derived.Test.YtcgdncpioafbdaaGreatDoorTie
import Derived.Test.YtcgdncpioafbdaaGreatDoorCards
import Derived.Test.YtcgdncpioafbdaaGreatDoorFLexTells
import Derived.Test.YtcgdncpioafbdaaGreatDoorQlaw16tells
namespace Go.Proofs.YtcgdncpioafbdaaGreatDoor.Q
open Go Go.RowKit Go.Proofs.YtcgdncpioafbdaaGreatDoorW.PrintWords

theorem LexTells_law (a : ByteArray) : ∃ k, vidimuslaw16_LexTells.f k a = some true := by
  have main : ∀ k, 5000 ≤ k → vidimuslaw16_LexTells.j0 (k + 1) a false = some true ∨ 4000 < a.size := by
    intro k hk
    by_cases h4 : 4000 < a.size
    · exact .inr h4
    · left
      simp only [vidimuslaw16_LexTells.j0, Bool.false_eq_true, if_false]
      have e : vidimusref16_Tokens.f a = lex_Tokens.f a := rfl
      rw [e, tok_short a (by omega)]
      simp only [Option.bind_some]
      rw [if_pos trivial]
      have hl : (resT (Lx.toks a.data.toList)).1.length ≤ 4001 := by
        cases hx : Lx.toks a.data.toList with
        | error e => exact Nat.zero_le _
        | ok ts =>
          have := toks_le a.data.toList.length _ ts (Nat.le_refl _) hx
          rw [len_data] at this
          show (ts.map tk32 ++ [z32]).length ≤ _
          simp; omega
      rw [same_is _ k (by omega) (by omega)]
      rfl
  have long : ∀ k, 100 ≤ k → 4000 < a.size → vidimuslaw16_LexTells.j0 (k + 1) a false = some true := by
    intro k hk h4
    simp only [vidimuslaw16_LexTells.j0, Bool.false_eq_true, if_false]
    have e : vidimusref16_Tokens.f a = some ([], 28) := by
      unfold vidimusref16_Tokens.f tokF
      rw [Lx.lexA_toks, if_pos (by rw [len_data]; omega)]
      rfl
    have e2 : lex_Tokens.f a = some ([], 28) := e
    rw [e, e2]
    simp only [Option.bind_some]
    rw [if_pos trivial, same_is _ k (by simp; omega) (by simp)]
    rfl
  have both : vidimuslaw16_LexTells.j0 6001 a false = some true := by
    rcases main 6000 (by omega) with h | h
    · exact h
    · exact long 6000 (by omega) h
  refine ⟨6001, ?_⟩
  unfold vidimuslaw16_LexTells.f
  rw [awake_is (by omega)]
  simp only [Option.bind_some, if_true]
  by_cases h1 : (a.size : Int) > 1000
  · rw [if_pos h1]
    by_cases h2 : (a.size : Int) ≤ 4000
    · rw [decide_eq_true h2]; simp only [vidimuslaw16_LexTells.j0, if_true]
    · rw [decide_eq_false h2]; exact both
  · rw [if_neg h1]; exact both
end Go.Proofs.YtcgdncpioafbdaaGreatDoor.Q

namespace Go.Proofs.YtcgdncpioafbdaaGreatDoor.Q
open Go Go.RowKit Go.ChangeShapes Go.WideShapes Go.ChangeAt Go.ChangeMaps Go.Proofs.YtcgdncpioafbdaaGreatDoorW.PrintWords

theorem tells_walk (a : ByteArray) (w : World) (hG : GV w) :
    Calls Tryz.prog 3 #[.string a] w fun e w' => e = .returned (.bool true) ∧ Below w.heap.size w w' := by
  obtain ⟨k, hk⟩ := LexTells_law a
  exact vidimuslaw16_LexTells.calls k a true w hk hG

set_option maxRecDepth 100000 in
theorem lexTells_lifted (os : Os) (started : os.Started) (H : Type) (enc : TypeId × Value → H) :
    ReturnsInHanded {} Tryz.checked os 3 .any (fun w args => (Rows.lexTellsSpec.pre enc Tryz.prog Tryz.f3 [] false w args ∧ laidMetH Tryz.prog laidL w) ∧ sizedMet enc Tryz.prog Tryz.f3 (OpenSpec.ofChange Rows.lexTellsSpec) false w args)
      (Rows.lexTellsSpec.post enc Tryz.prog Tryz.f3 false true false false) := by
  refine returnsIn_law (C := Tryz.checked) (X := fun w _ => laidMetH Tryz.prog laidL w) (fun _ _ _ hh h => h.of_heap hh) ownK started FxLexTells.noInit Tryz.func3
    (ChangeSpec.witness_shaped (enc := enc) (C := Tryz.checked) (os := os) (X := fun w _ => laidMetH Tryz.prog laidL w) false (World.laidAll Tryz.prog os laidL) #[.string ⟨#[]⟩] 8 (World.laidAll_os _ _ _)
      (World.shaped_of_ZipB (by kernel_rfl) (by kernel_rfl)) (by kernel_rfl) (by kernel_rfl) (by kernel_rfl)
      (by rw [MakeChecks.laidMetH_plain _ _ _ (by kernel_rfl)]; exact laidMet_laidAll _ (by kernel_rfl) (by kernel_rfl))) ?_
  intro W base args ds gs before hval0 hW _ hL hS
  have hval : ∀ (j : Nat) t v, Tryz.f3.params[j]? = some t → args[j]? = some v → Value.okWide Tryz.prog W .any base t v := hval0
  have hW' := hW
  obtain ⟨p, q, hA0, hV, rfl, _, _⟩ := hW
  have hA : DataW.TrodAll enc Tryz.prog W 0 (fun _ => true) true Tryz.f3.params.toList args.toList ds p := hA0
  rw [Tryz.params3] at hA hval
  have hST := fun (W' : World) (hb : Below W.heap.size W W') => args_stay hb (by
    intro t ht
    have h1 : ([9].all fun t => Tryz.prog.readableRec t && decide (t < Tryz.prog.types.size)) = true := by kernel_rfl
    simpa using List.all_eq_true.1 h1 t ht) hA
  obtain ⟨v0, d0, rfl, rfl, h0⟩ := trodAll_one hA
  obtain ⟨rfl, rfl⟩ := trodVars_none hV
  obtain ⟨x, rfl, rfl, rfl, wx⟩ := open_string Tryz.underlying9 (hval 0 9 v0 rfl rfl) h0
  simp only [List.append_nil] at hW'
  refine (tells_walk x W (gv_of hL hS)).mono fun e W' ⟨he, hb⟩ => ?_
  subst he
  exact ⟨_, rfl, _, _, _, [], _, [], hW', trodAll_mk1 (shut_bool Tryz.underlying4 _), hST W' hb, rfl, hb.frame _, fun h => by cases h⟩
theorem lexTells_holds : Rows.lexTellsRow.holds Tryz.pinned (OpenSpec.ofChange Rows.lexTellsSpec) :=
  OpenClaim.holds_of_wide 3 Tryz.f3 rfl rfl rfl rfl rfl rfl rfl ⟨rfl, rfl, rfl, rfl, rfl⟩ rfl rfl rfl rfl rfl FxLexTells.name Tryz.func3 FxLexTells.joined
    (of_decide_eq_true (by kernel_rfl)) (by unfold Func.isWrapper; first | (rw [if_pos (by decide +kernel)]; kernel_rfl) | (rw [if_neg (by decide +kernel)]; exact ⟨rfl, rfl⟩))
    (fun os started H enc _ => lexTells_lifted os started H enc)
end Go.Proofs.YtcgdncpioafbdaaGreatDoor.Q
namespace Go.Proofs.YtcgdncpioafbdaaGreatDoor
open Go Go.RowKit
theorem lexTells_card_holds : Rows.LexTellsCardSaid :=
  Claim7.holds_tied_plain_at .later [] [.data, .data, .data, .data, .sentinel, .sentinel, .pinned, .pinned] true (true, "890fae4095338e243913fac227808f3884bb7d0425187019eadb0545e2bf9cfc") true
    Q.lexTells_holds (fun _ h => by cases h) FxLexTells.wft (fun _ h => by cases h) lexTells_row_tie rfl ⟨rfl, rfl⟩ Fx.pm rfl
    (fun f fn hf hfn => by
      obtain rfl : f = 3 := Option.some.inj (FxLexTells.name.symm.trans hf) |>.symm
      obtain rfl : fn = Tryz.f3 := (Option.some.inj (Tryz.func3.symm.trans hfn)).symm
      exact ⟨Fx.pl, fun j t ht => by
        rw [Tryz.params3] at ht
        have hm : t ∈ [9] := by simpa using Array.mem_of_getElem? ht
        exact (show Tryz.prog.wantsStandIn t = false by simpa using List.all_eq_true.1 FxLexTells.stand t hm)⟩)
    FxLexTells.goes
#print axioms lexTells_card_holds
end Go.Proofs.YtcgdncpioafbdaaGreatDoor

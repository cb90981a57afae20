/- THE LAW LexTexts OF vidimus, FOR EVERY INPUT: the call returns true, and each argument reads as it did. Under what the card says: the listed package-level variables start as the program's text lays them. -/
import Derived.Test.YtcgdncpioafbdaaGreatDoorOpen
import Derived.Test.YtcgdncpioafbdaaGreatDoorTie
import Derived.Test.YtcgdncpioafbdaaGreatDoorCards
import Derived.Test.YtcgdncpioafbdaaGreatDoorFLexTexts
import Derived.Test.YtcgdncpioafbdaaGreatDoorPlTexts
import Derived.Test.YtcgdncpioafbdaaGreatDoorQlaw16texts
namespace Go.Proofs.YtcgdncpioafbdaaGreatDoor.Q
open Go Go.RowKit Go.ChangeShapes Go.WideShapes Go.ChangeAt Go.ChangeMaps Go.Proofs.YtcgdncpioafbdaaGreatDoorW.PrintWords

theorem texts_walk (a : ByteArray) (A : Option Addr) (c : Nat) (l : List S32) (w : World) (hr : Kd.C k32 w A l.length l) (hc : l.length ≤ c) (hn : ∀ t ∈ l, t.f2 ≤ 9223372036854775807) (hG : GV w) :
    Calls Tryz.prog 4 #[.string a, .slice A l.length c] w fun e w' => e = .returned (.bool true) ∧ Below w.heap.size w w' := by
  obtain ⟨k, hk⟩ := LexTexts_law a l hn
  exact vidimuslaw16_LexTexts.calls k a A c l true w hr hc hk hG

set_option maxRecDepth 100000 in
theorem lexTexts_lifted (os : Os) (started : os.Started) (H : Type) (enc : TypeId × Value → H) :
    ReturnsInHanded {} Tryz.checked os 4 .any (fun w args => (Rows.lexTextsSpec.pre enc Tryz.prog Tryz.f4 [] false w args ∧ laidMetH Tryz.prog laidL w) ∧ sizedMet enc Tryz.prog Tryz.f4 (OpenSpec.ofChange Rows.lexTextsSpec) false w args)
      (Rows.lexTextsSpec.post enc Tryz.prog Tryz.f4 false true false false) := by
  refine returnsIn_law (C := Tryz.checked) (X := fun w _ => laidMetH Tryz.prog laidL w) (fun _ _ _ hh h => h.of_heap hh) ownK started FxLexTexts.noInit Tryz.func4
    (ChangeSpec.witness_shaped (enc := enc) (C := Tryz.checked) (os := os) (X := fun w _ => laidMetH Tryz.prog laidL w) false (World.laidAll Tryz.prog os laidL) #[.string ⟨#[]⟩, .slice none 0 0] 8 (World.laidAll_os _ _ _)
      (World.shaped_of_ZipB (by kernel_rfl) (by kernel_rfl)) (by kernel_rfl) (by kernel_rfl) (by kernel_rfl)
      (by rw [MakeChecks.laidMetH_plain _ _ _ (by kernel_rfl)]; exact laidMet_laidAll _ (by kernel_rfl) (by kernel_rfl))) ?_
  intro W base args ds gs before hval0 hW _ hL hS
  have hval : ∀ (j : Nat) t v, Tryz.f4.params[j]? = some t → args[j]? = some v → Value.okWide Tryz.prog W .any base t v := hval0
  have hW' := hW
  obtain ⟨p, q, hA0, hV, rfl, _, _⟩ := hW
  have hA : DataW.TrodAll enc Tryz.prog W 0 (fun _ => true) true Tryz.f4.params.toList args.toList ds p := hA0
  rw [Tryz.params4] at hA hval
  have hST := fun (W' : World) (hb : Below W.heap.size W W') => args_stay hb (by
    intro t ht
    have h1 : ([9, 23].all fun t => Tryz.prog.readableRec t && decide (t < Tryz.prog.types.size)) = true := by kernel_rfl
    simpa using List.all_eq_true.1 h1 t ht) hA
  obtain ⟨v0, v1, d0, d1, p0, p1, rfl, rfl, rfl, h0, h1⟩ := trodAll_two hA
  obtain ⟨rfl, rfl⟩ := trodVars_none hV
  obtain ⟨x, rfl, rfl, rfl, wx⟩ := open_string Tryz.underlying9 (hval 0 9 v0 rfl rfl) h0
  obtain ⟨A, c, l, rfl, hc, hr, hs⟩ := open_row k32 _ Tryz.underlying23 (by kernel_rfl) one_32 (hval 1 23 v1 rfl rfl) h1
  have hn : ∀ t ∈ l, t.f2 ≤ 9223372036854775807 := fun t ht => by
    have := (hs t ht).2.2
    simp [Lit.wf, IntKind.min, IntKind.max, IntKind.signed, IntKind.bits] at this
    omega
  simp only [List.append_nil] at hW'
  refine (texts_walk x A c l W hr hc hn (gv_of hL hS)).mono fun e W' ⟨he, hb⟩ => ?_
  subst he
  exact ⟨_, rfl, _, _, _, [], _, [], hW', trodAll_mk1 (shut_bool Tryz.underlying4 _), hST W' hb, rfl, hb.frame _, fun h => by cases h⟩
theorem lexTexts_holds : Rows.lexTextsRow.holds Tryz.pinned (OpenSpec.ofChange Rows.lexTextsSpec) :=
  OpenClaim.holds_of_wide 4 Tryz.f4 rfl rfl rfl rfl rfl rfl rfl ⟨rfl, rfl, rfl, rfl, rfl⟩ rfl rfl rfl rfl rfl FxLexTexts.name Tryz.func4 FxLexTexts.joined
    (of_decide_eq_true (by kernel_rfl)) (by unfold Func.isWrapper; first | (rw [if_pos (by decide +kernel)]; kernel_rfl) | (rw [if_neg (by decide +kernel)]; exact ⟨rfl, rfl⟩))
    (fun os started H enc _ => lexTexts_lifted os started H enc)
end Go.Proofs.YtcgdncpioafbdaaGreatDoor.Q
namespace Go.Proofs.YtcgdncpioafbdaaGreatDoor
open Go Go.RowKit
theorem lexTexts_card_holds : Rows.LexTextsCardSaid :=
  Claim7.holds_tied_plain_at .later [] [.data, .data, .data, .data, .sentinel, .sentinel, .pinned, .pinned] true (true, "890fae4095338e243913fac227808f3884bb7d0425187019eadb0545e2bf9cfc") true
    Q.lexTexts_holds (fun _ h => by cases h) FxLexTexts.wft (fun _ h => by cases h) lexTexts_row_tie rfl ⟨rfl, rfl⟩ Fx.pm rfl
    (fun f fn hf hfn => by
      obtain rfl : f = 4 := Option.some.inj (FxLexTexts.name.symm.trans hf) |>.symm
      obtain rfl : fn = Tryz.f4 := (Option.some.inj (Tryz.func4.symm.trans hfn)).symm
      exact ⟨Fx.pl, fun j t ht => by
        rw [Tryz.params4] at ht
        have hm : t ∈ [9, 23] := by simpa using Array.mem_of_getElem? ht
        exact (show Tryz.prog.wantsStandIn t = false by simpa using List.all_eq_true.1 FxLexTexts.stand t hm)⟩)
    FxLexTexts.goes
#print axioms lexTexts_card_holds
end Go.Proofs.YtcgdncpioafbdaaGreatDoor

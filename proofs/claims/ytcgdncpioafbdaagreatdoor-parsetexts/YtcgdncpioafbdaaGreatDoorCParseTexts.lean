/- THE LAW ParseTexts OF vidimus, FOR EVERY INPUT: the call returns true, and each argument reads as it did. Under what the card says: the listed package-level variables start as the program's text lays them. -/
import Derived.Test.YtcgdncpioafbdaaGreatDoorRows
import Derived.Test.YtcgdncpioafbdaaGreatDoorTie
import Derived.Test.YtcgdncpioafbdaaGreatDoorCards
import Derived.Test.YtcgdncpioafbdaaGreatDoorS1
import Derived.Test.YtcgdncpioafbdaaGreatDoorS2
import Derived.Test.YtcgdncpioafbdaaGreatDoorS3
import Derived.Test.YtcgdncpioafbdaaGreatDoorS4
import Derived.Test.YtcgdncpioafbdaaGreatDoorS5
import Derived.Test.YtcgdncpioafbdaaGreatDoorS6
import Derived.Test.YtcgdncpioafbdaaGreatDoorS7
set_option linter.unusedVariables false
set_option linter.unusedSimpArgs false
namespace Go.Proofs.YtcgdncpioafbdaaGreatDoor.Q
open Go Go.RowKit Go.ChangeShapes Go.WideShapes Go.ChangeAt Go.ChangeMaps Go.Proofs.YtcgdncpioafbdaaGreatDoorW.PrintWords
section
variable {H : Type} {enc : TypeId × Value → H} {W : World}
open Go.Deep in
theorem one_114 : ∀ n cs x, DataW.trod enc Tryz.prog W 0 (fun _ => true) true n 114 cs = some x → ∃ a : S114, k114.K W a cs ∧ (Lit.int .i64 a.f1).wf = true := by
  intro n cs x h
  obtain ⟨y0, y1, y2, m, _, hl, h0, h1, h2⟩ := trod_struct3 Tryz.underlying114 h
  have hc : Tryz.prog.cellsOf 114 = 3 := by kernel_rfl
  have c3 : Tryz.prog.cellsOf 3 = 1 := by kernel_rfl
  have c9 : Tryz.prog.cellsOf 9 = 1 := by kernel_rfl
  have c2 : Tryz.prog.cellsOf 2 = 1 := by kernel_rfl
  rw [hc] at hl
  obtain ⟨a, b, c, rfl⟩ := three hl
  simp only [c3, c9, c2, List.drop_zero, List.drop_succ_cons, List.take_succ_cons, List.take_zero] at h0 h1 h2
  obtain ⟨p, hp, _, hpw⟩ := DataW.trod_int Tryz.underlying3 h0
  obtain ⟨q, hq, _, hqw⟩ := DataW.trod_int Tryz.underlying2 h1
  obtain ⟨r, hr, _, hrw⟩ := DataW.trod_string Tryz.underlying9 h2
  cases hp; cases hq; cases hr
  exact ⟨⟨p, q, r⟩, k114_mk W ⟨p, q, r⟩, hqw⟩
end
set_option maxRecDepth 100000 in
theorem parseTexts_lifted (os : Os) (started : os.Started) (H : Type) (enc : TypeId × Value → H) :
    ReturnsInHanded {} Tryz.checked os 9 .any (fun w args => (Rows.parseTextsSpec.pre enc Tryz.prog Tryz.f9 [] false w args ∧ laidMetH Tryz.prog laidL w) ∧ sizedMet enc Tryz.prog Tryz.f9 (OpenSpec.ofChange Rows.parseTextsSpec) false w args)
      (Rows.parseTextsSpec.post enc Tryz.prog Tryz.f9 false true false false) := by
  refine returnsIn_law (C := Tryz.checked) (X := fun w _ => laidMetH Tryz.prog laidL w) (fun _ _ _ hh h => h.of_heap hh) ownK started FxParseTexts.noInit Tryz.func9
    (ChangeSpec.witness_shaped (enc := enc) (C := Tryz.checked) (os := os) (X := fun w _ => laidMetH Tryz.prog laidL w) false (World.laidAll Tryz.prog os laidL) #[.slice none 0 0] 8 (World.laidAll_os _ _ _)
      (World.shaped_of_ZipB (by kernel_rfl) (by kernel_rfl)) (by kernel_rfl) (by kernel_rfl) (by kernel_rfl)
      (by rw [MakeChecks.laidMetH_plain _ _ _ (by kernel_rfl)]; exact laidMet_laidAll _ (by kernel_rfl) (by kernel_rfl))) ?_
  intro W base args ds gs before hval0 hW _ hL hS
  have hval : ∀ (j : Nat) t v, Tryz.f9.params[j]? = some t → args[j]? = some v → Value.okWide Tryz.prog W .any base t v := hval0
  have hW' := hW
  obtain ⟨p, q, hA0, hV, rfl, _, _⟩ := hW
  have hA : DataW.TrodAll enc Tryz.prog W 0 (fun _ => true) true Tryz.f9.params.toList args.toList ds p := hA0
  rw [Tryz.params9] at hA hval
  have hST := fun (W' : World) (hb : Below W.heap.size W W') => args_stay hb (by
    intro t ht
    have h1 : ([38].all fun t => Tryz.prog.readableRec t && decide (t < Tryz.prog.types.size)) = true := by kernel_rfl
    simpa using List.all_eq_true.1 h1 t ht) hA
  obtain ⟨v0, d0, rfl, rfl, h0⟩ := trodAll_one hA
  obtain ⟨rfl, rfl⟩ := trodVars_none hV
  obtain ⟨A, c, l, rfl, hc, hr, hs⟩ := open_row k114 _ Tryz.underlying38 (by kernel_rfl) one_114 (hval 0 38 v0 rfl rfl) h0
  have hn : ∀ s ∈ l, StepOk s := fun s hm => by
    have := hs s hm
    simp [Lit.wf, IntKind.min, IntKind.max, IntKind.signed, IntKind.bits] at this
    exact ⟨by omega, by omega⟩
  simp only [List.append_nil] at hW'
  refine (texts_calls hc hr hn (gv_of hL hS)).mono fun e W' ⟨he, hb⟩ => ?_
  subst he
  exact ⟨_, rfl, _, _, _, [], _, [], hW', trodAll_mk1 (shut_bool Tryz.underlying4 _), hST W' hb, rfl, hb.frame _, fun h => by cases h⟩
theorem parseTexts_holds : Rows.parseTextsRow.holds Tryz.pinned (OpenSpec.ofChange Rows.parseTextsSpec) :=
  OpenClaim.holds_of_wide 9 Tryz.f9 rfl rfl rfl rfl rfl rfl rfl ⟨rfl, rfl, rfl, rfl, rfl⟩ rfl rfl rfl rfl rfl FxParseTexts.name Tryz.func9 FxParseTexts.joined
    (of_decide_eq_true (by kernel_rfl)) (by unfold Func.isWrapper; first | (rw [if_pos (by decide +kernel)]; kernel_rfl) | (rw [if_neg (by decide +kernel)]; exact ⟨rfl, rfl⟩))
    (fun os started H enc _ => parseTexts_lifted os started H enc)
end Go.Proofs.YtcgdncpioafbdaaGreatDoor.Q
namespace Go.Proofs.YtcgdncpioafbdaaGreatDoor
open Go Go.RowKit
theorem parseTexts_card_holds : Rows.ParseTextsCardSaid :=
  Claim7.holds_tied_plain_at .later [] [.data, .data, .data, .data, .sentinel, .sentinel, .pinned, .pinned] true (true, "890fae4095338e243913fac227808f3884bb7d0425187019eadb0545e2bf9cfc") true
    Q.parseTexts_holds (fun _ h => by cases h) FxParseTexts.wft (fun _ h => by cases h) parseTexts_row_tie rfl ⟨rfl, rfl⟩ Fx.pm rfl
    (fun f fn hf hfn => by
      obtain rfl : f = 9 := Option.some.inj (FxParseTexts.name.symm.trans hf) |>.symm
      obtain rfl : fn = Tryz.f9 := (Option.some.inj (Tryz.func9.symm.trans hfn)).symm
      exact ⟨Fx.pl, fun j t ht => by
        rw [Tryz.params9] at ht
        have hm : t ∈ [38] := by simpa using Array.mem_of_getElem? ht
        exact (show Tryz.prog.wantsStandIn t = false by simpa using List.all_eq_true.1 FxParseTexts.stand t hm)⟩)
    FxParseTexts.goes
#print axioms parseTexts_card_holds
end Go.Proofs.YtcgdncpioafbdaaGreatDoor

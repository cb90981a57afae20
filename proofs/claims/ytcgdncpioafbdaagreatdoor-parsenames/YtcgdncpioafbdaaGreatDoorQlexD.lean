-- Written by a program of this seat (wip/pr.py, by way of the kit's print) out of the translation; Lean checks it.
import Derived.Test.YtcgdncpioafbdaaGreatDoorQ0
import Derived.Test.YtcgdncpioafbdaaGreatDoorLeafF
namespace Go.Proofs.YtcgdncpioafbdaaGreatDoor.Q
open Go.RowKit Go.Proofs.YtcgdncpioafbdaaGreatDoorW.PrintWords Go.Proofs.YtcgdncpioafbdaaGreatDoorW.PrintLast Go.Proofs.YtcgdncpioafbdaaGreatDoorW.PrintMore
attribute [local go_sem] max2_int min2_int max_two min_two max_three min_three max_four min_four   -- for this text's walks alone
set_option linter.unusedVariables false
set_option linter.unusedSimpArgs false

/-! ### lex_skip: function 55 -/
def lex_skip.l0 : Nat → ByteArray → Option (ByteArray)
  | 0, _ => none
  | k + 1, x0 => (strings_TrimLeft.f x0 (⟨#[32, 9, 10, 13]⟩ : ByteArray)).bind fun t101 => ((strings_HasPrefix.f t101 (⟨#[45, 45]⟩ : ByteArray)).bind fun t102 => (if t102 = true then ((strings_Cut.f t101 (⟨#[10]⟩ : ByteArray)).bind fun bt103 => (lex_skip.l0 k bt103.2.1)) else (some t101)))
def lex_skip.f (k : Nat) (a0 : ByteArray) : Option (ByteArray) := lex_skip.l0 k a0
theorem lex_skip.mono_l : ∀ k, (∀ y0, LeO (lex_skip.l0 k y0) (lex_skip.l0 (k + 1) y0))
  | 0 => fun _ r h => by simp [lex_skip.l0] at h
  | k + 1 => by
    have ih0 := lex_skip.mono_l k
    · intro y0
      unfold lex_skip.l0
      repeat' first
      | (with_reducible exact ih0 _)
      | (with_reducible exact LeO.refl _)
      | (with_reducible exact LeO.none _)
      | (with_reducible refine LeO.ite ?_ ?_)
      | (with_reducible refine LeO.bind ?_ (fun _ => ?_))
      | exact ih0 _
      | exact LeO.none _
      | refine LeO.ite ?_ ?_
      | refine LeO.bind ?_ (fun _ => ?_)
theorem lex_skip.mono : ∀ a0 k, LeO (lex_skip.f k a0) (lex_skip.f (k + 1) a0) := by
  intro a0 k
  have ih0 := lex_skip.mono_l k
  unfold lex_skip.f
  repeat' first
      | (with_reducible exact ih0 _)
      | (with_reducible exact LeO.refl _)
      | (with_reducible exact LeO.none _)
      | (with_reducible refine LeO.ite ?_ ?_)
      | (with_reducible refine LeO.bind ?_ (fun _ => ?_))
      | exact ih0 _
      | exact LeO.none _
      | refine LeO.ite ?_ ?_
      | refine LeO.bind ?_ (fun _ => ?_)

/-! ### lex_run: function 121 -/
def lex_run.f (a0 : ByteArray) (a1 : ByteArray) : Option (Int) := (lex_cutLeft.f a0 a1).bind fun t106 => (some (wrap64 ((a0.size : Int) - (t106.size : Int))))

/-! ### lex_word: function 58 -/
def lex_word.f (a0 : ByteArray) : Option (Int × ByteArray × Int × Int × Int) := (lex_run.f a0 (⟨#[97, 98, 99, 100, 101, 102, 103, 104, 105, 106, 107, 108, 109, 110, 111, 112, 113, 114, 115, 116, 117, 118, 119, 120, 121, 122, 65, 66, 67, 68, 69, 70, 71, 72, 73, 74, 75, 76, 77, 78, 79, 80, 81, 82, 83, 84, 85, 86, 87, 88, 89, 90, 48, 49, 50, 51, 52, 53, 54, 55, 56, 57, 95]⟩ : ByteArray)).bind fun t108 => (if t108 > 30 then (some (0, (⟨#[]⟩ : ByteArray), 0, 0, 28)) else (if 0 ≤ t108 then (if t108 ≤ (a0.size : Int) then ((strings_ToLower.f (a0.extract 0 (t108 : Int).toNat)).bind fun t109 => (some (1, t109, 0, t108, 0))) else (none)) else (none)))

/-! ### lex_has: function 57 -/
def lex_has.f (a0 : ByteArray) (a1 : Int) : Option (Bool) := (strings_IndexByte.f a0 a1).bind fun t110 => (some (decide (t110 ≥ 0)))

/-! ### lex_sign: function 56 -/
def lex_sign.j0 : Nat → ByteArray → ByteArray → Bool → Option (Int × ByteArray × Int × Int × Int)
  | 0, _, _, _ => none
  | k + 1, x0, x5, x12 => if x12 = true then (some (4, x5, 0, 2, 0)) else (if 0 < (x0.size : Int) then ((lex_has.f (⟨#[40, 41, 44, 42, 43, 45, 47, 37, 61, 60, 62, 59]⟩ : ByteArray) (bt x0 0)).bind fun t112 => (if t112 = true then (if 0 ≤ 1 then (if 1 ≤ (x0.size : Int) then (some (4, x0.extract 0 1, 0, 1, 0)) else (none)) else (none)) else (some (0, (⟨#[]⟩ : ByteArray), 0, 0, 20)))) else (none))
def lex_sign.f (k : Nat) (a0 : ByteArray) : Option (Int × ByteArray × Int × Int × Int) := if (a0.size : Int) > 1 then (if 0 ≤ 2 then (if 2 ≤ (a0.size : Int) then (if (a0.extract 0 2).toList = ([60, 61] : List UInt8) then (lex_sign.j0 k a0 (a0.extract 0 2) ((a0.extract 0 2).toList == ([60, 61] : List UInt8))) else (if (a0.extract 0 2).toList = ([62, 61] : List UInt8) then (lex_sign.j0 k a0 (a0.extract 0 2) ((a0.extract 0 2).toList == ([62, 61] : List UInt8))) else (if (a0.extract 0 2).toList = ([60, 62] : List UInt8) then (lex_sign.j0 k a0 (a0.extract 0 2) ((a0.extract 0 2).toList == ([60, 62] : List UInt8))) else (lex_sign.j0 k a0 (a0.extract 0 2) ((a0.extract 0 2).toList == ([124, 124] : List UInt8)))))) else (none)) else (none)) else (if 0 < (a0.size : Int) then ((lex_has.f (⟨#[40, 41, 44, 42, 43, 45, 47, 37, 61, 60, 62, 59]⟩ : ByteArray) (bt a0 0)).bind fun t113 => (if t113 = true then (if 0 ≤ 1 then (if 1 ≤ (a0.size : Int) then (some (4, a0.extract 0 1, 0, 1, 0)) else (none)) else (none)) else (some (0, (⟨#[]⟩ : ByteArray), 0, 0, 20)))) else (none))
theorem lex_sign.mono_l : ∀ k, (∀ y0 y1 y2, LeO (lex_sign.j0 k y0 y1 y2) (lex_sign.j0 (k + 1) y0 y1 y2))
  | 0 => fun _ _ _ r h => by simp [lex_sign.j0] at h
  | k + 1 => by
    have ih0 := lex_sign.mono_l k
    · intro y0 y1 y2
      unfold lex_sign.j0
      repeat' first
      | (with_reducible exact ih0 _ _ _)
      | (with_reducible exact LeO.refl _)
      | (with_reducible exact LeO.none _)
      | (with_reducible refine LeO.ite ?_ ?_)
      | (with_reducible refine LeO.bind ?_ (fun _ => ?_))
      | exact ih0 _ _ _
      | exact LeO.none _
      | refine LeO.ite ?_ ?_
      | refine LeO.bind ?_ (fun _ => ?_)
theorem lex_sign.mono : ∀ a0 k, LeO (lex_sign.f k a0) (lex_sign.f (k + 1) a0) := by
  intro a0 k
  have ih0 := lex_sign.mono_l k
  unfold lex_sign.f
  repeat' first
      | (with_reducible exact ih0 _ _ _)
      | (with_reducible exact LeO.refl _)
      | (with_reducible exact LeO.none _)
      | (with_reducible refine LeO.ite ?_ ?_)
      | (with_reducible refine LeO.bind ?_ (fun _ => ?_))
      | exact ih0 _ _ _
      | exact LeO.none _
      | refine LeO.ite ?_ ?_
      | refine LeO.bind ?_ (fun _ => ?_)

/-! ### lex_Text: function 19 -/
def lex_Text.l0 : Nat → List ByteArray → List (S32) → Int → Int → Option (ByteArray)
  | 0, _, _, _, _ => none
  | k + 1, x3, x6, x7, x8 => if x8 < x7 then (if 0 ≤ x8 then (if x8 < (x6.length : Int) then (if ((rd_T32 x6 x8).f0) = 0 then ((strings_Join.f x3 (⟨#[32]⟩ : ByteArray)).bind fun t117 => (some t117)) else (if ((rd_T32 x6 x8).f0) = 2 then ((strconv_FormatInt.f (mx ((rd_T32 x6 x8).f2) 0) 10).bind fun t118 => (if x3.length < 8796093022208 then (lex_Text.l0 k (x3 ++ [t118]) x6 x7 (wrap64 (x8 + 1))) else (none))) else (if ((rd_T32 x6 x8).f0) = 3 then ((strings_ReplaceAll.f ((rd_T32 x6 x8).f1) (⟨#[39]⟩ : ByteArray) (⟨#[39, 39]⟩ : ByteArray)).bind fun t122 => (if 1 + t122.size ≤ 9223372036854775807 then (if ((⟨#[39]⟩ : ByteArray) ++ t122).size + 1 ≤ 9223372036854775807 then (if x3.length < 8796093022208 then (lex_Text.l0 k (x3 ++ [((⟨#[39]⟩ : ByteArray) ++ t122) ++ (⟨#[39]⟩ : ByteArray)]) x6 x7 (wrap64 (x8 + 1))) else (none)) else (none)) else (none))) else (if x3.length < 8796093022208 then (lex_Text.l0 k (x3 ++ [(rd_T32 x6 x8).f1]) x6 x7 (wrap64 (x8 + 1))) else (none))))) else (none)) else (none)) else ((strings_Join.f x3 (⟨#[32]⟩ : ByteArray)).bind fun t114 => (some t114))
def lex_Text.f (k : Nat) (l0 : List (S32)) : Option (ByteArray) := lex_Text.l0 k ([] : List ByteArray) l0 (l0.length : Int) 0
theorem lex_Text.mono_l : ∀ k, (∀ y0 y1 y2 y3, LeO (lex_Text.l0 k y0 y1 y2 y3) (lex_Text.l0 (k + 1) y0 y1 y2 y3))
  | 0 => fun _ _ _ _ r h => by simp [lex_Text.l0] at h
  | k + 1 => by
    have ih0 := lex_Text.mono_l k
    · intro y0 y1 y2 y3
      unfold lex_Text.l0
      repeat' first
      | (with_reducible exact ih0 _ _ _ _)
      | (with_reducible exact LeO.refl _)
      | (with_reducible exact LeO.none _)
      | (with_reducible refine LeO.ite ?_ ?_)
      | (with_reducible refine LeO.bind ?_ (fun _ => ?_))
      | exact ih0 _ _ _ _
      | exact LeO.none _
      | refine LeO.ite ?_ ?_
      | refine LeO.bind ?_ (fun _ => ?_)
theorem lex_Text.mono : ∀ a0 k, LeO (lex_Text.f k a0) (lex_Text.f (k + 1) a0) := by
  intro a0 k
  have ih0 := lex_Text.mono_l k
  unfold lex_Text.f
  repeat' first
      | (with_reducible exact ih0 _ _ _ _)
      | (with_reducible exact LeO.refl _)
      | (with_reducible exact LeO.none _)
      | (with_reducible refine LeO.ite ?_ ?_)
      | (with_reducible refine LeO.bind ?_ (fun _ => ?_))
      | exact ih0 _ _ _ _
      | exact LeO.none _
      | refine LeO.ite ?_ ?_
      | refine LeO.bind ?_ (fun _ => ?_)

end Go.Proofs.YtcgdncpioafbdaaGreatDoor.Q

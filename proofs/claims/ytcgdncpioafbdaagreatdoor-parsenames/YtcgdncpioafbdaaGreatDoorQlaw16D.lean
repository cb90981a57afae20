-- Written by a program of this seat (wip/pr.py, by way of the kit's print) out of the translation; Lean checks it.
import Derived.Test.YtcgdncpioafbdaaGreatDoorQ0
import Derived.Test.YtcgdncpioafbdaaGreatDoorQlexD
import Derived.Test.YtcgdncpioafbdaaGreatDoorQref16D
import Derived.Test.YtcgdncpioafbdaaGreatDoorTokF
namespace Go.Proofs.YtcgdncpioafbdaaGreatDoor.Q
open Go.RowKit Go.Proofs.YtcgdncpioafbdaaGreatDoorW.PrintWords Go.Proofs.YtcgdncpioafbdaaGreatDoorW.PrintLast Go.Proofs.YtcgdncpioafbdaaGreatDoorW.PrintMore
attribute [local go_sem] max2_int min2_int max_two min_two max_three min_three max_four min_four   -- for this text's walks alone
set_option linter.unusedVariables false
set_option linter.unusedSimpArgs false

/-! ### vidimuslaw16_awake: function 15 -/
def vidimuslaw16_awake.f (k : Nat)  : Option (Bool) := (lex_Tokens.f (⟨#[65, 60, 61, 49, 32, 45, 45, 32, 120]⟩ : ByteArray)).bind fun bt129 => ((lex_Tokens.f (⟨#[39, 97]⟩ : ByteArray)).bind fun bt133 => (if bt129.2 = 0 then (if bt133.2 = 20 then (if (bt129.1.length : Int) = 4 then (if 0 < (bt129.1.length : Int) then (if ((rd_T32 bt129.1 0).f1).toList = ([97] : List UInt8) then (if 1 < (bt129.1.length : Int) then (if ((rd_T32 bt129.1 1).f1).toList = ([60, 61] : List UInt8) then (if 2 < (bt129.1.length : Int) then (if ((rd_T32 bt129.1 2).f2) = 1 then ((lex_Text.f k bt129.1).bind fun t140 => (some (t140.toList == ([97, 32, 60, 61, 32, 49] : List UInt8)))) else (some false)) else (none)) else (some false)) else (none)) else (some false)) else (none)) else (some false)) else (some false)) else (some false)))
theorem vidimuslaw16_awake.mono : ∀ k, LeO (vidimuslaw16_awake.f k ) (vidimuslaw16_awake.f (k + 1) ) := by
  intro  k
  unfold vidimuslaw16_awake.f
  repeat' first
      | (with_reducible exact lex_Text.mono _ _)
      | (with_reducible exact LeO.refl _)
      | (with_reducible exact LeO.none _)
      | (with_reducible refine LeO.ite ?_ ?_)
      | (with_reducible refine LeO.bind ?_ (fun _ => ?_))
      | exact lex_Text.mono _ _
      | exact LeO.none _
      | refine LeO.ite ?_ ?_
      | refine LeO.bind ?_ (fun _ => ?_)

/-! ### vidimuslaw16_LexTells: function 3 -/
def vidimuslaw16_LexTells.j0 : Nat → ByteArray → Bool → Option (Bool)
  | 0, _, _ => none
  | k + 1, x0, x16 => if x16 = true then (some true) else ((lex_Tokens.f x0).bind fun bt144 => ((vidimusref16_Tokens.f x0).bind fun bt148 => (if bt144.2 = bt148.2 then ((vidimusref16_Same.f k bt144.1 bt148.1).bind fun t152 => (some t152)) else (some false))))
def vidimuslaw16_LexTells.f (k : Nat) (a0 : ByteArray) : Option (Bool) := (vidimuslaw16_awake.f k).bind fun t143 => (if t143 = true then (if (a0.size : Int) > 1000 then (vidimuslaw16_LexTells.j0 k a0 (decide ((a0.size : Int) ≤ 4000))) else (vidimuslaw16_LexTells.j0 k a0 false)) else (some false))
theorem vidimuslaw16_LexTells.mono_l : ∀ k, (∀ y0 y1, LeO (vidimuslaw16_LexTells.j0 k y0 y1) (vidimuslaw16_LexTells.j0 (k + 1) y0 y1))
  | 0 => fun _ _ r h => by simp [vidimuslaw16_LexTells.j0] at h
  | k + 1 => by
    have ih0 := vidimuslaw16_LexTells.mono_l k
    · intro y0 y1
      unfold vidimuslaw16_LexTells.j0
      repeat' first
      | (with_reducible exact ih0 _ _)
      | (with_reducible exact vidimuslaw16_awake.mono _)
      | (with_reducible exact vidimusref16_Same.mono _ _ _)
      | (with_reducible exact LeO.refl _)
      | (with_reducible exact LeO.none _)
      | (with_reducible refine LeO.ite ?_ ?_)
      | (with_reducible refine LeO.bind ?_ (fun _ => ?_))
      | exact ih0 _ _
      | exact vidimuslaw16_awake.mono _
      | exact vidimusref16_Same.mono _ _ _
      | exact LeO.none _
      | refine LeO.ite ?_ ?_
      | refine LeO.bind ?_ (fun _ => ?_)
theorem vidimuslaw16_LexTells.mono : ∀ a0 k, LeO (vidimuslaw16_LexTells.f k a0) (vidimuslaw16_LexTells.f (k + 1) a0) := by
  intro a0 k
  have ih0 := vidimuslaw16_LexTells.mono_l k
  unfold vidimuslaw16_LexTells.f
  repeat' first
      | (with_reducible exact ih0 _ _)
      | (with_reducible exact vidimuslaw16_awake.mono _)
      | (with_reducible exact vidimusref16_Same.mono _ _ _)
      | (with_reducible exact LeO.refl _)
      | (with_reducible exact LeO.none _)
      | (with_reducible refine LeO.ite ?_ ?_)
      | (with_reducible refine LeO.bind ?_ (fun _ => ?_))
      | exact ih0 _ _
      | exact vidimuslaw16_awake.mono _
      | exact vidimusref16_Same.mono _ _ _
      | exact LeO.none _
      | refine LeO.ite ?_ ?_
      | refine LeO.bind ?_ (fun _ => ?_)

/-! ### vidimuslaw16_LexTexts: function 4 -/
mutual
def vidimuslaw16_LexTexts.j0 : Nat → ByteArray → List (S32) → Bool → Option (Bool)
  | 0, _, _, _ => none
  | k + 1, x0, x1, x20 => if x20 = true then (some true) else (vidimuslaw16_LexTexts.l0 k x0 x1 x1 (x1.length : Int) 0)
def vidimuslaw16_LexTexts.l0 : Nat → ByteArray → List (S32) → List (S32) → Int → Int → Option (Bool)
  | 0, _, _, _, _, _ => none
  | k + 1, x0, x1, x21, x22, x23 => if x23 < x22 then (if 0 ≤ x23 then (if x23 < (x21.length : Int) then (if (((rd_T32 x21 x23).f1).size : Int) > 100 then (some true) else (vidimuslaw16_LexTexts.l0 k x0 x1 x21 x22 (wrap64 (x23 + 1)))) else (none)) else (none)) else ((lex_Text.f k x1).bind fun t170 => ((vidimusref16_Text.f k x1).bind fun t171 => (if t170.toList = t171.toList then ((lex_Tokens.f x0).bind fun bt172 => (if bt172.2 = 0 then ((lex_Text.f k bt172.1).bind fun t176 => ((lex_Tokens.f t176).bind fun bt177 => (if bt177.2 = 0 then ((vidimusref16_Same.f k bt172.1 bt177.1).bind fun t181 => (some t181)) else (some false)))) else (some ((bt172.1.length : Int) == 0)))) else (some false))))
end
def vidimuslaw16_LexTexts.f (k : Nat) (a0 : ByteArray) (l1 : List (S32)) : Option (Bool) := (vidimuslaw16_awake.f k).bind fun t167 => (if t167 = true then (if (a0.size : Int) > 500 then (vidimuslaw16_LexTexts.j0 k a0 l1 true) else (vidimuslaw16_LexTexts.j0 k a0 l1 (decide ((l1.length : Int) > 30)))) else (some false))
theorem vidimuslaw16_LexTexts.mono_l : ∀ k, (∀ y0 y1 y2, LeO (vidimuslaw16_LexTexts.j0 k y0 y1 y2) (vidimuslaw16_LexTexts.j0 (k + 1) y0 y1 y2)) ∧ (∀ y0 y1 y2 y3 y4, LeO (vidimuslaw16_LexTexts.l0 k y0 y1 y2 y3 y4) (vidimuslaw16_LexTexts.l0 (k + 1) y0 y1 y2 y3 y4))
  | 0 => ⟨fun _ _ _ r h => by simp [vidimuslaw16_LexTexts.j0] at h, fun _ _ _ _ _ r h => by simp [vidimuslaw16_LexTexts.l0] at h⟩
  | k + 1 => by
    obtain ⟨ih0, ih1⟩ := vidimuslaw16_LexTexts.mono_l k
    refine ⟨?_, ?_⟩
    · intro y0 y1 y2
      unfold vidimuslaw16_LexTexts.j0
      repeat' first
      | (with_reducible exact ih0 _ _ _)
      | (with_reducible exact ih1 _ _ _ _ _)
      | (with_reducible exact lex_Text.mono _ _)
      | (with_reducible exact vidimuslaw16_awake.mono _)
      | (with_reducible exact vidimusref16_Same.mono _ _ _)
      | (with_reducible exact vidimusref16_Text.mono _ _)
      | (with_reducible exact LeO.refl _)
      | (with_reducible exact LeO.none _)
      | (with_reducible refine LeO.ite ?_ ?_)
      | (with_reducible refine LeO.bind ?_ (fun _ => ?_))
      | exact ih0 _ _ _
      | exact ih1 _ _ _ _ _
      | exact lex_Text.mono _ _
      | exact vidimuslaw16_awake.mono _
      | exact vidimusref16_Same.mono _ _ _
      | exact vidimusref16_Text.mono _ _
      | exact LeO.none _
      | refine LeO.ite ?_ ?_
      | refine LeO.bind ?_ (fun _ => ?_)
    · intro y0 y1 y2 y3 y4
      unfold vidimuslaw16_LexTexts.l0
      repeat' first
      | (with_reducible exact ih0 _ _ _)
      | (with_reducible exact ih1 _ _ _ _ _)
      | (with_reducible exact lex_Text.mono _ _)
      | (with_reducible exact vidimuslaw16_awake.mono _)
      | (with_reducible exact vidimusref16_Same.mono _ _ _)
      | (with_reducible exact vidimusref16_Text.mono _ _)
      | (with_reducible exact LeO.refl _)
      | (with_reducible exact LeO.none _)
      | (with_reducible refine LeO.ite ?_ ?_)
      | (with_reducible refine LeO.bind ?_ (fun _ => ?_))
      | exact ih0 _ _ _
      | exact ih1 _ _ _ _ _
      | exact lex_Text.mono _ _
      | exact vidimuslaw16_awake.mono _
      | exact vidimusref16_Same.mono _ _ _
      | exact vidimusref16_Text.mono _ _
      | exact LeO.none _
      | refine LeO.ite ?_ ?_
      | refine LeO.bind ?_ (fun _ => ?_)
theorem vidimuslaw16_LexTexts.mono : ∀ a0 a1 k, LeO (vidimuslaw16_LexTexts.f k a0 a1) (vidimuslaw16_LexTexts.f (k + 1) a0 a1) := by
  intro a0 a1 k
  obtain ⟨ih0, ih1⟩ := vidimuslaw16_LexTexts.mono_l k
  unfold vidimuslaw16_LexTexts.f
  repeat' first
      | (with_reducible exact ih0 _ _ _)
      | (with_reducible exact ih1 _ _ _ _ _)
      | (with_reducible exact lex_Text.mono _ _)
      | (with_reducible exact vidimuslaw16_awake.mono _)
      | (with_reducible exact vidimusref16_Same.mono _ _ _)
      | (with_reducible exact vidimusref16_Text.mono _ _)
      | (with_reducible exact LeO.refl _)
      | (with_reducible exact LeO.none _)
      | (with_reducible refine LeO.ite ?_ ?_)
      | (with_reducible refine LeO.bind ?_ (fun _ => ?_))
      | exact ih0 _ _ _
      | exact ih1 _ _ _ _ _
      | exact lex_Text.mono _ _
      | exact vidimuslaw16_awake.mono _
      | exact vidimusref16_Same.mono _ _ _
      | exact vidimusref16_Text.mono _ _
      | exact LeO.none _
      | refine LeO.ite ?_ ?_
      | refine LeO.bind ?_ (fun _ => ?_)

/-! ### vidimuslaw16_remark: function 21 -/
def vidimuslaw16_remark.l0 : Nat → ByteArray → Int → Option (Bool)
  | 0, _, _ => none
  | k + 1, x0, x3 => if x3 < (x0.size : Int) then (if 0 ≤ x3 then (if (bt x0 x3) = 45 then (if 0 ≤ (wrap64 (x3 - 1)) then (if (wrap64 (x3 - 1)) < (x0.size : Int) then (if (bt x0 (wrap64 (x3 - 1))) = 45 then (some true) else (vidimuslaw16_remark.l0 k x0 (wrap64 (x3 + 1)))) else (none)) else (none)) else (vidimuslaw16_remark.l0 k x0 (wrap64 (x3 + 1)))) else (none)) else (some false)
def vidimuslaw16_remark.f (k : Nat) (a0 : ByteArray) : Option (Bool) := vidimuslaw16_remark.l0 k a0 1
theorem vidimuslaw16_remark.mono_l : ∀ k, (∀ y0 y1, LeO (vidimuslaw16_remark.l0 k y0 y1) (vidimuslaw16_remark.l0 (k + 1) y0 y1))
  | 0 => fun _ _ r h => by simp [vidimuslaw16_remark.l0] at h
  | k + 1 => by
    have ih0 := vidimuslaw16_remark.mono_l k
    · intro y0 y1
      unfold vidimuslaw16_remark.l0
      repeat' first
      | (with_reducible exact ih0 _ _)
      | (with_reducible exact LeO.refl _)
      | (with_reducible exact LeO.none _)
      | (with_reducible refine LeO.ite ?_ ?_)
      | (with_reducible refine LeO.bind ?_ (fun _ => ?_))
      | exact ih0 _ _
      | exact LeO.none _
      | refine LeO.ite ?_ ?_
      | refine LeO.bind ?_ (fun _ => ?_)
theorem vidimuslaw16_remark.mono : ∀ a0 k, LeO (vidimuslaw16_remark.f k a0) (vidimuslaw16_remark.f (k + 1) a0) := by
  intro a0 k
  have ih0 := vidimuslaw16_remark.mono_l k
  unfold vidimuslaw16_remark.f
  repeat' first
      | (with_reducible exact ih0 _ _)
      | (with_reducible exact LeO.refl _)
      | (with_reducible exact LeO.none _)
      | (with_reducible refine LeO.ite ?_ ?_)
      | (with_reducible refine LeO.bind ?_ (fun _ => ?_))
      | exact ih0 _ _
      | exact LeO.none _
      | refine LeO.ite ?_ ?_
      | refine LeO.bind ?_ (fun _ => ?_)

/-! ### vidimuslaw16_LexBlanks: function 5 -/
mutual
def vidimuslaw16_LexBlanks.j0 : Nat → List ByteArray → List Int → Bool → Option (Bool)
  | 0, _, _, _ => none
  | k + 1, x0, x1, x27 => if x27 = true then (some true) else (vidimuslaw16_LexBlanks.l0 k x0 x1 (⟨#[]⟩ : ByteArray) (⟨#[]⟩ : ByteArray) x0 (x0.length : Int) 0)
def vidimuslaw16_LexBlanks.l0 : Nat → List ByteArray → List Int → ByteArray → ByteArray → List ByteArray → Int → Int → Option (Bool)
  | 0, _, _, _, _, _, _, _ => none
  | k + 1, x0, x1, x5, x6, x28, x29, x30 => if x30 < x29 then (if 0 ≤ x30 then (if x30 < (x28.length : Int) then (if ((rdOf ByteArray.empty x28 x30).size : Int) > 40 then (some true) else ((lex_Tokens.f (rdOf ByteArray.empty x28 x30)).bind fun bt193 => ((vidimusref16_Tokens.f (rdOf ByteArray.empty x28 x30)).bind fun bt197 => (if bt193.2 = 0 then (if (bt193.1.length : Int) = 2 then ((vidimuslaw16_remark.f k (rdOf ByteArray.empty x28 x30)).bind fun t201 => (if t201 = true then (vidimuslaw16_LexBlanks.j2 k x0 x1 x5 x6 x30 (rdOf ByteArray.empty x28 x30) x28 x29 x30 true) else (vidimuslaw16_LexBlanks.j2 k x0 x1 x5 x6 x30 (rdOf ByteArray.empty x28 x30) x28 x29 x30 ((bt197.1.length : Int) != 2)))) else (vidimuslaw16_LexBlanks.j2 k x0 x1 x5 x6 x30 (rdOf ByteArray.empty x28 x30) x28 x29 x30 true)) else (vidimuslaw16_LexBlanks.j2 k x0 x1 x5 x6 x30 (rdOf ByteArray.empty x28 x30) x28 x29 x30 true))))) else (none)) else (none)) else ((lex_Tokens.f x5).bind fun bt183 => ((lex_Tokens.f x6).bind fun bt187 => (if bt183.2 = 0 then (if bt187.2 = 0 then (if (bt183.1.length : Int) = (wrap64 ((x0.length : Int) + 1)) then ((vidimusref16_Same.f k bt183.1 bt187.1).bind fun t191 => (some t191)) else (some false)) else (some false)) else (some false))))
def vidimuslaw16_LexBlanks.j2 : Nat → List ByteArray → List Int → ByteArray → ByteArray → Int → ByteArray → List ByteArray → Int → Int → Bool → Option (Bool)
  | 0, _, _, _, _, _, _, _, _, _, _ => none
  | k + 1, x0, x1, x5, x6, x7, x8, x28, x29, x30, x63 => if x63 = true then (some true) else (if x7 < (x1.length : Int) then (if 0 ≤ x7 then (if (Int.tmod (rd x1 x7) 4) = 1 then (if x8.size + 1 ≤ 9223372036854775807 then (if x5.size + (x8 ++ (⟨#[32]⟩ : ByteArray)).size ≤ 9223372036854775807 then (if x8.size + 5 ≤ 9223372036854775807 then (if x6.size + (x8 ++ (⟨#[9, 10, 13, 32, 32]⟩ : ByteArray)).size ≤ 9223372036854775807 then (vidimuslaw16_LexBlanks.l0 k x0 x1 (x5 ++ (x8 ++ (⟨#[32]⟩ : ByteArray))) (x6 ++ (x8 ++ (⟨#[9, 10, 13, 32, 32]⟩ : ByteArray))) x28 x29 (wrap64 (x30 + 1))) else (none)) else (none)) else (none)) else (none)) else (if (Int.tmod (rd x1 x7) 4) = 2 then (if x8.size + 1 ≤ 9223372036854775807 then (if x5.size + (x8 ++ (⟨#[32]⟩ : ByteArray)).size ≤ 9223372036854775807 then (if x8.size + 19 ≤ 9223372036854775807 then (if x6.size + (x8 ++ (⟨#[32, 45, 45, 105, 116, 39, 115, 32, 97, 32, 114, 101, 109, 97, 114, 107, 32, 40, 10]⟩ : ByteArray)).size ≤ 9223372036854775807 then (vidimuslaw16_LexBlanks.l0 k x0 x1 (x5 ++ (x8 ++ (⟨#[32]⟩ : ByteArray))) (x6 ++ (x8 ++ (⟨#[32, 45, 45, 105, 116, 39, 115, 32, 97, 32, 114, 101, 109, 97, 114, 107, 32, 40, 10]⟩ : ByteArray))) x28 x29 (wrap64 (x30 + 1))) else (none)) else (none)) else (none)) else (none)) else (if (Int.tmod (rd x1 x7) 4) = 3 then (if x8.size + 1 ≤ 9223372036854775807 then (if x5.size + (x8 ++ (⟨#[32]⟩ : ByteArray)).size ≤ 9223372036854775807 then (if x8.size + 8 ≤ 9223372036854775807 then (if x6.size + (x8 ++ (⟨#[10, 45, 45, 10, 45, 45, 120, 10]⟩ : ByteArray)).size ≤ 9223372036854775807 then (vidimuslaw16_LexBlanks.l0 k x0 x1 (x5 ++ (x8 ++ (⟨#[32]⟩ : ByteArray))) (x6 ++ (x8 ++ (⟨#[10, 45, 45, 10, 45, 45, 120, 10]⟩ : ByteArray))) x28 x29 (wrap64 (x30 + 1))) else (none)) else (none)) else (none)) else (none)) else (if x8.size + 1 ≤ 9223372036854775807 then (if x5.size + (x8 ++ (⟨#[32]⟩ : ByteArray)).size ≤ 9223372036854775807 then (if x6.size + (x8 ++ (⟨#[32]⟩ : ByteArray)).size ≤ 9223372036854775807 then (vidimuslaw16_LexBlanks.l0 k x0 x1 (x5 ++ (x8 ++ (⟨#[32]⟩ : ByteArray))) (x6 ++ (x8 ++ (⟨#[32]⟩ : ByteArray))) x28 x29 (wrap64 (x30 + 1))) else (none)) else (none)) else (none))))) else (none)) else (if x8.size + 1 ≤ 9223372036854775807 then (if x5.size + (x8 ++ (⟨#[32]⟩ : ByteArray)).size ≤ 9223372036854775807 then (if x6.size + (x8 ++ (⟨#[32]⟩ : ByteArray)).size ≤ 9223372036854775807 then (vidimuslaw16_LexBlanks.l0 k x0 x1 (x5 ++ (x8 ++ (⟨#[32]⟩ : ByteArray))) (x6 ++ (x8 ++ (⟨#[32]⟩ : ByteArray))) x28 x29 (wrap64 (x30 + 1))) else (none)) else (none)) else (none)))
end
def vidimuslaw16_LexBlanks.f (k : Nat) (l0 : List ByteArray) (l1 : List Int) : Option (Bool) := (vidimuslaw16_awake.f k).bind fun t182 => (if t182 = true then (if (l0.length : Int) > 20 then (vidimuslaw16_LexBlanks.j0 k l0 l1 true) else (vidimuslaw16_LexBlanks.j0 k l0 l1 (decide ((l1.length : Int) > 20)))) else (some false))
theorem vidimuslaw16_LexBlanks.mono_l : ∀ k, (∀ y0 y1 y2, LeO (vidimuslaw16_LexBlanks.j0 k y0 y1 y2) (vidimuslaw16_LexBlanks.j0 (k + 1) y0 y1 y2)) ∧ (∀ y0 y1 y2 y3 y4 y5 y6, LeO (vidimuslaw16_LexBlanks.l0 k y0 y1 y2 y3 y4 y5 y6) (vidimuslaw16_LexBlanks.l0 (k + 1) y0 y1 y2 y3 y4 y5 y6)) ∧ (∀ y0 y1 y2 y3 y4 y5 y6 y7 y8 y9, LeO (vidimuslaw16_LexBlanks.j2 k y0 y1 y2 y3 y4 y5 y6 y7 y8 y9) (vidimuslaw16_LexBlanks.j2 (k + 1) y0 y1 y2 y3 y4 y5 y6 y7 y8 y9))
  | 0 => ⟨fun _ _ _ r h => by simp [vidimuslaw16_LexBlanks.j0] at h, fun _ _ _ _ _ _ _ r h => by simp [vidimuslaw16_LexBlanks.l0] at h, fun _ _ _ _ _ _ _ _ _ _ r h => by simp [vidimuslaw16_LexBlanks.j2] at h⟩
  | k + 1 => by
    obtain ⟨ih0, ih1, ih2⟩ := vidimuslaw16_LexBlanks.mono_l k
    refine ⟨?_, ?_, ?_⟩
    · intro y0 y1 y2
      unfold vidimuslaw16_LexBlanks.j0
      repeat' first
      | (with_reducible exact ih0 _ _ _)
      | (with_reducible exact ih1 _ _ _ _ _ _ _)
      | (with_reducible exact ih2 _ _ _ _ _ _ _ _ _ _)
      | (with_reducible exact vidimuslaw16_awake.mono _)
      | (with_reducible exact vidimuslaw16_remark.mono _ _)
      | (with_reducible exact vidimusref16_Same.mono _ _ _)
      | (with_reducible exact LeO.refl _)
      | (with_reducible exact LeO.none _)
      | (with_reducible refine LeO.ite ?_ ?_)
      | (with_reducible refine LeO.bind ?_ (fun _ => ?_))
      | exact ih0 _ _ _
      | exact ih1 _ _ _ _ _ _ _
      | exact ih2 _ _ _ _ _ _ _ _ _ _
      | exact vidimuslaw16_awake.mono _
      | exact vidimuslaw16_remark.mono _ _
      | exact vidimusref16_Same.mono _ _ _
      | exact LeO.none _
      | refine LeO.ite ?_ ?_
      | refine LeO.bind ?_ (fun _ => ?_)
    · intro y0 y1 y2 y3 y4 y5 y6
      unfold vidimuslaw16_LexBlanks.l0
      repeat' first
      | (with_reducible exact ih0 _ _ _)
      | (with_reducible exact ih1 _ _ _ _ _ _ _)
      | (with_reducible exact ih2 _ _ _ _ _ _ _ _ _ _)
      | (with_reducible exact vidimuslaw16_awake.mono _)
      | (with_reducible exact vidimuslaw16_remark.mono _ _)
      | (with_reducible exact vidimusref16_Same.mono _ _ _)
      | (with_reducible exact LeO.refl _)
      | (with_reducible exact LeO.none _)
      | (with_reducible refine LeO.ite ?_ ?_)
      | (with_reducible refine LeO.bind ?_ (fun _ => ?_))
      | exact ih0 _ _ _
      | exact ih1 _ _ _ _ _ _ _
      | exact ih2 _ _ _ _ _ _ _ _ _ _
      | exact vidimuslaw16_awake.mono _
      | exact vidimuslaw16_remark.mono _ _
      | exact vidimusref16_Same.mono _ _ _
      | exact LeO.none _
      | refine LeO.ite ?_ ?_
      | refine LeO.bind ?_ (fun _ => ?_)
    · intro y0 y1 y2 y3 y4 y5 y6 y7 y8 y9
      unfold vidimuslaw16_LexBlanks.j2
      repeat' first
      | (with_reducible exact ih0 _ _ _)
      | (with_reducible exact ih1 _ _ _ _ _ _ _)
      | (with_reducible exact ih2 _ _ _ _ _ _ _ _ _ _)
      | (with_reducible exact vidimuslaw16_awake.mono _)
      | (with_reducible exact vidimuslaw16_remark.mono _ _)
      | (with_reducible exact vidimusref16_Same.mono _ _ _)
      | (with_reducible exact LeO.refl _)
      | (with_reducible exact LeO.none _)
      | (with_reducible refine LeO.ite ?_ ?_)
      | (with_reducible refine LeO.bind ?_ (fun _ => ?_))
      | exact ih0 _ _ _
      | exact ih1 _ _ _ _ _ _ _
      | exact ih2 _ _ _ _ _ _ _ _ _ _
      | exact vidimuslaw16_awake.mono _
      | exact vidimuslaw16_remark.mono _ _
      | exact vidimusref16_Same.mono _ _ _
      | exact LeO.none _
      | refine LeO.ite ?_ ?_
      | refine LeO.bind ?_ (fun _ => ?_)
theorem vidimuslaw16_LexBlanks.mono : ∀ a0 a1 k, LeO (vidimuslaw16_LexBlanks.f k a0 a1) (vidimuslaw16_LexBlanks.f (k + 1) a0 a1) := by
  intro a0 a1 k
  obtain ⟨ih0, ih1, ih2⟩ := vidimuslaw16_LexBlanks.mono_l k
  unfold vidimuslaw16_LexBlanks.f
  repeat' first
      | (with_reducible exact ih0 _ _ _)
      | (with_reducible exact ih1 _ _ _ _ _ _ _)
      | (with_reducible exact ih2 _ _ _ _ _ _ _ _ _ _)
      | (with_reducible exact vidimuslaw16_awake.mono _)
      | (with_reducible exact vidimuslaw16_remark.mono _ _)
      | (with_reducible exact vidimusref16_Same.mono _ _ _)
      | (with_reducible exact LeO.refl _)
      | (with_reducible exact LeO.none _)
      | (with_reducible refine LeO.ite ?_ ?_)
      | (with_reducible refine LeO.bind ?_ (fun _ => ?_))
      | exact ih0 _ _ _
      | exact ih1 _ _ _ _ _ _ _
      | exact ih2 _ _ _ _ _ _ _ _ _ _
      | exact vidimuslaw16_awake.mono _
      | exact vidimuslaw16_remark.mono _ _
      | exact vidimusref16_Same.mono _ _ _
      | exact LeO.none _
      | refine LeO.ite ?_ ?_
      | refine LeO.bind ?_ (fun _ => ?_)

/-! ### vidimuslaw16_odd: function 39 -/
def vidimuslaw16_odd.l0 : Nat → ByteArray → Int → Int → Option (Bool)
  | 0, _, _, _ => none
  | k + 1, x0, x5, x6 => if x6 < x5 then (if 0 ≤ x6 then (if x6 < (x0.size : Int) then (if (bt x0 x6) = 39 then (some true) else (vidimuslaw16_odd.l0 k x0 x5 (wrap64 (x6 + 1)))) else (none)) else (none)) else (some false)
def vidimuslaw16_odd.f (k : Nat) (a0 : ByteArray) : Option (Bool) := vidimuslaw16_odd.l0 k a0 (a0.size : Int) 0
theorem vidimuslaw16_odd.mono_l : ∀ k, (∀ y0 y1 y2, LeO (vidimuslaw16_odd.l0 k y0 y1 y2) (vidimuslaw16_odd.l0 (k + 1) y0 y1 y2))
  | 0 => fun _ _ _ r h => by simp [vidimuslaw16_odd.l0] at h
  | k + 1 => by
    have ih0 := vidimuslaw16_odd.mono_l k
    · intro y0 y1 y2
      unfold vidimuslaw16_odd.l0
      repeat' first
      | (with_reducible exact ih0 _ _ _)
      | (with_reducible exact LeO.refl _)
      | (with_reducible exact LeO.none _)
      | (with_reducible refine LeO.ite ?_ ?_)
      | (with_reducible refine LeO.bind ?_ (fun _ => ?_))
      | exact ih0 _ _ _
      | exact LeO.none _
      | refine LeO.ite ?_ ?_
      | refine LeO.bind ?_ (fun _ => ?_)
theorem vidimuslaw16_odd.mono : ∀ a0 k, LeO (vidimuslaw16_odd.f k a0) (vidimuslaw16_odd.f (k + 1) a0) := by
  intro a0 k
  have ih0 := vidimuslaw16_odd.mono_l k
  unfold vidimuslaw16_odd.f
  repeat' first
      | (with_reducible exact ih0 _ _ _)
      | (with_reducible exact LeO.refl _)
      | (with_reducible exact LeO.none _)
      | (with_reducible refine LeO.ite ?_ ?_)
      | (with_reducible refine LeO.bind ?_ (fun _ => ?_))
      | exact ih0 _ _ _
      | exact LeO.none _
      | refine LeO.ite ?_ ?_
      | refine LeO.bind ?_ (fun _ => ?_)

/-! ### vidimuslaw16_LexJoins: function 8 -/
mutual
def vidimuslaw16_LexJoins.j0 : Nat → ByteArray → ByteArray → Bool → Option (Bool)
  | 0, _, _, _ => none
  | k + 1, x0, x1, x20 => if x20 = true then (some true) else ((lex_Tokens.f x0).bind fun bt204 => ((lex_Tokens.f x1).bind fun bt208 => (if x0.size + 1 ≤ 9223372036854775807 then (if (x0 ++ (⟨#[10]⟩ : ByteArray)).size + x1.size ≤ 9223372036854775807 then ((lex_Tokens.f ((x0 ++ (⟨#[10]⟩ : ByteArray)) ++ x1)).bind fun bt212 => (if bt204.2 = 20 then ((vidimuslaw16_odd.f k x0).bind fun t216 => (vidimuslaw16_LexJoins.j1 k bt204.1 bt204.2 bt208.1 bt208.2 bt212.1 bt212.2 t216)) else (vidimuslaw16_LexJoins.j1 k bt204.1 bt204.2 bt208.1 bt208.2 bt212.1 bt212.2 false))) else (none)) else (none))))
def vidimuslaw16_LexJoins.j1 : Nat → List (S32) → Int → List (S32) → Int → List (S32) → Int → Bool → Option (Bool)
  | 0, _, _, _, _, _, _, _ => none
  | k + 1, x5, x6, x7, x8, x9, x10, x39 => if x39 = true then (some true) else (if x6 = 0 then (if x8 = 0 then (if x10 = 0 then ((some (([] : List (S32)) : List (S32))).bind fun y217 => (if 0 ≤ (wrap64 ((x5.length : Int) - 1)) then (if (wrap64 ((x5.length : Int) - 1)) ≤ (x5.length : Int) then ((some (x5.take ((wrap64 ((x5.length : Int) - 1)) : Int).toNat : List (S32))).bind fun y220 => (if y217.length + y220.length < 4398046511104 then ((some (y217 ++ y220 : List (S32))).bind fun y224 => (if y224.length + x7.length < 4398046511104 then ((vidimusref16_Same.f k x9 (y224 ++ x7)).bind fun t230 => (some t230)) else (none))) else (none))) else (none)) else (none))) else (some false)) else (some (x10 == x8))) else (some (x10 == x6)))
end
def vidimuslaw16_LexJoins.f (k : Nat) (a0 : ByteArray) (a1 : ByteArray) : Option (Bool) := (vidimuslaw16_awake.f k).bind fun t203 => (if t203 = true then (if (a0.size : Int) > 500 then (vidimuslaw16_LexJoins.j0 k a0 a1 true) else (vidimuslaw16_LexJoins.j0 k a0 a1 (decide ((a1.size : Int) > 500)))) else (some false))
theorem vidimuslaw16_LexJoins.mono_l : ∀ k, (∀ y0 y1 y2, LeO (vidimuslaw16_LexJoins.j0 k y0 y1 y2) (vidimuslaw16_LexJoins.j0 (k + 1) y0 y1 y2)) ∧ (∀ y0 y1 y2 y3 y4 y5 y6, LeO (vidimuslaw16_LexJoins.j1 k y0 y1 y2 y3 y4 y5 y6) (vidimuslaw16_LexJoins.j1 (k + 1) y0 y1 y2 y3 y4 y5 y6))
  | 0 => ⟨fun _ _ _ r h => by simp [vidimuslaw16_LexJoins.j0] at h, fun _ _ _ _ _ _ _ r h => by simp [vidimuslaw16_LexJoins.j1] at h⟩
  | k + 1 => by
    obtain ⟨ih0, ih1⟩ := vidimuslaw16_LexJoins.mono_l k
    refine ⟨?_, ?_⟩
    · intro y0 y1 y2
      unfold vidimuslaw16_LexJoins.j0
      repeat' first
      | (with_reducible exact ih0 _ _ _)
      | (with_reducible exact ih1 _ _ _ _ _ _ _)
      | (with_reducible exact vidimuslaw16_awake.mono _)
      | (with_reducible exact vidimuslaw16_odd.mono _ _)
      | (with_reducible exact vidimusref16_Same.mono _ _ _)
      | (with_reducible exact LeO.refl _)
      | (with_reducible exact LeO.none _)
      | (with_reducible refine LeO.ite ?_ ?_)
      | (with_reducible refine LeO.bind ?_ (fun _ => ?_))
      | exact ih0 _ _ _
      | exact ih1 _ _ _ _ _ _ _
      | exact vidimuslaw16_awake.mono _
      | exact vidimuslaw16_odd.mono _ _
      | exact vidimusref16_Same.mono _ _ _
      | exact LeO.none _
      | refine LeO.ite ?_ ?_
      | refine LeO.bind ?_ (fun _ => ?_)
    · intro y0 y1 y2 y3 y4 y5 y6
      unfold vidimuslaw16_LexJoins.j1
      repeat' first
      | (with_reducible exact ih0 _ _ _)
      | (with_reducible exact ih1 _ _ _ _ _ _ _)
      | (with_reducible exact vidimuslaw16_awake.mono _)
      | (with_reducible exact vidimuslaw16_odd.mono _ _)
      | (with_reducible exact vidimusref16_Same.mono _ _ _)
      | (with_reducible exact LeO.refl _)
      | (with_reducible exact LeO.none _)
      | (with_reducible refine LeO.ite ?_ ?_)
      | (with_reducible refine LeO.bind ?_ (fun _ => ?_))
      | exact ih0 _ _ _
      | exact ih1 _ _ _ _ _ _ _
      | exact vidimuslaw16_awake.mono _
      | exact vidimuslaw16_odd.mono _ _
      | exact vidimusref16_Same.mono _ _ _
      | exact LeO.none _
      | refine LeO.ite ?_ ?_
      | refine LeO.bind ?_ (fun _ => ?_)
theorem vidimuslaw16_LexJoins.mono : ∀ a0 a1 k, LeO (vidimuslaw16_LexJoins.f k a0 a1) (vidimuslaw16_LexJoins.f (k + 1) a0 a1) := by
  intro a0 a1 k
  obtain ⟨ih0, ih1⟩ := vidimuslaw16_LexJoins.mono_l k
  unfold vidimuslaw16_LexJoins.f
  repeat' first
      | (with_reducible exact ih0 _ _ _)
      | (with_reducible exact ih1 _ _ _ _ _ _ _)
      | (with_reducible exact vidimuslaw16_awake.mono _)
      | (with_reducible exact vidimuslaw16_odd.mono _ _)
      | (with_reducible exact vidimusref16_Same.mono _ _ _)
      | (with_reducible exact LeO.refl _)
      | (with_reducible exact LeO.none _)
      | (with_reducible refine LeO.ite ?_ ?_)
      | (with_reducible refine LeO.bind ?_ (fun _ => ?_))
      | exact ih0 _ _ _
      | exact ih1 _ _ _ _ _ _ _
      | exact vidimuslaw16_awake.mono _
      | exact vidimuslaw16_odd.mono _ _
      | exact vidimusref16_Same.mono _ _ _
      | exact LeO.none _
      | refine LeO.ite ?_ ?_
      | refine LeO.bind ?_ (fun _ => ?_)

end Go.Proofs.YtcgdncpioafbdaaGreatDoor.Q

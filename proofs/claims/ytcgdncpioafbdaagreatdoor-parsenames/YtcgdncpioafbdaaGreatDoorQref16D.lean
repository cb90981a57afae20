-- Written by a program of this seat (wip/pr.py, by way of the kit's print) out of the translation; Lean checks it.
import Derived.Test.YtcgdncpioafbdaaGreatDoorQ0
import Derived.Test.YtcgdncpioafbdaaGreatDoorQeq0
namespace Go.Proofs.YtcgdncpioafbdaaGreatDoor.Q
open Go.RowKit Go.Proofs.YtcgdncpioafbdaaGreatDoorW.PrintWords Go.Proofs.YtcgdncpioafbdaaGreatDoorW.PrintLast Go.Proofs.YtcgdncpioafbdaaGreatDoorW.PrintMore
attribute [local go_sem] max2_int min2_int max_two min_two max_three min_three max_four min_four   -- for this text's walks alone
set_option linter.unusedVariables false
set_option linter.unusedSimpArgs false

attribute [local go_sem high] eqA32
/-! ### vidimusref16_Same: function 18 -/
def vidimusref16_Same.l0 : Nat → List (S32) → List (S32) → Int → Option (Bool)
  | 0, _, _, _ => none
  | k + 1, x0, x1, x5 => if x5 < (x0.length : Int) then (if 0 ≤ x5 then (if x5 < (x1.length : Int) then (if (!(((rd_T32 x0 x5).f0) == ((rd_T32 x1 x5).f0)) || (!((((rd_T32 x0 x5).f1).toList) == (((rd_T32 x1 x5).f1).toList)) || (!(((rd_T32 x0 x5).f2) == ((rd_T32 x1 x5).f2))))) = true then (some false) else (vidimusref16_Same.l0 k x0 x1 (wrap64 (x5 + 1)))) else (none)) else (none)) else (some true)
def vidimusref16_Same.f (k : Nat) (l0 : List (S32)) (l1 : List (S32)) : Option (Bool) := if (l0.length : Int) = (l1.length : Int) then (vidimusref16_Same.l0 k l0 l1 0) else (some false)
theorem vidimusref16_Same.mono_l : ∀ k, (∀ y0 y1 y2, LeO (vidimusref16_Same.l0 k y0 y1 y2) (vidimusref16_Same.l0 (k + 1) y0 y1 y2))
  | 0 => fun _ _ _ r h => by simp [vidimusref16_Same.l0] at h
  | k + 1 => by
    have ih0 := vidimusref16_Same.mono_l k
    · intro y0 y1 y2
      unfold vidimusref16_Same.l0
      repeat' first
      | (with_reducible exact ih0 _ _ _)
      | (with_reducible exact LeO.refl _)
      | (with_reducible exact LeO.none _)
      | (with_reducible refine LeO.ite ?_ ?_)
      | (with_reducible refine LeO.bind ?_ (fun _ => ?_))
      | exact ih0 _ _ _
      | exact LeO.none _
      | refine LeO.ite ?_ ?_
      | refine LeO.bind ?_ (fun _ => ?_)
theorem vidimusref16_Same.mono : ∀ a0 a1 k, LeO (vidimusref16_Same.f k a0 a1) (vidimusref16_Same.f (k + 1) a0 a1) := by
  intro a0 a1 k
  have ih0 := vidimusref16_Same.mono_l k
  unfold vidimusref16_Same.f
  repeat' first
      | (with_reducible exact ih0 _ _ _)
      | (with_reducible exact LeO.refl _)
      | (with_reducible exact LeO.none _)
      | (with_reducible refine LeO.ite ?_ ?_)
      | (with_reducible refine LeO.bind ?_ (fun _ => ?_))
      | exact ih0 _ _ _
      | exact LeO.none _
      | refine LeO.ite ?_ ?_
      | refine LeO.bind ?_ (fun _ => ?_)

/-! ### vidimusref16_Digits: function 67 -/
def vidimusref16_Digits.f : Nat → Int → Option (ByteArray)
  | 0, _ => none
  | k + 1, a0 => if a0 < 10 then (some (strOfNums (([(wrap64 (48 + a0)) % 256] : List Int)))) else ((vidimusref16_Digits.f k (wrap64 (Int.tdiv a0 10))).bind fun t156 => ((some (([(wrap64 (48 + (Int.tmod a0 10))) % 256] : List Int) : List Int)).bind fun y157 => (if t156.size + (strOfNums y157).size ≤ 9223372036854775807 then (some (t156 ++ (strOfNums y157))) else (none))))
theorem vidimusref16_Digits.mono_l : ∀ k, (∀ y0, LeO (vidimusref16_Digits.f k y0) (vidimusref16_Digits.f (k + 1) y0))
  | 0 => fun _ r h => by simp [vidimusref16_Digits.f] at h
  | k + 1 => by
    have ih0 := vidimusref16_Digits.mono_l k
    · intro y0
      unfold vidimusref16_Digits.f
      repeat' first
      | (with_reducible exact ih0 _)
      | (with_reducible exact LeO.refl _)
      | (with_reducible exact LeO.none _)
      | (with_reducible refine LeO.ite ?_ ?_)
      | (with_reducible refine LeO.bind ?_ (fun _ => ?_))
      | exact ih0 _
      | exact LeO.none _
      | refine LeO.ite ?_ ?_
      | refine LeO.bind ?_ (fun _ => ?_)
theorem vidimusref16_Digits.mono : ∀ a0 k, LeO (vidimusref16_Digits.f k a0) (vidimusref16_Digits.f (k + 1) a0) := by
  intro a0 k
  have ih0 := vidimusref16_Digits.mono_l k
  exact ih0 a0

/-! ### vidimusref16_Quoted: function 68 -/
def vidimusref16_Quoted.l0 : Nat → ByteArray → ByteArray → Int → Option (ByteArray)
  | 0, _, _, _ => none
  | k + 1, x0, x3, x4 => if x4 < (x0.size : Int) then (if 0 ≤ x4 then (if (bt x0 x4) = 39 then (if x3.size + 1 ≤ 9223372036854775807 then (if x4 ≤ (wrap64 (x4 + 1)) then (if (wrap64 (x4 + 1)) ≤ (x0.size : Int) then (if (x3 ++ (⟨#[39]⟩ : ByteArray)).size + (x0.extract (x4 : Int).toNat ((wrap64 (x4 + 1)) : Int).toNat).size ≤ 9223372036854775807 then (vidimusref16_Quoted.l0 k x0 ((x3 ++ (⟨#[39]⟩ : ByteArray)) ++ (x0.extract (x4 : Int).toNat ((wrap64 (x4 + 1)) : Int).toNat)) (wrap64 (x4 + 1))) else (none)) else (none)) else (none)) else (none)) else (if x4 ≤ (wrap64 (x4 + 1)) then (if (wrap64 (x4 + 1)) ≤ (x0.size : Int) then (if x3.size + (x0.extract (x4 : Int).toNat ((wrap64 (x4 + 1)) : Int).toNat).size ≤ 9223372036854775807 then (vidimusref16_Quoted.l0 k x0 (x3 ++ (x0.extract (x4 : Int).toNat ((wrap64 (x4 + 1)) : Int).toNat)) (wrap64 (x4 + 1))) else (none)) else (none)) else (none))) else (none)) else (if x3.size + 1 ≤ 9223372036854775807 then (some (x3 ++ (⟨#[39]⟩ : ByteArray))) else (none))
def vidimusref16_Quoted.f (k : Nat) (a0 : ByteArray) : Option (ByteArray) := vidimusref16_Quoted.l0 k a0 (⟨#[39]⟩ : ByteArray) 0
theorem vidimusref16_Quoted.mono_l : ∀ k, (∀ y0 y1 y2, LeO (vidimusref16_Quoted.l0 k y0 y1 y2) (vidimusref16_Quoted.l0 (k + 1) y0 y1 y2))
  | 0 => fun _ _ _ r h => by simp [vidimusref16_Quoted.l0] at h
  | k + 1 => by
    have ih0 := vidimusref16_Quoted.mono_l k
    · intro y0 y1 y2
      unfold vidimusref16_Quoted.l0
      repeat' first
      | (with_reducible exact ih0 _ _ _)
      | (with_reducible exact LeO.refl _)
      | (with_reducible exact LeO.none _)
      | (with_reducible refine LeO.ite ?_ ?_)
      | (with_reducible refine LeO.bind ?_ (fun _ => ?_))
      | exact ih0 _ _ _
      | exact LeO.none _
      | refine LeO.ite ?_ ?_
      | refine LeO.bind ?_ (fun _ => ?_)
theorem vidimusref16_Quoted.mono : ∀ a0 k, LeO (vidimusref16_Quoted.f k a0) (vidimusref16_Quoted.f (k + 1) a0) := by
  intro a0 k
  have ih0 := vidimusref16_Quoted.mono_l k
  unfold vidimusref16_Quoted.f
  repeat' first
      | (with_reducible exact ih0 _ _ _)
      | (with_reducible exact LeO.refl _)
      | (with_reducible exact LeO.none _)
      | (with_reducible refine LeO.ite ?_ ?_)
      | (with_reducible refine LeO.bind ?_ (fun _ => ?_))
      | exact ih0 _ _ _
      | exact LeO.none _
      | refine LeO.ite ?_ ?_
      | refine LeO.bind ?_ (fun _ => ?_)

/-! ### vidimusref16_Text: function 20 -/
mutual
def vidimusref16_Text.l0 : Nat → List (S32) → ByteArray → Int → Option (ByteArray)
  | 0, _, _, _ => none
  | k + 1, x0, x3, x4 => if x4 < (x0.length : Int) then (if 0 ≤ x4 then (vidimusref16_Text.j1 k x0 x3 x4 (((rd_T32 x0 x4).f0) != 0)) else (none)) else (vidimusref16_Text.j1 k x0 x3 x4 false)
def vidimusref16_Text.j1 : Nat → List (S32) → ByteArray → Int → Bool → Option (ByteArray)
  | 0, _, _, _, _ => none
  | k + 1, x0, x3, x4, x16 => if x16 = true then (if x4 > 0 then (if x3.size + 1 ≤ 9223372036854775807 then (vidimusref16_Text.j2 k x0 (x3 ++ (⟨#[32]⟩ : ByteArray)) x4) else (none)) else (vidimusref16_Text.j2 k x0 x3 x4)) else (some x3)
def vidimusref16_Text.j2 : Nat → List (S32) → ByteArray → Int → Option (ByteArray)
  | 0, _, _, _ => none
  | k + 1, x0, x3, x4 => if 0 ≤ x4 then (if x4 < (x0.length : Int) then (if ((rd_T32 x0 x4).f0) = 2 then ((vidimusref16_Digits.f k (mx ((rd_T32 x0 x4).f2) 0)).bind fun t163 => (if x3.size + t163.size ≤ 9223372036854775807 then (vidimusref16_Text.l0 k x0 (x3 ++ t163) (wrap64 (x4 + 1))) else (none))) else (if ((rd_T32 x0 x4).f0) = 3 then ((vidimusref16_Quoted.f k ((rd_T32 x0 x4).f1)).bind fun t165 => (if x3.size + t165.size ≤ 9223372036854775807 then (vidimusref16_Text.l0 k x0 (x3 ++ t165) (wrap64 (x4 + 1))) else (none))) else (if x3.size + ((rd_T32 x0 x4).f1).size ≤ 9223372036854775807 then (vidimusref16_Text.l0 k x0 (x3 ++ ((rd_T32 x0 x4).f1)) (wrap64 (x4 + 1))) else (none)))) else (none)) else (none)
end
def vidimusref16_Text.f (k : Nat) (l0 : List (S32)) : Option (ByteArray) := vidimusref16_Text.l0 k l0 (⟨#[]⟩ : ByteArray) 0
theorem vidimusref16_Text.mono_l : ∀ k, (∀ y0 y1 y2, LeO (vidimusref16_Text.l0 k y0 y1 y2) (vidimusref16_Text.l0 (k + 1) y0 y1 y2)) ∧ (∀ y0 y1 y2 y3, LeO (vidimusref16_Text.j1 k y0 y1 y2 y3) (vidimusref16_Text.j1 (k + 1) y0 y1 y2 y3)) ∧ (∀ y0 y1 y2, LeO (vidimusref16_Text.j2 k y0 y1 y2) (vidimusref16_Text.j2 (k + 1) y0 y1 y2))
  | 0 => ⟨fun _ _ _ r h => by simp [vidimusref16_Text.l0] at h, fun _ _ _ _ r h => by simp [vidimusref16_Text.j1] at h, fun _ _ _ r h => by simp [vidimusref16_Text.j2] at h⟩
  | k + 1 => by
    obtain ⟨ih0, ih1, ih2⟩ := vidimusref16_Text.mono_l k
    refine ⟨?_, ?_, ?_⟩
    · intro y0 y1 y2
      unfold vidimusref16_Text.l0
      repeat' first
      | (with_reducible exact ih0 _ _ _)
      | (with_reducible exact ih1 _ _ _ _)
      | (with_reducible exact ih2 _ _ _)
      | (with_reducible exact vidimusref16_Digits.mono _ _)
      | (with_reducible exact vidimusref16_Quoted.mono _ _)
      | (with_reducible exact LeO.refl _)
      | (with_reducible exact LeO.none _)
      | (with_reducible refine LeO.ite ?_ ?_)
      | (with_reducible refine LeO.bind ?_ (fun _ => ?_))
      | exact ih0 _ _ _
      | exact ih1 _ _ _ _
      | exact ih2 _ _ _
      | exact vidimusref16_Digits.mono _ _
      | exact vidimusref16_Quoted.mono _ _
      | exact LeO.none _
      | refine LeO.ite ?_ ?_
      | refine LeO.bind ?_ (fun _ => ?_)
    · intro y0 y1 y2 y3
      unfold vidimusref16_Text.j1
      repeat' first
      | (with_reducible exact ih0 _ _ _)
      | (with_reducible exact ih1 _ _ _ _)
      | (with_reducible exact ih2 _ _ _)
      | (with_reducible exact vidimusref16_Digits.mono _ _)
      | (with_reducible exact vidimusref16_Quoted.mono _ _)
      | (with_reducible exact LeO.refl _)
      | (with_reducible exact LeO.none _)
      | (with_reducible refine LeO.ite ?_ ?_)
      | (with_reducible refine LeO.bind ?_ (fun _ => ?_))
      | exact ih0 _ _ _
      | exact ih1 _ _ _ _
      | exact ih2 _ _ _
      | exact vidimusref16_Digits.mono _ _
      | exact vidimusref16_Quoted.mono _ _
      | exact LeO.none _
      | refine LeO.ite ?_ ?_
      | refine LeO.bind ?_ (fun _ => ?_)
    · intro y0 y1 y2
      unfold vidimusref16_Text.j2
      repeat' first
      | (with_reducible exact ih0 _ _ _)
      | (with_reducible exact ih1 _ _ _ _)
      | (with_reducible exact ih2 _ _ _)
      | (with_reducible exact vidimusref16_Digits.mono _ _)
      | (with_reducible exact vidimusref16_Quoted.mono _ _)
      | (with_reducible exact LeO.refl _)
      | (with_reducible exact LeO.none _)
      | (with_reducible refine LeO.ite ?_ ?_)
      | (with_reducible refine LeO.bind ?_ (fun _ => ?_))
      | exact ih0 _ _ _
      | exact ih1 _ _ _ _
      | exact ih2 _ _ _
      | exact vidimusref16_Digits.mono _ _
      | exact vidimusref16_Quoted.mono _ _
      | exact LeO.none _
      | refine LeO.ite ?_ ?_
      | refine LeO.bind ?_ (fun _ => ?_)
theorem vidimusref16_Text.mono : ∀ a0 k, LeO (vidimusref16_Text.f k a0) (vidimusref16_Text.f (k + 1) a0) := by
  intro a0 k
  obtain ⟨ih0, ih1, ih2⟩ := vidimusref16_Text.mono_l k
  unfold vidimusref16_Text.f
  repeat' first
      | (with_reducible exact ih0 _ _ _)
      | (with_reducible exact ih1 _ _ _ _)
      | (with_reducible exact ih2 _ _ _)
      | (with_reducible exact vidimusref16_Digits.mono _ _)
      | (with_reducible exact vidimusref16_Quoted.mono _ _)
      | (with_reducible exact LeO.refl _)
      | (with_reducible exact LeO.none _)
      | (with_reducible refine LeO.ite ?_ ?_)
      | (with_reducible refine LeO.bind ?_ (fun _ => ?_))
      | exact ih0 _ _ _
      | exact ih1 _ _ _ _
      | exact ih2 _ _ _
      | exact vidimusref16_Digits.mono _ _
      | exact vidimusref16_Quoted.mono _ _
      | exact LeO.none _
      | refine LeO.ite ?_ ?_
      | refine LeO.bind ?_ (fun _ => ?_)

end Go.Proofs.YtcgdncpioafbdaaGreatDoor.Q

-- Written by a program of this seat (wip/pr.py, by way of the kit's print) out of the translation; Lean checks it.
import Derived.Test.YtcgdncpioafbdaaGreatDoorP0
import Derived.Test.YtcgdncpioafbdaaGreatDoorQref16
import Derived.Test.YtcgdncpioafbdaaGreatDoorQref16D
namespace Go.Proofs.YtcgdncpioafbdaaGreatDoor.Q
open Go.RowKit Go.Proofs.YtcgdncpioafbdaaGreatDoorW.PrintWords Go.Proofs.YtcgdncpioafbdaaGreatDoorW.PrintLast Go.Proofs.YtcgdncpioafbdaaGreatDoorW.PrintMore
attribute [local go_sem] max2_int min2_int max_two min_two max_three min_three max_four min_four   -- for this text's walks alone
set_option linter.unusedVariables false
set_option linter.unusedSimpArgs false

/-! ### vidimusref17_Reserved: function 50 -/
def vidimusref17_Reserved.l0 : Nat → ByteArray → List ByteArray → Int → Int → Option (Bool)
  | 0, _, _, _, _ => none
  | k + 1, x0, x5, x6, x7 => if x7 < x6 then (if 0 ≤ x7 then (if x7 < (x5.length : Int) then (if (rdOf ByteArray.empty x5 x7).toList = x0.toList then (some true) else (vidimusref17_Reserved.l0 k x0 x5 x6 (wrap64 (x7 + 1)))) else (none)) else (none)) else (some false)
def vidimusref17_Reserved.f (k : Nat) (a0 : ByteArray) : Option (Bool) := (some (([(⟨#[99, 114, 101, 97, 116, 101]⟩ : ByteArray), (⟨#[116, 97, 98, 108, 101]⟩ : ByteArray), (⟨#[100, 114, 111, 112]⟩ : ByteArray), (⟨#[105, 110, 115, 101, 114, 116]⟩ : ByteArray), (⟨#[105, 110, 116, 111]⟩ : ByteArray), (⟨#[118, 97, 108, 117, 101, 115]⟩ : ByteArray), (⟨#[115, 101, 108, 101, 99, 116]⟩ : ByteArray), (⟨#[102, 114, 111, 109]⟩ : ByteArray), (⟨#[119, 104, 101, 114, 101]⟩ : ByteArray), (⟨#[111, 114, 100, 101, 114]⟩ : ByteArray), (⟨#[98, 121]⟩ : ByteArray), (⟨#[100, 101, 115, 99]⟩ : ByteArray), (⟨#[108, 105, 109, 105, 116]⟩ : ByteArray), (⟨#[117, 112, 100, 97, 116, 101]⟩ : ByteArray), (⟨#[115, 101, 116]⟩ : ByteArray), (⟨#[100, 101, 108, 101, 116, 101]⟩ : ByteArray), (⟨#[97, 110, 100]⟩ : ByteArray), (⟨#[111, 114]⟩ : ByteArray), (⟨#[110, 111, 116]⟩ : ByteArray), (⟨#[105, 115]⟩ : ByteArray), (⟨#[110, 117, 108, 108]⟩ : ByteArray), (⟨#[105, 110, 116]⟩ : ByteArray), (⟨#[116, 101, 120, 116]⟩ : ByteArray), (⟨#[100, 101, 116]⟩ : ByteArray), (⟨#[107, 101, 121]⟩ : ByteArray), (⟨#[99, 111, 117, 110, 116]⟩ : ByteArray), (⟨#[115, 117, 109]⟩ : ByteArray), (⟨#[109, 105, 110]⟩ : ByteArray), (⟨#[109, 97, 120]⟩ : ByteArray)] : List ByteArray) : List ByteArray)).bind fun y118 => (vidimusref17_Reserved.l0 k a0 y118 (y118.length : Int) 0)
theorem vidimusref17_Reserved.mono_l : ∀ k, (∀ y0 y1 y2 y3, LeO (vidimusref17_Reserved.l0 k y0 y1 y2 y3) (vidimusref17_Reserved.l0 (k + 1) y0 y1 y2 y3))
  | 0 => fun _ _ _ _ r h => by simp [vidimusref17_Reserved.l0] at h
  | k + 1 => by
    have ih0 := vidimusref17_Reserved.mono_l k
    · intro y0 y1 y2 y3
      unfold vidimusref17_Reserved.l0
      repeat' first
      | (with_reducible exact ih0 _ _ _ _)
      | (with_reducible exact LeO.refl _)
      | (with_reducible exact LeO.none _)
      | (with_reducible refine LeO.ite ?_ ?_)
      | (with_reducible refine LeO.bind ?_ (fun _ => ?_))
      | exact ih0 _ _ _ _
      | exact LeO.none _
      | refine LeO.ite ?_ ?_
      | refine LeO.bind ?_ (fun _ => ?_)
theorem vidimusref17_Reserved.mono : ∀ a0 k, LeO (vidimusref17_Reserved.f k a0) (vidimusref17_Reserved.f (k + 1) a0) := by
  intro a0 k
  have ih0 := vidimusref17_Reserved.mono_l k
  unfold vidimusref17_Reserved.f
  repeat' first
      | (with_reducible exact ih0 _ _ _ _)
      | (with_reducible exact LeO.refl _)
      | (with_reducible exact LeO.none _)
      | (with_reducible refine LeO.ite ?_ ?_)
      | (with_reducible refine LeO.bind ?_ (fun _ => ?_))
      | exact ih0 _ _ _ _
      | exact LeO.none _
      | refine LeO.ite ?_ ?_
      | refine LeO.bind ?_ (fun _ => ?_)

/-! ### vidimusref17_Depth: function 44 -/
mutual
def vidimusref17_Depth.l0 : Nat → Int → Int → ByteArray → Int → Int → ByteArray → ByteArray → List (S43) → Option (Int)
  | 0, _, _, _, _, _, _, _, _ => none
  | k + 1, x3, x4, x127000, x127001, x127002, x127003, x127004, x127005 => if x4 < (x127005.length : Int) then (if 0 ≤ x4 then ((vidimusref17_Depth.f k ((rd_T43 x127005 x4).f0) ((rd_T43 x127005 x4).f1.f0) ((rd_T43 x127005 x4).f1.f1) ((rd_T43 x127005 x4).f1.f2) ((rd_T43 x127005 x4).f2) ((rd_T43 x127005 x4).f3)).bind fun t128 => (vidimusref17_Depth.l0 k (mx x3 t128) (wrap64 (x4 + 1)) x127000 x127001 x127002 x127003 x127004 x127005)) else (none)) else (some (wrap64 (x3 + 1)))
def vidimusref17_Depth.f : Nat → ByteArray → Int → Int → ByteArray → ByteArray → List (S43) → Option (Int)
  | 0, _, _, _, _, _, _ => none
  | k + 1, a0_0, a0_1, a0_2, a0_3, a0_4, l0_5 => vidimusref17_Depth.l0 k 0 0 a0_0 a0_1 a0_2 a0_3 a0_4 l0_5
end
theorem vidimusref17_Depth.mono_l : ∀ k, (∀ y0 y1 y2 y3 y4 y5, LeO (vidimusref17_Depth.f k y0 y1 y2 y3 y4 y5) (vidimusref17_Depth.f (k + 1) y0 y1 y2 y3 y4 y5)) ∧ (∀ y0 y1 y2 y3 y4 y5 y6 y7, LeO (vidimusref17_Depth.l0 k y0 y1 y2 y3 y4 y5 y6 y7) (vidimusref17_Depth.l0 (k + 1) y0 y1 y2 y3 y4 y5 y6 y7))
  | 0 => ⟨fun _ _ _ _ _ _ r h => by simp [vidimusref17_Depth.f] at h, fun _ _ _ _ _ _ _ _ r h => by simp [vidimusref17_Depth.l0] at h⟩
  | k + 1 => by
    obtain ⟨ih0, ih1⟩ := vidimusref17_Depth.mono_l k
    refine ⟨?_, ?_⟩
    · intro y0 y1 y2 y3 y4 y5
      unfold vidimusref17_Depth.f
      repeat' first
      | (with_reducible exact ih0 _ _ _ _ _ _)
      | (with_reducible exact ih1 _ _ _ _ _ _ _ _)
      | (with_reducible exact LeO.refl _)
      | (with_reducible exact LeO.none _)
      | (with_reducible refine LeO.ite ?_ ?_)
      | (with_reducible refine LeO.bind ?_ (fun _ => ?_))
      | exact ih0 _ _ _ _ _ _
      | exact ih1 _ _ _ _ _ _ _ _
      | exact LeO.none _
      | refine LeO.ite ?_ ?_
      | refine LeO.bind ?_ (fun _ => ?_)
    · intro y0 y1 y2 y3 y4 y5 y6 y7
      unfold vidimusref17_Depth.l0
      repeat' first
      | (with_reducible exact ih0 _ _ _ _ _ _)
      | (with_reducible exact ih1 _ _ _ _ _ _ _ _)
      | (with_reducible exact LeO.refl _)
      | (with_reducible exact LeO.none _)
      | (with_reducible refine LeO.ite ?_ ?_)
      | (with_reducible refine LeO.bind ?_ (fun _ => ?_))
      | exact ih0 _ _ _ _ _ _
      | exact ih1 _ _ _ _ _ _ _ _
      | exact LeO.none _
      | refine LeO.ite ?_ ?_
      | refine LeO.bind ?_ (fun _ => ?_)
theorem vidimusref17_Depth.mono : ∀ a0 a1 a2 a3 a4 a5 k, LeO (vidimusref17_Depth.f k a0 a1 a2 a3 a4 a5) (vidimusref17_Depth.f (k + 1) a0 a1 a2 a3 a4 a5) := by
  intro a0 a1 a2 a3 a4 a5 k
  obtain ⟨ih0, ih1⟩ := vidimusref17_Depth.mono_l k
  exact ih0 a0 a1 a2 a3 a4 a5

/-! ### vidimusref17_number: function 103 -/
def vidimusref17_number.f (k : Nat) (a0 : Int) : Option (ByteArray) := if a0 ≥ 0 then ((vidimusref16_Digits.f k a0).bind fun t129 => (some t129)) else (if a0 = (-9223372036854775808) then (some (⟨#[45, 57, 50, 50, 51, 51, 55, 50, 48, 51, 54, 56, 53, 52, 55, 55, 53, 56, 48, 56]⟩ : ByteArray)) else ((vidimusref16_Digits.f k (wrap64 (-a0))).bind fun t130 => (if 1 + t130.size ≤ 9223372036854775807 then (some ((⟨#[45]⟩ : ByteArray) ++ t130)) else (none))))
theorem vidimusref17_number.mono : ∀ a0 k, LeO (vidimusref17_number.f k a0) (vidimusref17_number.f (k + 1) a0) := by
  intro a0 k
  unfold vidimusref17_number.f
  repeat' first
      | (with_reducible exact vidimusref16_Digits.mono _ _)
      | (with_reducible exact LeO.refl _)
      | (with_reducible exact LeO.none _)
      | (with_reducible refine LeO.ite ?_ ?_)
      | (with_reducible refine LeO.bind ?_ (fun _ => ?_))
      | exact vidimusref16_Digits.mono _ _
      | exact LeO.none _
      | refine LeO.ite ?_ ?_
      | refine LeO.bind ?_ (fun _ => ?_)

end Go.Proofs.YtcgdncpioafbdaaGreatDoor.Q

-- Written by a program of this seat (wip/pr.py, by way of the kit's print) out of the translation; Lean checks it.
import Derived.Test.YtcgdncpioafbdaaGreatDoorP0
import Derived.Test.YtcgdncpioafbdaaGreatDoorLeafF
namespace Go.Proofs.YtcgdncpioafbdaaGreatDoor.Q
open Go.RowKit Go.Proofs.YtcgdncpioafbdaaGreatDoorW.PrintWords Go.Proofs.YtcgdncpioafbdaaGreatDoorW.PrintLast Go.Proofs.YtcgdncpioafbdaaGreatDoorW.PrintMore
attribute [local go_sem] max2_int min2_int max_two min_two max_three min_three max_four min_four   -- for this text's walks alone
set_option linter.unusedVariables false
set_option linter.unusedSimpArgs false

/-! ### parse_reserved: function 324 -/
def parse_reserved.f (a0 : ByteArray) : Option (Bool) := if a0.toList = ([99, 114, 101, 97, 116, 101] : List UInt8) then (some true) else (if a0.toList = ([116, 97, 98, 108, 101] : List UInt8) then (some true) else (if a0.toList = ([100, 114, 111, 112] : List UInt8) then (some true) else (if a0.toList = ([105, 110, 115, 101, 114, 116] : List UInt8) then (some true) else (if a0.toList = ([105, 110, 116, 111] : List UInt8) then (some true) else (if a0.toList = ([118, 97, 108, 117, 101, 115] : List UInt8) then (some true) else (if a0.toList = ([115, 101, 108, 101, 99, 116] : List UInt8) then (some true) else (if a0.toList = ([102, 114, 111, 109] : List UInt8) then (some true) else (if a0.toList = ([119, 104, 101, 114, 101] : List UInt8) then (some true) else (if a0.toList = ([111, 114, 100, 101, 114] : List UInt8) then (some true) else (if a0.toList = ([98, 121] : List UInt8) then (some true) else (if a0.toList = ([100, 101, 115, 99] : List UInt8) then (some true) else (if a0.toList = ([108, 105, 109, 105, 116] : List UInt8) then (some true) else (if a0.toList = ([117, 112, 100, 97, 116, 101] : List UInt8) then (some true) else (if a0.toList = ([115, 101, 116] : List UInt8) then (some true) else (if a0.toList = ([100, 101, 108, 101, 116, 101] : List UInt8) then (some true) else (if a0.toList = ([97, 110, 100] : List UInt8) then (some true) else (if a0.toList = ([111, 114] : List UInt8) then (some true) else (if a0.toList = ([110, 111, 116] : List UInt8) then (some true) else (if a0.toList = ([105, 115] : List UInt8) then (some true) else (if a0.toList = ([110, 117, 108, 108] : List UInt8) then (some true) else (if a0.toList = ([105, 110, 116] : List UInt8) then (some true) else (if a0.toList = ([116, 101, 120, 116] : List UInt8) then (some true) else (if a0.toList = ([100, 101, 116] : List UInt8) then (some true) else (if a0.toList = ([107, 101, 121] : List UInt8) then (some true) else (if a0.toList = ([99, 111, 117, 110, 116] : List UInt8) then (some true) else (if a0.toList = ([115, 117, 109] : List UInt8) then (some true) else (if a0.toList = ([109, 105, 110] : List UInt8) then (some true) else (if a0.toList = ([109, 97, 120] : List UInt8) then (some true) else (some false)))))))))))))))))))))))))))))

/-! ### parse_binds: function 102 -/
mutual
def parse_binds.j0 : Nat → ByteArray → Bool → Option (Int)
  | 0, _, _ => none
  | k + 1, x3, x8 => if x8 = true then (some 4) else (if x3.toList = ([43] : List UInt8) then (parse_binds.j1 k x3 (x3.toList == ([43] : List UInt8))) else (if x3.toList = ([45] : List UInt8) then (parse_binds.j1 k x3 (x3.toList == ([45] : List UInt8))) else (parse_binds.j1 k x3 (x3.toList == ([124, 124] : List UInt8)))))
def parse_binds.j1 : Nat → ByteArray → Bool → Option (Int)
  | 0, _, _ => none
  | k + 1, x3, x16 => if x16 = true then (some 5) else (if x3.toList = ([42] : List UInt8) then (some 6) else (if x3.toList = ([47] : List UInt8) then (some 6) else (if x3.toList = ([37] : List UInt8) then (some 6) else (some 0))))
end
def parse_binds.f (k : Nat) (a0 : ByteArray) : Option (Int) := if a0.toList = ([111, 114] : List UInt8) then (some 1) else (if a0.toList = ([97, 110, 100] : List UInt8) then (some 2) else (if a0.toList = ([61] : List UInt8) then (parse_binds.j0 k a0 (a0.toList == ([61] : List UInt8))) else (if a0.toList = ([60, 62] : List UInt8) then (parse_binds.j0 k a0 (a0.toList == ([60, 62] : List UInt8))) else (if a0.toList = ([60] : List UInt8) then (parse_binds.j0 k a0 (a0.toList == ([60] : List UInt8))) else (if a0.toList = ([60, 61] : List UInt8) then (parse_binds.j0 k a0 (a0.toList == ([60, 61] : List UInt8))) else (if a0.toList = ([62] : List UInt8) then (parse_binds.j0 k a0 (a0.toList == ([62] : List UInt8))) else (if a0.toList = ([62, 61] : List UInt8) then (parse_binds.j0 k a0 (a0.toList == ([62, 61] : List UInt8))) else (parse_binds.j0 k a0 (a0.toList == ([105, 115] : List UInt8))))))))))
theorem parse_binds.mono_l : ∀ k, (∀ y0 y1, LeO (parse_binds.j0 k y0 y1) (parse_binds.j0 (k + 1) y0 y1)) ∧ (∀ y0 y1, LeO (parse_binds.j1 k y0 y1) (parse_binds.j1 (k + 1) y0 y1))
  | 0 => ⟨fun _ _ r h => by simp [parse_binds.j0] at h, fun _ _ r h => by simp [parse_binds.j1] at h⟩
  | k + 1 => by
    obtain ⟨ih0, ih1⟩ := parse_binds.mono_l k
    refine ⟨?_, ?_⟩
    · intro y0 y1
      unfold parse_binds.j0
      repeat' first
      | (with_reducible exact ih0 _ _)
      | (with_reducible exact ih1 _ _)
      | (with_reducible exact LeO.refl _)
      | (with_reducible exact LeO.none _)
      | (with_reducible refine LeO.ite ?_ ?_)
      | (with_reducible refine LeO.bind ?_ (fun _ => ?_))
      | exact ih0 _ _
      | exact ih1 _ _
      | exact LeO.none _
      | refine LeO.ite ?_ ?_
      | refine LeO.bind ?_ (fun _ => ?_)
    · intro y0 y1
      unfold parse_binds.j1
      repeat' first
      | (with_reducible exact ih0 _ _)
      | (with_reducible exact ih1 _ _)
      | (with_reducible exact LeO.refl _)
      | (with_reducible exact LeO.none _)
      | (with_reducible refine LeO.ite ?_ ?_)
      | (with_reducible refine LeO.bind ?_ (fun _ => ?_))
      | exact ih0 _ _
      | exact ih1 _ _
      | exact LeO.none _
      | refine LeO.ite ?_ ?_
      | refine LeO.bind ?_ (fun _ => ?_)
theorem parse_binds.mono : ∀ a0 k, LeO (parse_binds.f k a0) (parse_binds.f (k + 1) a0) := by
  intro a0 k
  obtain ⟨ih0, ih1⟩ := parse_binds.mono_l k
  unfold parse_binds.f
  repeat' first
      | (with_reducible exact ih0 _ _)
      | (with_reducible exact ih1 _ _)
      | (with_reducible exact LeO.refl _)
      | (with_reducible exact LeO.none _)
      | (with_reducible refine LeO.ite ?_ ?_)
      | (with_reducible refine LeO.bind ?_ (fun _ => ?_))
      | exact ih0 _ _
      | exact ih1 _ _
      | exact LeO.none _
      | refine LeO.ite ?_ ?_
      | refine LeO.bind ?_ (fun _ => ?_)

/-! ### parse_digits: function 177 -/
def parse_digits.f : Nat → Int → Option (ByteArray)
  | 0, _ => none
  | k + 1, a0 => if a0 < 10 then (some (strOfNums (([(48 + ((a0) % 256)) % 256] : List Int)))) else ((parse_digits.f k (IntKind.u64.wrap (Int.tdiv a0 10))).bind fun t104 => ((parse_digits.f k (Int.tmod a0 10)).bind fun t105 => (if t104.size + t105.size ≤ 9223372036854775807 then (some (t104 ++ t105)) else (none))))
theorem parse_digits.mono_l : ∀ k, (∀ y0, LeO (parse_digits.f k y0) (parse_digits.f (k + 1) y0))
  | 0 => fun _ r h => by simp [parse_digits.f] at h
  | k + 1 => by
    have ih0 := parse_digits.mono_l k
    · intro y0
      unfold parse_digits.f
      repeat' first
      | (with_reducible exact ih0 _)
      | (with_reducible exact LeO.refl _)
      | (with_reducible exact LeO.none _)
      | (with_reducible refine LeO.ite ?_ ?_)
      | (with_reducible refine LeO.bind ?_ (fun _ => ?_))
      | exact ih0 _
      | exact LeO.none _
      | refine LeO.ite ?_ ?_
      | refine LeO.bind ?_ (fun _ => ?_)
theorem parse_digits.mono : ∀ a0 k, LeO (parse_digits.f k a0) (parse_digits.f (k + 1) a0) := by
  intro a0 k
  have ih0 := parse_digits.mono_l k
  exact ih0 a0

/-! ### parse_literal: function 101 -/
def parse_literal.j0 : Nat → Bool → Int → Int → ByteArray → Option (ByteArray)
  | 0, _, _, _, _ => none
  | k + 1, x7, x107000, x107001, x107002 => if x7 = true then ((strings_ReplaceAll.f x107002 (⟨#[39]⟩ : ByteArray) (⟨#[39, 39]⟩ : ByteArray)).bind fun t107 => (if 1 + t107.size ≤ 9223372036854775807 then (if ((⟨#[39]⟩ : ByteArray) ++ t107).size + 1 ≤ 9223372036854775807 then (some (((⟨#[39]⟩ : ByteArray) ++ t107) ++ (⟨#[39]⟩ : ByteArray))) else (none)) else (none))) else (if x107001 < 0 then ((parse_digits.f k (IntKind.u64.wrap (wrap64 (-x107001)))).bind fun t108 => (if 1 + t108.size ≤ 9223372036854775807 then (some ((⟨#[45]⟩ : ByteArray) ++ t108)) else (none))) else ((parse_digits.f k (IntKind.u64.wrap (x107001))).bind fun t109 => (some t109)))
def parse_literal.f (k : Nat) (a0_0 : Int) (a0_1 : Int) (a0_2 : ByteArray) : Option (ByteArray) := if a0_0 = 0 then (some (⟨#[110, 117, 108, 108]⟩ : ByteArray)) else (if a0_0 = 2 then (parse_literal.j0 k true a0_0 a0_1 a0_2) else (parse_literal.j0 k (a0_0 != 1) a0_0 a0_1 a0_2))
theorem parse_literal.mono_l : ∀ k, (∀ y0 y1 y2 y3, LeO (parse_literal.j0 k y0 y1 y2 y3) (parse_literal.j0 (k + 1) y0 y1 y2 y3))
  | 0 => fun _ _ _ _ r h => by simp [parse_literal.j0] at h
  | k + 1 => by
    have ih0 := parse_literal.mono_l k
    · intro y0 y1 y2 y3
      unfold parse_literal.j0
      repeat' first
      | (with_reducible exact ih0 _ _ _ _)
      | (with_reducible exact parse_digits.mono _ _)
      | (with_reducible exact LeO.refl _)
      | (with_reducible exact LeO.none _)
      | (with_reducible refine LeO.ite ?_ ?_)
      | (with_reducible refine LeO.bind ?_ (fun _ => ?_))
      | exact ih0 _ _ _ _
      | exact parse_digits.mono _ _
      | exact LeO.none _
      | refine LeO.ite ?_ ?_
      | refine LeO.bind ?_ (fun _ => ?_)
theorem parse_literal.mono : ∀ a0 a1 a2 k, LeO (parse_literal.f k a0 a1 a2) (parse_literal.f (k + 1) a0 a1 a2) := by
  intro a0 a1 a2 k
  have ih0 := parse_literal.mono_l k
  unfold parse_literal.f
  repeat' first
      | (with_reducible exact ih0 _ _ _ _)
      | (with_reducible exact parse_digits.mono _ _)
      | (with_reducible exact LeO.refl _)
      | (with_reducible exact LeO.none _)
      | (with_reducible refine LeO.ite ?_ ?_)
      | (with_reducible refine LeO.bind ?_ (fun _ => ?_))
      | exact ih0 _ _ _ _
      | exact parse_digits.mono _ _
      | exact LeO.none _
      | refine LeO.ite ?_ ?_
      | refine LeO.bind ?_ (fun _ => ?_)

/-! ### parse_Depth: function 43 -/
mutual
def parse_Depth.l0 : Nat → Int → List (S43) → Int → Int → Option (Int)
  | 0, _, _, _, _ => none
  | k + 1, x3, x7, x8, x9 => if x9 < x8 then (if 0 ≤ x9 then (if x9 < (x7.length : Int) then ((parse_Depth.f k ((rd_T43 x7 x9).f0) ((rd_T43 x7 x9).f1.f0) ((rd_T43 x7 x9).f1.f1) ((rd_T43 x7 x9).f1.f2) ((rd_T43 x7 x9).f2) ((rd_T43 x7 x9).f3)).bind fun t113 => (parse_Depth.l0 k (mx x3 t113) x7 x8 (wrap64 (x9 + 1)))) else (none)) else (none)) else (some (wrap64 (x3 + 1)))
def parse_Depth.f : Nat → ByteArray → Int → Int → ByteArray → ByteArray → List (S43) → Option (Int)
  | 0, _, _, _, _, _, _ => none
  | k + 1, a0_0, a0_1, a0_2, a0_3, a0_4, l0_5 => parse_Depth.l0 k 0 l0_5 (l0_5.length : Int) 0
end
theorem parse_Depth.mono_l : ∀ k, (∀ y0 y1 y2 y3 y4 y5, LeO (parse_Depth.f k y0 y1 y2 y3 y4 y5) (parse_Depth.f (k + 1) y0 y1 y2 y3 y4 y5)) ∧ (∀ y0 y1 y2 y3, LeO (parse_Depth.l0 k y0 y1 y2 y3) (parse_Depth.l0 (k + 1) y0 y1 y2 y3))
  | 0 => ⟨fun _ _ _ _ _ _ r h => by simp [parse_Depth.f] at h, fun _ _ _ _ r h => by simp [parse_Depth.l0] at h⟩
  | k + 1 => by
    obtain ⟨ih0, ih1⟩ := parse_Depth.mono_l k
    refine ⟨?_, ?_⟩
    · intro y0 y1 y2 y3 y4 y5
      unfold parse_Depth.f
      repeat' first
      | (with_reducible exact ih0 _ _ _ _ _ _)
      | (with_reducible exact ih1 _ _ _ _)
      | (with_reducible exact LeO.refl _)
      | (with_reducible exact LeO.none _)
      | (with_reducible refine LeO.ite ?_ ?_)
      | (with_reducible refine LeO.bind ?_ (fun _ => ?_))
      | exact ih0 _ _ _ _ _ _
      | exact ih1 _ _ _ _
      | exact LeO.none _
      | refine LeO.ite ?_ ?_
      | refine LeO.bind ?_ (fun _ => ?_)
    · intro y0 y1 y2 y3
      unfold parse_Depth.l0
      repeat' first
      | (with_reducible exact ih0 _ _ _ _ _ _)
      | (with_reducible exact ih1 _ _ _ _)
      | (with_reducible exact LeO.refl _)
      | (with_reducible exact LeO.none _)
      | (with_reducible refine LeO.ite ?_ ?_)
      | (with_reducible refine LeO.bind ?_ (fun _ => ?_))
      | exact ih0 _ _ _ _ _ _
      | exact ih1 _ _ _ _
      | exact LeO.none _
      | refine LeO.ite ?_ ?_
      | refine LeO.bind ?_ (fun _ => ?_)
theorem parse_Depth.mono : ∀ a0 a1 a2 a3 a4 a5 k, LeO (parse_Depth.f k a0 a1 a2 a3 a4 a5) (parse_Depth.f (k + 1) a0 a1 a2 a3 a4 a5) := by
  intro a0 a1 a2 a3 a4 a5 k
  obtain ⟨ih0, ih1⟩ := parse_Depth.mono_l k
  exact ih0 a0 a1 a2 a3 a4 a5

end Go.Proofs.YtcgdncpioafbdaaGreatDoor.Q

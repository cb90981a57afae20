-- Written by a program of this seat (wip/pr.py, by way of the kit's print) out of the translation; the last arm (a literal's bytes) turned by hand; Lean checks it.
import Derived.Test.YtcgdncpioafbdaaGreatDoorQ0
import Derived.Test.YtcgdncpioafbdaaGreatDoorQeq0
import Derived.Test.YtcgdncpioafbdaaGreatDoorLit
namespace Go.Proofs.YtcgdncpioafbdaaGreatDoor.Q
open Go.RowKit Go.Proofs.YtcgdncpioafbdaaGreatDoorW.PrintWords Go.Proofs.YtcgdncpioafbdaaGreatDoorW.PrintLast Go.Proofs.YtcgdncpioafbdaaGreatDoorW.PrintMore
attribute [local go_sem] max2_int min2_int max_two min_two max_three min_three max_four min_four   -- for this text's walks alone
set_option linter.unusedVariables false
set_option linter.unusedSimpArgs false
attribute [local go_sem high] eqA32
/-! ### vidimusref16_letter: function 61 -/
def vidimusref16_letter.f (a0 : Int) : Option (Bool) := if a0 ≥ 97 then (if a0 ≤ 122 then (some true) else (if a0 ≥ 65 then (some (decide (a0 ≤ 90))) else (some false))) else (if a0 ≥ 65 then (some (decide (a0 ≤ 90))) else (some false))
set_option maxHeartbeats 80000000 in
set_option maxRecDepth 100000 in
theorem vidimusref16_letter.calls (a0 : Int) (r : Bool) (w : World) (h : vidimusref16_letter.f a0 = some r) :
    Calls Tryz.prog 61 #[.int .u8 a0] w fun e w' => e = .returned (.bool r) ∧ Drawn0 w w' := by
  have H : (if a0 ≥ 97 then (if a0 ≤ 122 then (some true) else (if a0 ≥ 65 then (some (decide (a0 ≤ 90))) else (some false))) else (if a0 ≥ 65 then (some (decide (a0 ≤ 90))) else (some false))) = some r := h
  clear h
  by_cases c2 : a0 ≥ 97
  · rw [if_pos c2] at H
    have c2b0 : decide (97 ≤ a0) = true := decide_eq_true c2
    clear c2
    by_cases c3 : a0 ≤ 122
    · rw [if_pos c3] at H
      have c3b0 : decide (a0 ≤ 122) = true := decide_eq_true c3
      clear c3
      obtain rfl := Option.some.inj H
      go_enter Tryz.func61, Tryz.ntmps61
      go_wp2
      go_ret
      exact ⟨by first | rfl | (simp; done) | (simp [*]; done), by repeat (first | exact Drawn0.refl _ | apply Drawn0.step)⟩
    · rw [if_neg c3] at H
      have c3b0 : decide (a0 ≤ 122) = false := decide_eq_false c3
      clear c3
      by_cases c4 : a0 ≥ 65
      · rw [if_pos c4] at H
        have c4b0 : decide (65 ≤ a0) = true := decide_eq_true c4
        clear c4
        obtain rfl := Option.some.inj H
        go_enter Tryz.func61, Tryz.ntmps61
        go_wp2
        go_ret
        exact ⟨by first | rfl | (simp; done) | (simp [*]; done), by repeat (first | exact Drawn0.refl _ | apply Drawn0.step)⟩
      · rw [if_neg c4] at H
        have c4b0 : decide (65 ≤ a0) = false := decide_eq_false c4
        clear c4
        obtain rfl := Option.some.inj H
        go_enter Tryz.func61, Tryz.ntmps61
        go_wp2
        go_ret
        exact ⟨by first | rfl | (simp; done) | (simp [*]; done), by repeat (first | exact Drawn0.refl _ | apply Drawn0.step)⟩
  · rw [if_neg c2] at H
    have c2b0 : decide (97 ≤ a0) = false := decide_eq_false c2
    clear c2
    by_cases c5 : a0 ≥ 65
    · rw [if_pos c5] at H
      have c5b0 : decide (65 ≤ a0) = true := decide_eq_true c5
      clear c5
      obtain rfl := Option.some.inj H
      go_enter Tryz.func61, Tryz.ntmps61
      go_wp2
      go_ret
      exact ⟨by first | rfl | (simp; done) | (simp [*]; done), by repeat (first | exact Drawn0.refl _ | apply Drawn0.step)⟩
    · rw [if_neg c5] at H
      have c5b0 : decide (65 ≤ a0) = false := decide_eq_false c5
      clear c5
      obtain rfl := Option.some.inj H
      go_enter Tryz.func61, Tryz.ntmps61
      go_wp2
      go_ret
      exact ⟨by first | rfl | (simp; done) | (simp [*]; done), by repeat (first | exact Drawn0.refl _ | apply Drawn0.step)⟩

/-! ### vidimusref16_digit: function 63 -/
def vidimusref16_digit.f (a0 : Int) : Option (Bool) := if a0 ≥ 48 then (some (decide (a0 ≤ 57))) else (some false)
set_option maxHeartbeats 80000000 in
set_option maxRecDepth 100000 in
theorem vidimusref16_digit.calls (a0 : Int) (r : Bool) (w : World) (h : vidimusref16_digit.f a0 = some r) :
    Calls Tryz.prog 63 #[.int .u8 a0] w fun e w' => e = .returned (.bool r) ∧ Drawn0 w w' := by
  have H : (if a0 ≥ 48 then (some (decide (a0 ≤ 57))) else (some false)) = some r := h
  clear h
  by_cases c2 : a0 ≥ 48
  · rw [if_pos c2] at H
    have c2b0 : decide (48 ≤ a0) = true := decide_eq_true c2
    clear c2
    obtain rfl := Option.some.inj H
    go_enter Tryz.func63, Tryz.ntmps63
    go_wp2
    go_ret
    exact ⟨by first | rfl | (simp; done) | (simp [*]; done), by repeat (first | exact Drawn0.refl _ | apply Drawn0.step)⟩
  · rw [if_neg c2] at H
    have c2b0 : decide (48 ≤ a0) = false := decide_eq_false c2
    clear c2
    obtain rfl := Option.some.inj H
    go_enter Tryz.func63, Tryz.ntmps63
    go_wp2
    go_ret
    exact ⟨by first | rfl | (simp; done) | (simp [*]; done), by repeat (first | exact Drawn0.refl _ | apply Drawn0.step)⟩

/-! ### vidimusref16_part: function 62 -/
def vidimusref16_part.f (a0 : Int) : Option (Bool) := (vidimusref16_letter.f a0).bind fun t113 => (if t113 = true then (some true) else ((vidimusref16_digit.f a0).bind fun t114 => (if t114 = true then (some true) else (some (a0 == 95)))))
set_option maxHeartbeats 80000000 in
set_option maxRecDepth 100000 in
theorem vidimusref16_part.calls (a0 : Int) (r : Bool) (w : World) (h : vidimusref16_part.f a0 = some r) :
    Calls Tryz.prog 62 #[.int .u8 a0] w fun e w' => e = .returned (.bool r) ∧ Drawn0 w w' := by
  have H : ((vidimusref16_letter.f a0).bind fun t113 => (if t113 = true then (some true) else ((vidimusref16_digit.f a0).bind fun t114 => (if t114 = true then (some true) else (some (a0 == 95)))))) = some r := h
  clear h
  replace H := Option.bind_eq_some_iff.mp H
  obtain ⟨t113, A20, H⟩ := H
  replace H : (if t113 = true then (some true) else ((vidimusref16_digit.f a0).bind fun t114 => (if t114 = true then (some true) else (some (a0 == 95))))) = some r := H
  have A2 := Aside0.mk A20
  clear A20
  by_cases c3 : t113 = true
  · subst c3
    have H1 : (some true) = some r := by rw [if_pos rfl] at H; exact H
    clear H
    have H := H1
    clear H1
    obtain rfl := Option.some.inj H
    go_enter Tryz.func62, Tryz.ntmps62
    go_wp2_with (first | ((with_reducible refine gate_callee (f := 61) rfl ?_); refine goesL_ (some 4) rfl rfl Tryz.func61 (by kernel_rfl) rfl #[.int .u8 a0] rfl (by (try simp only [List.map_toArray, List.map_cons, List.map_nil]); first | done | rfl | (simp only [List.length_drop, List.length_take]; rfl)) ?_; (with_reducible refine (vidimusref16_letter.calls a0 true _ A2.out).mono ?_); rintro e w' ⟨rfl, ⟨nd, rfl⟩⟩; refine ⟨_, rfl, ?_⟩))
    go_ret
    exact ⟨by first | rfl | (simp; done) | (simp [*]; done), by repeat (first | exact Drawn0.refl _ | apply Drawn0.step)⟩
  · replace c3 := Bool.eq_false_iff.mpr c3
    subst c3
    have H1 : ((vidimusref16_digit.f a0).bind fun t114 => (if t114 = true then (some true) else (some (a0 == 95)))) = some r := by rw [if_neg (show ¬ (false = true) by decide)] at H; exact H
    clear H
    have H := H1
    clear H1
    replace H := Option.bind_eq_some_iff.mp H
    obtain ⟨t114, A40, H⟩ := H
    replace H : (if t114 = true then (some true) else (some (a0 == 95))) = some r := H
    have A4 := Aside0.mk A40
    clear A40
    by_cases c5 : t114 = true
    · subst c5
      have H1 : (some true) = some r := by rw [if_pos rfl] at H; exact H
      clear H
      have H := H1
      clear H1
      obtain rfl := Option.some.inj H
      go_enter Tryz.func62, Tryz.ntmps62
      go_wp2_with (first | ((with_reducible refine gate_callee (f := 61) rfl ?_); refine goesL_ (some 4) rfl rfl Tryz.func61 (by kernel_rfl) rfl #[.int .u8 a0] rfl (by (try simp only [List.map_toArray, List.map_cons, List.map_nil]); first | done | rfl | (simp only [List.length_drop, List.length_take]; rfl)) ?_; (with_reducible refine (vidimusref16_letter.calls a0 false _ A2.out).mono ?_); rintro e w' ⟨rfl, ⟨nd, rfl⟩⟩; refine ⟨_, rfl, ?_⟩) | (go_at_call 63; (with_reducible refine (vidimusref16_digit.calls a0 true _ A4.out).mono ?_); rintro e w' ⟨rfl, ⟨nd, rfl⟩⟩))
      go_ret
      exact ⟨by first | rfl | (simp; done) | (simp [*]; done), by repeat (first | exact Drawn0.refl _ | apply Drawn0.step)⟩
    · replace c5 := Bool.eq_false_iff.mpr c5
      subst c5
      have H1 : (some (a0 == 95)) = some r := by rw [if_neg (show ¬ (false = true) by decide)] at H; exact H
      clear H
      have H := H1
      clear H1
      obtain rfl := Option.some.inj H
      go_enter Tryz.func62, Tryz.ntmps62
      go_wp2_with (first | ((with_reducible refine gate_callee (f := 61) rfl ?_); refine goesL_ (some 4) rfl rfl Tryz.func61 (by kernel_rfl) rfl #[.int .u8 a0] rfl (by (try simp only [List.map_toArray, List.map_cons, List.map_nil]); first | done | rfl | (simp only [List.length_drop, List.length_take]; rfl)) ?_; (with_reducible refine (vidimusref16_letter.calls a0 false _ A2.out).mono ?_); rintro e w' ⟨rfl, ⟨nd, rfl⟩⟩; refine ⟨_, rfl, ?_⟩) | (go_at_call 63; (with_reducible refine (vidimusref16_digit.calls a0 false _ A4.out).mono ?_); rintro e w' ⟨rfl, ⟨nd, rfl⟩⟩))
      go_ret
      exact ⟨by first | rfl | (simp; done) | (simp [*]; done), by repeat (first | exact Drawn0.refl _ | apply Drawn0.step)⟩

/-! ### rtok: function 17 -/
mutual
def rtok.l0 : Nat → ByteArray → List (S32) → Int → Option ((List (S32)) × Int)
  | 0, _, _, _ => none
  | k + 1, x0, x4, x5 => if x5 < (x0.size : Int) then (if 0 ≤ x5 then (if (bt x0 x5) = 32 then (rtok.j1 k x0 x4 x5 (bt x0 x5) true) else (if (bt x0 x5) = 9 then (rtok.j1 k x0 x4 x5 (bt x0 x5) true) else (if (bt x0 x5) = 10 then (rtok.j1 k x0 x4 x5 (bt x0 x5) true) else (rtok.j1 k x0 x4 x5 (bt x0 x5) ((bt x0 x5) == 13))))) else (none)) else (if x4.length < 4398046511104 then (some ((x4 ++ [(⟨0, (⟨#[]⟩ : ByteArray), 0⟩ : S32)]), 0)) else (none))
def rtok.j1 : Nat → ByteArray → List (S32) → Int → Int → Bool → Option ((List (S32)) × Int)
  | 0, _, _, _, _, _ => none
  | k + 1, x0, x4, x5, x6, x78 => if x78 = true then (rtok.l0 k x0 x4 (wrap64 (x5 + 1))) else (if x6 = 45 then (if (wrap64 (x5 + 1)) < (x0.size : Int) then (if 0 ≤ (wrap64 (x5 + 1)) then (rtok.j2 k x0 x4 x5 x6 ((bt x0 (wrap64 (x5 + 1))) == 45)) else (none)) else (rtok.j2 k x0 x4 x5 x6 false)) else (rtok.j2 k x0 x4 x5 x6 false))
def rtok.j2 : Nat → ByteArray → List (S32) → Int → Int → Bool → Option ((List (S32)) × Int)
  | 0, _, _, _, _, _ => none
  | k + 1, x0, x4, x5, x6, x95 => if x95 = true then (rtok.l1 k x0 x4 x5) else ((vidimusref16_letter.f x6).bind fun t118 => (if t118 = true then (rtok.l2 k x0 x4 x5 (⟨#[]⟩ : ByteArray)) else ((vidimusref16_digit.f x6).bind fun t132 => (if t132 = true then (rtok.l3 k x0 x4 x5 0 false) else (if x6 = 39 then (rtok.l4 k x0 x4 (wrap64 (x5 + 1)) (⟨#[]⟩ : ByteArray) false) else ((some (([(⟨#[60, 61]⟩ : ByteArray), (⟨#[62, 61]⟩ : ByteArray), (⟨#[60, 62]⟩ : ByteArray), (⟨#[124, 124]⟩ : ByteArray)] : List ByteArray) : List ByteArray)).bind fun y141 => (rtok.l5 k x0 x4 x5 x6 0 y141 (y141.length : Int) 0)))))))
def rtok.l1 : Nat → ByteArray → List (S32) → Int → Option ((List (S32)) × Int)
  | 0, _, _, _ => none
  | k + 1, x0, x4, x5 => if x5 < (x0.size : Int) then (if 0 ≤ x5 then (if (bt x0 x5) = 10 then (rtok.l0 k x0 x4 x5) else (rtok.l1 k x0 x4 (wrap64 (x5 + 1)))) else (none)) else (rtok.l0 k x0 x4 x5)
def rtok.l2 : Nat → ByteArray → List (S32) → Int → ByteArray → Option ((List (S32)) × Int)
  | 0, _, _, _, _ => none
  | k + 1, x0, x4, x5, x7 => if x5 < (x0.size : Int) then (if 0 ≤ x5 then ((vidimusref16_part.f (bt x0 x5)).bind fun t119 => (rtok.j5 k x0 x4 x5 x7 t119)) else (none)) else (rtok.j5 k x0 x4 x5 x7 false)
def rtok.j5 : Nat → ByteArray → List (S32) → Int → ByteArray → Bool → Option ((List (S32)) × Int)
  | 0, _, _, _, _, _ => none
  | k + 1, x0, x4, x5, x7, x136 => if x136 = true then (if 0 ≤ x5 then (if x5 < (x0.size : Int) then (if (bt x0 x5) ≥ 65 then (if (bt x0 x5) ≤ 90 then ((some (([((bt x0 x5) + 32) % 256] : List Int) : List Int)).bind fun y120 => (if x7.size + (strOfNums y120).size ≤ 9223372036854775807 then (rtok.l2 k x0 x4 (wrap64 (x5 + 1)) (x7 ++ (strOfNums y120))) else (none))) else ((some (([bt x0 x5] : List Int) : List Int)).bind fun y123 => (if x7.size + (strOfNums y123).size ≤ 9223372036854775807 then (rtok.l2 k x0 x4 (wrap64 (x5 + 1)) (x7 ++ (strOfNums y123))) else (none)))) else ((some (([bt x0 x5] : List Int) : List Int)).bind fun y126 => (if x7.size + (strOfNums y126).size ≤ 9223372036854775807 then (rtok.l2 k x0 x4 (wrap64 (x5 + 1)) (x7 ++ (strOfNums y126))) else (none)))) else (none)) else (none)) else (if (x7.size : Int) > 30 then (some (([] : List (S32)), 28)) else (if x4.length < 4398046511104 then (rtok.l0 k x0 (x4 ++ [(⟨1, x7, 0⟩ : S32)]) x5) else (none)))
def rtok.l3 : Nat → ByteArray → List (S32) → Int → Int → Bool → Option ((List (S32)) × Int)
  | 0, _, _, _, _, _ => none
  | k + 1, x0, x4, x5, x9, x10 => if x5 < (x0.size : Int) then (if 0 ≤ x5 then ((vidimusref16_digit.f (bt x0 x5)).bind fun t133 => (rtok.j7 k x0 x4 x5 x9 x10 t133)) else (none)) else (rtok.j7 k x0 x4 x5 x9 x10 false)
def rtok.j7 : Nat → ByteArray → List (S32) → Int → Int → Bool → Bool → Option ((List (S32)) × Int)
  | 0, _, _, _, _, _, _ => none
  | k + 1, x0, x4, x5, x9, x10, x175 => if x175 = true then (if 0 ≤ x5 then (if x5 < (x0.size : Int) then (if x9 > ((9223372036854775807 - (((bt x0 x5) - 48) % 256)) / 10) then (rtok.l3 k x0 x4 (wrap64 (x5 + 1)) x9 true) else (rtok.l3 k x0 x4 (wrap64 (x5 + 1)) (IntKind.u64.wrap ((IntKind.u64.wrap (x9 * 10)) + (((bt x0 x5) - 48) % 256))) x10)) else (none)) else (none)) else (if x5 < (x0.size : Int) then (if 0 ≤ x5 then ((vidimusref16_part.f (bt x0 x5)).bind fun t134 => (rtok.j8 k x0 x4 x5 x9 x10 t134)) else (none)) else (rtok.j8 k x0 x4 x5 x9 x10 false))
def rtok.j8 : Nat → ByteArray → List (S32) → Int → Int → Bool → Bool → Option ((List (S32)) × Int)
  | 0, _, _, _, _, _, _ => none
  | k + 1, x0, x4, x5, x9, x10, x201 => if x201 = true then (some (([] : List (S32)), 20)) else (if x10 = true then (some (([] : List (S32)), 26)) else (if x4.length < 4398046511104 then (rtok.l0 k x0 (x4 ++ [(⟨2, (⟨#[]⟩ : ByteArray), wrap64 (x9)⟩ : S32)]) x5) else (none)))
def rtok.l4 : Nat → ByteArray → List (S32) → Int → ByteArray → Bool → Option ((List (S32)) × Int)
  | 0, _, _, _, _, _ => none
  | k + 1, x0, x4, x5, x12, x13 => if x5 < (x0.size : Int) then (rtok.j10 k x0 x4 x5 x12 x13 (!x13)) else (rtok.j10 k x0 x4 x5 x12 x13 false)
def rtok.j10 : Nat → ByteArray → List (S32) → Int → ByteArray → Bool → Bool → Option ((List (S32)) × Int)
  | 0, _, _, _, _, _, _ => none
  | k + 1, x0, x4, x5, x12, x13, x221 => if x221 = true then (if 0 ≤ x5 then (if x5 < (x0.size : Int) then (if (bt x0 x5) = 39 then (if (wrap64 (x5 + 1)) < (x0.size : Int) then (if 0 ≤ (wrap64 (x5 + 1)) then (if (bt x0 (wrap64 (x5 + 1))) = 39 then (if x12.size + 1 ≤ 9223372036854775807 then (rtok.l4 k x0 x4 (wrap64 (x5 + 2)) (x12 ++ (⟨#[39]⟩ : ByteArray)) x13) else (none)) else (rtok.l4 k x0 x4 (wrap64 (x5 + 1)) x12 true)) else (none)) else (rtok.l4 k x0 x4 (wrap64 (x5 + 1)) x12 true)) else (if x5 ≤ (wrap64 (x5 + 1)) then (if (wrap64 (x5 + 1)) ≤ (x0.size : Int) then (if x12.size + (x0.extract (x5 : Int).toNat ((wrap64 (x5 + 1)) : Int).toNat).size ≤ 9223372036854775807 then (rtok.l4 k x0 x4 (wrap64 (x5 + 1)) (x12 ++ (x0.extract (x5 : Int).toNat ((wrap64 (x5 + 1)) : Int).toNat)) x13) else (none)) else (none)) else (none))) else (none)) else (none)) else (if x13 = true then (if (x12.size : Int) > 200 then (some (([] : List (S32)), 28)) else (if x4.length < 4398046511104 then (rtok.l0 k x0 (x4 ++ [(⟨3, x12, 0⟩ : S32)]) x5) else (none))) else (some (([] : List (S32)), 20)))
def rtok.l5 : Nat → ByteArray → List (S32) → Int → Int → Int → List ByteArray → Int → Int → Option ((List (S32)) × Int)
  | 0, _, _, _, _, _, _, _, _ => none
  | k + 1, x0, x4, x5, x6, x14, x29, x30, x31 => if x31 < x30 then (if 0 ≤ x31 then (if x31 < (x29.length : Int) then (if (wrap64 (x5 + 2)) ≤ (x0.size : Int) then (if 0 ≤ x5 then (if x5 ≤ (wrap64 (x5 + 2)) then (if (x0.extract (x5 : Int).toNat ((wrap64 (x5 + 2)) : Int).toNat).toList = (rdOf ByteArray.empty x29 x31).toList then (rtok.l5 k x0 x4 x5 x6 2 x29 x30 (wrap64 (x31 + 1))) else (rtok.l5 k x0 x4 x5 x6 x14 x29 x30 (wrap64 (x31 + 1)))) else (none)) else (none)) else (rtok.l5 k x0 x4 x5 x6 x14 x29 x30 (wrap64 (x31 + 1)))) else (none)) else (none)) else (if x14 = 0 then ((some (([40, 41, 44, 42, 43, 45, 47, 37, 61, 60, 62, 59] : List Int) : List Int)).bind fun y145 => (rtok.l6 k x0 x4 x5 x6 x14 y145 (y145.length : Int) 0)) else (if 0 ≤ x5 then (if x5 ≤ (wrap64 (x5 + x14)) then (if (wrap64 (x5 + x14)) ≤ (x0.size : Int) then (if x4.length < 4398046511104 then (rtok.l0 k x0 (x4 ++ [(⟨4, x0.extract (x5 : Int).toNat ((wrap64 (x5 + x14)) : Int).toNat, 0⟩ : S32)]) (wrap64 (x5 + x14))) else (none)) else (none)) else (none)) else (none)))
def rtok.l6 : Nat → ByteArray → List (S32) → Int → Int → Int → List Int → Int → Int → Option ((List (S32)) × Int)
  | 0, _, _, _, _, _, _, _, _ => none
  | k + 1, x0, x4, x5, x6, x14, x53, x54, x55 => if x55 < x54 then (if 0 ≤ x55 then (if x55 < (x53.length : Int) then (if x6 = (rd x53 x55) then (rtok.l6 k x0 x4 x5 x6 1 x53 x54 (wrap64 (x55 + 1))) else (rtok.l6 k x0 x4 x5 x6 x14 x53 x54 (wrap64 (x55 + 1)))) else (none)) else (none)) else (if x14 = 0 then (some (([] : List (S32)), 20)) else (if 0 ≤ x5 then (if x5 ≤ (wrap64 (x5 + x14)) then (if (wrap64 (x5 + x14)) ≤ (x0.size : Int) then (if x4.length < 4398046511104 then (rtok.l0 k x0 (x4 ++ [(⟨4, x0.extract (x5 : Int).toNat ((wrap64 (x5 + x14)) : Int).toNat, 0⟩ : S32)]) (wrap64 (x5 + x14))) else (none)) else (none)) else (none)) else (none)))
end
def rtok.f (k : Nat) (a0 : ByteArray) : Option ((List (S32)) × Int) := if (a0.size : Int) > 4000 then (some (([] : List (S32)), 28)) else (rtok.l0 k a0 ([] : List (S32)) 0)
theorem rtok.mono_l : ∀ k, (∀ y0 y1 y2, LeO (rtok.l0 k y0 y1 y2) (rtok.l0 (k + 1) y0 y1 y2)) ∧ (∀ y0 y1 y2 y3 y4, LeO (rtok.j1 k y0 y1 y2 y3 y4) (rtok.j1 (k + 1) y0 y1 y2 y3 y4)) ∧ (∀ y0 y1 y2 y3 y4, LeO (rtok.j2 k y0 y1 y2 y3 y4) (rtok.j2 (k + 1) y0 y1 y2 y3 y4)) ∧ (∀ y0 y1 y2, LeO (rtok.l1 k y0 y1 y2) (rtok.l1 (k + 1) y0 y1 y2)) ∧ (∀ y0 y1 y2 y3, LeO (rtok.l2 k y0 y1 y2 y3) (rtok.l2 (k + 1) y0 y1 y2 y3)) ∧ (∀ y0 y1 y2 y3 y4, LeO (rtok.j5 k y0 y1 y2 y3 y4) (rtok.j5 (k + 1) y0 y1 y2 y3 y4)) ∧ (∀ y0 y1 y2 y3 y4, LeO (rtok.l3 k y0 y1 y2 y3 y4) (rtok.l3 (k + 1) y0 y1 y2 y3 y4)) ∧ (∀ y0 y1 y2 y3 y4 y5, LeO (rtok.j7 k y0 y1 y2 y3 y4 y5) (rtok.j7 (k + 1) y0 y1 y2 y3 y4 y5)) ∧ (∀ y0 y1 y2 y3 y4 y5, LeO (rtok.j8 k y0 y1 y2 y3 y4 y5) (rtok.j8 (k + 1) y0 y1 y2 y3 y4 y5)) ∧ (∀ y0 y1 y2 y3 y4, LeO (rtok.l4 k y0 y1 y2 y3 y4) (rtok.l4 (k + 1) y0 y1 y2 y3 y4)) ∧ (∀ y0 y1 y2 y3 y4 y5, LeO (rtok.j10 k y0 y1 y2 y3 y4 y5) (rtok.j10 (k + 1) y0 y1 y2 y3 y4 y5)) ∧ (∀ y0 y1 y2 y3 y4 y5 y6 y7, LeO (rtok.l5 k y0 y1 y2 y3 y4 y5 y6 y7) (rtok.l5 (k + 1) y0 y1 y2 y3 y4 y5 y6 y7)) ∧ (∀ y0 y1 y2 y3 y4 y5 y6 y7, LeO (rtok.l6 k y0 y1 y2 y3 y4 y5 y6 y7) (rtok.l6 (k + 1) y0 y1 y2 y3 y4 y5 y6 y7))
  | 0 => ⟨fun _ _ _ r h => by simp [rtok.l0] at h, fun _ _ _ _ _ r h => by simp [rtok.j1] at h, fun _ _ _ _ _ r h => by simp [rtok.j2] at h, fun _ _ _ r h => by simp [rtok.l1] at h, fun _ _ _ _ r h => by simp [rtok.l2] at h, fun _ _ _ _ _ r h => by simp [rtok.j5] at h, fun _ _ _ _ _ r h => by simp [rtok.l3] at h, fun _ _ _ _ _ _ r h => by simp [rtok.j7] at h, fun _ _ _ _ _ _ r h => by simp [rtok.j8] at h, fun _ _ _ _ _ r h => by simp [rtok.l4] at h, fun _ _ _ _ _ _ r h => by simp [rtok.j10] at h, fun _ _ _ _ _ _ _ _ r h => by simp [rtok.l5] at h, fun _ _ _ _ _ _ _ _ r h => by simp [rtok.l6] at h⟩
  | k + 1 => by
    obtain ⟨ih0, ih1, ih2, ih3, ih4, ih5, ih6, ih7, ih8, ih9, ih10, ih11, ih12⟩ := rtok.mono_l k
    refine ⟨?_, ?_, ?_, ?_, ?_, ?_, ?_, ?_, ?_, ?_, ?_, ?_, ?_⟩
    · intro y0 y1 y2
      unfold rtok.l0
      repeat' first
      | (with_reducible exact ih0 _ _ _)
      | (with_reducible exact ih1 _ _ _ _ _)
      | (with_reducible exact ih2 _ _ _ _ _)
      | (with_reducible exact ih3 _ _ _)
      | (with_reducible exact ih4 _ _ _ _)
      | (with_reducible exact ih5 _ _ _ _ _)
      | (with_reducible exact ih6 _ _ _ _ _)
      | (with_reducible exact ih7 _ _ _ _ _ _)
      | (with_reducible exact ih8 _ _ _ _ _ _)
      | (with_reducible exact ih9 _ _ _ _ _)
      | (with_reducible exact ih10 _ _ _ _ _ _)
      | (with_reducible exact ih11 _ _ _ _ _ _ _ _)
      | (with_reducible exact ih12 _ _ _ _ _ _ _ _)
      | (with_reducible exact LeO.refl _)
      | (with_reducible exact LeO.none _)
      | (with_reducible refine LeO.ite ?_ ?_)
      | (with_reducible refine LeO.bind ?_ (fun _ => ?_))
      | exact ih0 _ _ _
      | exact ih1 _ _ _ _ _
      | exact ih2 _ _ _ _ _
      | exact ih3 _ _ _
      | exact ih4 _ _ _ _
      | exact ih5 _ _ _ _ _
      | exact ih6 _ _ _ _ _
      | exact ih7 _ _ _ _ _ _
      | exact ih8 _ _ _ _ _ _
      | exact ih9 _ _ _ _ _
      | exact ih10 _ _ _ _ _ _
      | exact ih11 _ _ _ _ _ _ _ _
      | exact ih12 _ _ _ _ _ _ _ _
      | exact LeO.none _
      | refine LeO.ite ?_ ?_
      | refine LeO.bind ?_ (fun _ => ?_)
    · intro y0 y1 y2 y3 y4
      unfold rtok.j1
      repeat' first
      | (with_reducible exact ih0 _ _ _)
      | (with_reducible exact ih1 _ _ _ _ _)
      | (with_reducible exact ih2 _ _ _ _ _)
      | (with_reducible exact ih3 _ _ _)
      | (with_reducible exact ih4 _ _ _ _)
      | (with_reducible exact ih5 _ _ _ _ _)
      | (with_reducible exact ih6 _ _ _ _ _)
      | (with_reducible exact ih7 _ _ _ _ _ _)
      | (with_reducible exact ih8 _ _ _ _ _ _)
      | (with_reducible exact ih9 _ _ _ _ _)
      | (with_reducible exact ih10 _ _ _ _ _ _)
      | (with_reducible exact ih11 _ _ _ _ _ _ _ _)
      | (with_reducible exact ih12 _ _ _ _ _ _ _ _)
      | (with_reducible exact LeO.refl _)
      | (with_reducible exact LeO.none _)
      | (with_reducible refine LeO.ite ?_ ?_)
      | (with_reducible refine LeO.bind ?_ (fun _ => ?_))
      | exact ih0 _ _ _
      | exact ih1 _ _ _ _ _
      | exact ih2 _ _ _ _ _
      | exact ih3 _ _ _
      | exact ih4 _ _ _ _
      | exact ih5 _ _ _ _ _
      | exact ih6 _ _ _ _ _
      | exact ih7 _ _ _ _ _ _
      | exact ih8 _ _ _ _ _ _
      | exact ih9 _ _ _ _ _
      | exact ih10 _ _ _ _ _ _
      | exact ih11 _ _ _ _ _ _ _ _
      | exact ih12 _ _ _ _ _ _ _ _
      | exact LeO.none _
      | refine LeO.ite ?_ ?_
      | refine LeO.bind ?_ (fun _ => ?_)
    · intro y0 y1 y2 y3 y4
      unfold rtok.j2
      repeat' first
      | (with_reducible exact ih0 _ _ _)
      | (with_reducible exact ih1 _ _ _ _ _)
      | (with_reducible exact ih2 _ _ _ _ _)
      | (with_reducible exact ih3 _ _ _)
      | (with_reducible exact ih4 _ _ _ _)
      | (with_reducible exact ih5 _ _ _ _ _)
      | (with_reducible exact ih6 _ _ _ _ _)
      | (with_reducible exact ih7 _ _ _ _ _ _)
      | (with_reducible exact ih8 _ _ _ _ _ _)
      | (with_reducible exact ih9 _ _ _ _ _)
      | (with_reducible exact ih10 _ _ _ _ _ _)
      | (with_reducible exact ih11 _ _ _ _ _ _ _ _)
      | (with_reducible exact ih12 _ _ _ _ _ _ _ _)
      | (with_reducible exact LeO.refl _)
      | (with_reducible exact LeO.none _)
      | (with_reducible refine LeO.ite ?_ ?_)
      | (with_reducible refine LeO.bind ?_ (fun _ => ?_))
      | exact ih0 _ _ _
      | exact ih1 _ _ _ _ _
      | exact ih2 _ _ _ _ _
      | exact ih3 _ _ _
      | exact ih4 _ _ _ _
      | exact ih5 _ _ _ _ _
      | exact ih6 _ _ _ _ _
      | exact ih7 _ _ _ _ _ _
      | exact ih8 _ _ _ _ _ _
      | exact ih9 _ _ _ _ _
      | exact ih10 _ _ _ _ _ _
      | exact ih11 _ _ _ _ _ _ _ _
      | exact ih12 _ _ _ _ _ _ _ _
      | exact LeO.none _
      | refine LeO.ite ?_ ?_
      | refine LeO.bind ?_ (fun _ => ?_)
    · intro y0 y1 y2
      unfold rtok.l1
      repeat' first
      | (with_reducible exact ih0 _ _ _)
      | (with_reducible exact ih1 _ _ _ _ _)
      | (with_reducible exact ih2 _ _ _ _ _)
      | (with_reducible exact ih3 _ _ _)
      | (with_reducible exact ih4 _ _ _ _)
      | (with_reducible exact ih5 _ _ _ _ _)
      | (with_reducible exact ih6 _ _ _ _ _)
      | (with_reducible exact ih7 _ _ _ _ _ _)
      | (with_reducible exact ih8 _ _ _ _ _ _)
      | (with_reducible exact ih9 _ _ _ _ _)
      | (with_reducible exact ih10 _ _ _ _ _ _)
      | (with_reducible exact ih11 _ _ _ _ _ _ _ _)
      | (with_reducible exact ih12 _ _ _ _ _ _ _ _)
      | (with_reducible exact LeO.refl _)
      | (with_reducible exact LeO.none _)
      | (with_reducible refine LeO.ite ?_ ?_)
      | (with_reducible refine LeO.bind ?_ (fun _ => ?_))
      | exact ih0 _ _ _
      | exact ih1 _ _ _ _ _
      | exact ih2 _ _ _ _ _
      | exact ih3 _ _ _
      | exact ih4 _ _ _ _
      | exact ih5 _ _ _ _ _
      | exact ih6 _ _ _ _ _
      | exact ih7 _ _ _ _ _ _
      | exact ih8 _ _ _ _ _ _
      | exact ih9 _ _ _ _ _
      | exact ih10 _ _ _ _ _ _
      | exact ih11 _ _ _ _ _ _ _ _
      | exact ih12 _ _ _ _ _ _ _ _
      | exact LeO.none _
      | refine LeO.ite ?_ ?_
      | refine LeO.bind ?_ (fun _ => ?_)
    · intro y0 y1 y2 y3
      unfold rtok.l2
      repeat' first
      | (with_reducible exact ih0 _ _ _)
      | (with_reducible exact ih1 _ _ _ _ _)
      | (with_reducible exact ih2 _ _ _ _ _)
      | (with_reducible exact ih3 _ _ _)
      | (with_reducible exact ih4 _ _ _ _)
      | (with_reducible exact ih5 _ _ _ _ _)
      | (with_reducible exact ih6 _ _ _ _ _)
      | (with_reducible exact ih7 _ _ _ _ _ _)
      | (with_reducible exact ih8 _ _ _ _ _ _)
      | (with_reducible exact ih9 _ _ _ _ _)
      | (with_reducible exact ih10 _ _ _ _ _ _)
      | (with_reducible exact ih11 _ _ _ _ _ _ _ _)
      | (with_reducible exact ih12 _ _ _ _ _ _ _ _)
      | (with_reducible exact LeO.refl _)
      | (with_reducible exact LeO.none _)
      | (with_reducible refine LeO.ite ?_ ?_)
      | (with_reducible refine LeO.bind ?_ (fun _ => ?_))
      | exact ih0 _ _ _
      | exact ih1 _ _ _ _ _
      | exact ih2 _ _ _ _ _
      | exact ih3 _ _ _
      | exact ih4 _ _ _ _
      | exact ih5 _ _ _ _ _
      | exact ih6 _ _ _ _ _
      | exact ih7 _ _ _ _ _ _
      | exact ih8 _ _ _ _ _ _
      | exact ih9 _ _ _ _ _
      | exact ih10 _ _ _ _ _ _
      | exact ih11 _ _ _ _ _ _ _ _
      | exact ih12 _ _ _ _ _ _ _ _
      | exact LeO.none _
      | refine LeO.ite ?_ ?_
      | refine LeO.bind ?_ (fun _ => ?_)
    · intro y0 y1 y2 y3 y4
      unfold rtok.j5
      repeat' first
      | (with_reducible exact ih0 _ _ _)
      | (with_reducible exact ih1 _ _ _ _ _)
      | (with_reducible exact ih2 _ _ _ _ _)
      | (with_reducible exact ih3 _ _ _)
      | (with_reducible exact ih4 _ _ _ _)
      | (with_reducible exact ih5 _ _ _ _ _)
      | (with_reducible exact ih6 _ _ _ _ _)
      | (with_reducible exact ih7 _ _ _ _ _ _)
      | (with_reducible exact ih8 _ _ _ _ _ _)
      | (with_reducible exact ih9 _ _ _ _ _)
      | (with_reducible exact ih10 _ _ _ _ _ _)
      | (with_reducible exact ih11 _ _ _ _ _ _ _ _)
      | (with_reducible exact ih12 _ _ _ _ _ _ _ _)
      | (with_reducible exact LeO.refl _)
      | (with_reducible exact LeO.none _)
      | (with_reducible refine LeO.ite ?_ ?_)
      | (with_reducible refine LeO.bind ?_ (fun _ => ?_))
      | exact ih0 _ _ _
      | exact ih1 _ _ _ _ _
      | exact ih2 _ _ _ _ _
      | exact ih3 _ _ _
      | exact ih4 _ _ _ _
      | exact ih5 _ _ _ _ _
      | exact ih6 _ _ _ _ _
      | exact ih7 _ _ _ _ _ _
      | exact ih8 _ _ _ _ _ _
      | exact ih9 _ _ _ _ _
      | exact ih10 _ _ _ _ _ _
      | exact ih11 _ _ _ _ _ _ _ _
      | exact ih12 _ _ _ _ _ _ _ _
      | exact LeO.none _
      | refine LeO.ite ?_ ?_
      | refine LeO.bind ?_ (fun _ => ?_)
    · intro y0 y1 y2 y3 y4
      unfold rtok.l3
      repeat' first
      | (with_reducible exact ih0 _ _ _)
      | (with_reducible exact ih1 _ _ _ _ _)
      | (with_reducible exact ih2 _ _ _ _ _)
      | (with_reducible exact ih3 _ _ _)
      | (with_reducible exact ih4 _ _ _ _)
      | (with_reducible exact ih5 _ _ _ _ _)
      | (with_reducible exact ih6 _ _ _ _ _)
      | (with_reducible exact ih7 _ _ _ _ _ _)
      | (with_reducible exact ih8 _ _ _ _ _ _)
      | (with_reducible exact ih9 _ _ _ _ _)
      | (with_reducible exact ih10 _ _ _ _ _ _)
      | (with_reducible exact ih11 _ _ _ _ _ _ _ _)
      | (with_reducible exact ih12 _ _ _ _ _ _ _ _)
      | (with_reducible exact LeO.refl _)
      | (with_reducible exact LeO.none _)
      | (with_reducible refine LeO.ite ?_ ?_)
      | (with_reducible refine LeO.bind ?_ (fun _ => ?_))
      | exact ih0 _ _ _
      | exact ih1 _ _ _ _ _
      | exact ih2 _ _ _ _ _
      | exact ih3 _ _ _
      | exact ih4 _ _ _ _
      | exact ih5 _ _ _ _ _
      | exact ih6 _ _ _ _ _
      | exact ih7 _ _ _ _ _ _
      | exact ih8 _ _ _ _ _ _
      | exact ih9 _ _ _ _ _
      | exact ih10 _ _ _ _ _ _
      | exact ih11 _ _ _ _ _ _ _ _
      | exact ih12 _ _ _ _ _ _ _ _
      | exact LeO.none _
      | refine LeO.ite ?_ ?_
      | refine LeO.bind ?_ (fun _ => ?_)
    · intro y0 y1 y2 y3 y4 y5
      unfold rtok.j7
      repeat' first
      | (with_reducible exact ih0 _ _ _)
      | (with_reducible exact ih1 _ _ _ _ _)
      | (with_reducible exact ih2 _ _ _ _ _)
      | (with_reducible exact ih3 _ _ _)
      | (with_reducible exact ih4 _ _ _ _)
      | (with_reducible exact ih5 _ _ _ _ _)
      | (with_reducible exact ih6 _ _ _ _ _)
      | (with_reducible exact ih7 _ _ _ _ _ _)
      | (with_reducible exact ih8 _ _ _ _ _ _)
      | (with_reducible exact ih9 _ _ _ _ _)
      | (with_reducible exact ih10 _ _ _ _ _ _)
      | (with_reducible exact ih11 _ _ _ _ _ _ _ _)
      | (with_reducible exact ih12 _ _ _ _ _ _ _ _)
      | (with_reducible exact LeO.refl _)
      | (with_reducible exact LeO.none _)
      | (with_reducible refine LeO.ite ?_ ?_)
      | (with_reducible refine LeO.bind ?_ (fun _ => ?_))
      | exact ih0 _ _ _
      | exact ih1 _ _ _ _ _
      | exact ih2 _ _ _ _ _
      | exact ih3 _ _ _
      | exact ih4 _ _ _ _
      | exact ih5 _ _ _ _ _
      | exact ih6 _ _ _ _ _
      | exact ih7 _ _ _ _ _ _
      | exact ih8 _ _ _ _ _ _
      | exact ih9 _ _ _ _ _
      | exact ih10 _ _ _ _ _ _
      | exact ih11 _ _ _ _ _ _ _ _
      | exact ih12 _ _ _ _ _ _ _ _
      | exact LeO.none _
      | refine LeO.ite ?_ ?_
      | refine LeO.bind ?_ (fun _ => ?_)
    · intro y0 y1 y2 y3 y4 y5
      unfold rtok.j8
      repeat' first
      | (with_reducible exact ih0 _ _ _)
      | (with_reducible exact ih1 _ _ _ _ _)
      | (with_reducible exact ih2 _ _ _ _ _)
      | (with_reducible exact ih3 _ _ _)
      | (with_reducible exact ih4 _ _ _ _)
      | (with_reducible exact ih5 _ _ _ _ _)
      | (with_reducible exact ih6 _ _ _ _ _)
      | (with_reducible exact ih7 _ _ _ _ _ _)
      | (with_reducible exact ih8 _ _ _ _ _ _)
      | (with_reducible exact ih9 _ _ _ _ _)
      | (with_reducible exact ih10 _ _ _ _ _ _)
      | (with_reducible exact ih11 _ _ _ _ _ _ _ _)
      | (with_reducible exact ih12 _ _ _ _ _ _ _ _)
      | (with_reducible exact LeO.refl _)
      | (with_reducible exact LeO.none _)
      | (with_reducible refine LeO.ite ?_ ?_)
      | (with_reducible refine LeO.bind ?_ (fun _ => ?_))
      | exact ih0 _ _ _
      | exact ih1 _ _ _ _ _
      | exact ih2 _ _ _ _ _
      | exact ih3 _ _ _
      | exact ih4 _ _ _ _
      | exact ih5 _ _ _ _ _
      | exact ih6 _ _ _ _ _
      | exact ih7 _ _ _ _ _ _
      | exact ih8 _ _ _ _ _ _
      | exact ih9 _ _ _ _ _
      | exact ih10 _ _ _ _ _ _
      | exact ih11 _ _ _ _ _ _ _ _
      | exact ih12 _ _ _ _ _ _ _ _
      | exact LeO.none _
      | refine LeO.ite ?_ ?_
      | refine LeO.bind ?_ (fun _ => ?_)
    · intro y0 y1 y2 y3 y4
      unfold rtok.l4
      repeat' first
      | (with_reducible exact ih0 _ _ _)
      | (with_reducible exact ih1 _ _ _ _ _)
      | (with_reducible exact ih2 _ _ _ _ _)
      | (with_reducible exact ih3 _ _ _)
      | (with_reducible exact ih4 _ _ _ _)
      | (with_reducible exact ih5 _ _ _ _ _)
      | (with_reducible exact ih6 _ _ _ _ _)
      | (with_reducible exact ih7 _ _ _ _ _ _)
      | (with_reducible exact ih8 _ _ _ _ _ _)
      | (with_reducible exact ih9 _ _ _ _ _)
      | (with_reducible exact ih10 _ _ _ _ _ _)
      | (with_reducible exact ih11 _ _ _ _ _ _ _ _)
      | (with_reducible exact ih12 _ _ _ _ _ _ _ _)
      | (with_reducible exact LeO.refl _)
      | (with_reducible exact LeO.none _)
      | (with_reducible refine LeO.ite ?_ ?_)
      | (with_reducible refine LeO.bind ?_ (fun _ => ?_))
      | exact ih0 _ _ _
      | exact ih1 _ _ _ _ _
      | exact ih2 _ _ _ _ _
      | exact ih3 _ _ _
      | exact ih4 _ _ _ _
      | exact ih5 _ _ _ _ _
      | exact ih6 _ _ _ _ _
      | exact ih7 _ _ _ _ _ _
      | exact ih8 _ _ _ _ _ _
      | exact ih9 _ _ _ _ _
      | exact ih10 _ _ _ _ _ _
      | exact ih11 _ _ _ _ _ _ _ _
      | exact ih12 _ _ _ _ _ _ _ _
      | exact LeO.none _
      | refine LeO.ite ?_ ?_
      | refine LeO.bind ?_ (fun _ => ?_)
    · intro y0 y1 y2 y3 y4 y5
      unfold rtok.j10
      repeat' first
      | (with_reducible exact ih0 _ _ _)
      | (with_reducible exact ih1 _ _ _ _ _)
      | (with_reducible exact ih2 _ _ _ _ _)
      | (with_reducible exact ih3 _ _ _)
      | (with_reducible exact ih4 _ _ _ _)
      | (with_reducible exact ih5 _ _ _ _ _)
      | (with_reducible exact ih6 _ _ _ _ _)
      | (with_reducible exact ih7 _ _ _ _ _ _)
      | (with_reducible exact ih8 _ _ _ _ _ _)
      | (with_reducible exact ih9 _ _ _ _ _)
      | (with_reducible exact ih10 _ _ _ _ _ _)
      | (with_reducible exact ih11 _ _ _ _ _ _ _ _)
      | (with_reducible exact ih12 _ _ _ _ _ _ _ _)
      | (with_reducible exact LeO.refl _)
      | (with_reducible exact LeO.none _)
      | (with_reducible refine LeO.ite ?_ ?_)
      | (with_reducible refine LeO.bind ?_ (fun _ => ?_))
      | exact ih0 _ _ _
      | exact ih1 _ _ _ _ _
      | exact ih2 _ _ _ _ _
      | exact ih3 _ _ _
      | exact ih4 _ _ _ _
      | exact ih5 _ _ _ _ _
      | exact ih6 _ _ _ _ _
      | exact ih7 _ _ _ _ _ _
      | exact ih8 _ _ _ _ _ _
      | exact ih9 _ _ _ _ _
      | exact ih10 _ _ _ _ _ _
      | exact ih11 _ _ _ _ _ _ _ _
      | exact ih12 _ _ _ _ _ _ _ _
      | exact LeO.none _
      | refine LeO.ite ?_ ?_
      | refine LeO.bind ?_ (fun _ => ?_)
    · intro y0 y1 y2 y3 y4 y5 y6 y7
      unfold rtok.l5
      repeat' first
      | (with_reducible exact ih0 _ _ _)
      | (with_reducible exact ih1 _ _ _ _ _)
      | (with_reducible exact ih2 _ _ _ _ _)
      | (with_reducible exact ih3 _ _ _)
      | (with_reducible exact ih4 _ _ _ _)
      | (with_reducible exact ih5 _ _ _ _ _)
      | (with_reducible exact ih6 _ _ _ _ _)
      | (with_reducible exact ih7 _ _ _ _ _ _)
      | (with_reducible exact ih8 _ _ _ _ _ _)
      | (with_reducible exact ih9 _ _ _ _ _)
      | (with_reducible exact ih10 _ _ _ _ _ _)
      | (with_reducible exact ih11 _ _ _ _ _ _ _ _)
      | (with_reducible exact ih12 _ _ _ _ _ _ _ _)
      | (with_reducible exact LeO.refl _)
      | (with_reducible exact LeO.none _)
      | (with_reducible refine LeO.ite ?_ ?_)
      | (with_reducible refine LeO.bind ?_ (fun _ => ?_))
      | exact ih0 _ _ _
      | exact ih1 _ _ _ _ _
      | exact ih2 _ _ _ _ _
      | exact ih3 _ _ _
      | exact ih4 _ _ _ _
      | exact ih5 _ _ _ _ _
      | exact ih6 _ _ _ _ _
      | exact ih7 _ _ _ _ _ _
      | exact ih8 _ _ _ _ _ _
      | exact ih9 _ _ _ _ _
      | exact ih10 _ _ _ _ _ _
      | exact ih11 _ _ _ _ _ _ _ _
      | exact ih12 _ _ _ _ _ _ _ _
      | exact LeO.none _
      | refine LeO.ite ?_ ?_
      | refine LeO.bind ?_ (fun _ => ?_)
    · intro y0 y1 y2 y3 y4 y5 y6 y7
      unfold rtok.l6
      repeat' first
      | (with_reducible exact ih0 _ _ _)
      | (with_reducible exact ih1 _ _ _ _ _)
      | (with_reducible exact ih2 _ _ _ _ _)
      | (with_reducible exact ih3 _ _ _)
      | (with_reducible exact ih4 _ _ _ _)
      | (with_reducible exact ih5 _ _ _ _ _)
      | (with_reducible exact ih6 _ _ _ _ _)
      | (with_reducible exact ih7 _ _ _ _ _ _)
      | (with_reducible exact ih8 _ _ _ _ _ _)
      | (with_reducible exact ih9 _ _ _ _ _)
      | (with_reducible exact ih10 _ _ _ _ _ _)
      | (with_reducible exact ih11 _ _ _ _ _ _ _ _)
      | (with_reducible exact ih12 _ _ _ _ _ _ _ _)
      | (with_reducible exact LeO.refl _)
      | (with_reducible exact LeO.none _)
      | (with_reducible refine LeO.ite ?_ ?_)
      | (with_reducible refine LeO.bind ?_ (fun _ => ?_))
      | exact ih0 _ _ _
      | exact ih1 _ _ _ _ _
      | exact ih2 _ _ _ _ _
      | exact ih3 _ _ _
      | exact ih4 _ _ _ _
      | exact ih5 _ _ _ _ _
      | exact ih6 _ _ _ _ _
      | exact ih7 _ _ _ _ _ _
      | exact ih8 _ _ _ _ _ _
      | exact ih9 _ _ _ _ _
      | exact ih10 _ _ _ _ _ _
      | exact ih11 _ _ _ _ _ _ _ _
      | exact ih12 _ _ _ _ _ _ _ _
      | exact LeO.none _
      | refine LeO.ite ?_ ?_
      | refine LeO.bind ?_ (fun _ => ?_)
theorem rtok.mono : ∀ a0 k, LeO (rtok.f k a0) (rtok.f (k + 1) a0) := by
  intro a0 k
  obtain ⟨ih0, ih1, ih2, ih3, ih4, ih5, ih6, ih7, ih8, ih9, ih10, ih11, ih12⟩ := rtok.mono_l k
  unfold rtok.f
  repeat' first
      | (with_reducible exact ih0 _ _ _)
      | (with_reducible exact ih1 _ _ _ _ _)
      | (with_reducible exact ih2 _ _ _ _ _)
      | (with_reducible exact ih3 _ _ _)
      | (with_reducible exact ih4 _ _ _ _)
      | (with_reducible exact ih5 _ _ _ _ _)
      | (with_reducible exact ih6 _ _ _ _ _)
      | (with_reducible exact ih7 _ _ _ _ _ _)
      | (with_reducible exact ih8 _ _ _ _ _ _)
      | (with_reducible exact ih9 _ _ _ _ _)
      | (with_reducible exact ih10 _ _ _ _ _ _)
      | (with_reducible exact ih11 _ _ _ _ _ _ _ _)
      | (with_reducible exact ih12 _ _ _ _ _ _ _ _)
      | (with_reducible exact LeO.refl _)
      | (with_reducible exact LeO.none _)
      | (with_reducible refine LeO.ite ?_ ?_)
      | (with_reducible refine LeO.bind ?_ (fun _ => ?_))
      | exact ih0 _ _ _
      | exact ih1 _ _ _ _ _
      | exact ih2 _ _ _ _ _
      | exact ih3 _ _ _
      | exact ih4 _ _ _ _
      | exact ih5 _ _ _ _ _
      | exact ih6 _ _ _ _ _
      | exact ih7 _ _ _ _ _ _
      | exact ih8 _ _ _ _ _ _
      | exact ih9 _ _ _ _ _
      | exact ih10 _ _ _ _ _ _
      | exact ih11 _ _ _ _ _ _ _ _
      | exact ih12 _ _ _ _ _ _ _ _
      | exact LeO.none _
      | refine LeO.ite ?_ ?_
      | refine LeO.bind ?_ (fun _ => ?_)
set_option maxHeartbeats 80000000 in
set_option maxRecDepth 100000 in
theorem rtok.calls (k : Nat) (a0 : ByteArray) (r1 : List (S32)) (r2 : Int) (w : World) (h : rtok.f k a0 = some (r1, r2)) :
    Calls Tryz.prog 17 #[.string a0] w fun e w' => ∃ v0_ : Value, e = .returned (.tuple #[v0_, .int .i64 r2]) ∧ Kd.R k32 32 w' w.heap.size (fun _ => True) v0_ r1 ∧ Below w.heap.size w w' := by
  have hu32 := Tryz.underlying32
  have HB := Aside0.mk (Below.refl w.heap.size w)
  have H : (if (a0.size : Int) > 4000 then (some (([] : List (S32)), 28)) else (rtok.l0 k a0 ([] : List (S32)) 0)) = some (r1, r2) := h
  clear h
  by_cases c2 : (a0.size : Int) > 4000
  · rw [if_pos c2] at H
    have c2b0 : decide (4000 < (a0.size : Int)) = true := decide_eq_true c2
    have c2b1 : decide (4000 < a0.size) = true := decide_eq_true (by omega)
    clear c2
    simp only [Option.some.injEq, Prod.mk.injEq] at H
    obtain ⟨rfl, rfl⟩ := H
    go_enter Tryz.func17, Tryz.ntmps17
    go_wp2
    go_ret2
    exact ⟨_, by first | rfl | (simp [errW_none, errW_some] <;> rfl) | (simp [*, errW_none, errW_some] <;> rfl), by first | exact Kd.R_nil _ _ _ _ _ | exact Kd.N_nil _ _ _ _ _ | exact Kd.V_nil _ _ _ _ _ | exact Kd.Q_nil _ _ _ _ _ | exact Kd.S_nil _ _ _ _ _, by repeat (first | (with_reducible first | exact HB.out | apply below_alloc | apply pw_below_drewN | apply below_drew1) | exact HB.out)⟩
  · rw [if_neg c2] at H
    have c2b0 : decide (4000 < (a0.size : Int)) = false := decide_eq_false c2
    have c2b1 : decide (4000 < a0.size) = false := decide_eq_false (by omega)
    clear c2
    have H' := Aside0.mk H
    clear H
    go_enter Tryz.func17, Tryz.ntmps17
    go_wp2
    go_loopg [4, 5] k (fun kq v4 v5 w' => ∃ (x4_1 : List (S32)) (x5_1 : Int), v5 = .int .i64 x5_1 ∧ Aside0 (rtok.l0 kq a0 x4_1 x5_1 = some (r1, r2)) ∧ Aside0 (kq ≤ k) ∧ Aside0 (Kd.R k32 32 w' w.heap.size (fun _ => True) v4 x4_1) ∧ Aside0 (Below w.heap.size w w'))
    case atStart => exact ⟨(([] : List (S32))), (0), (by first | rfl | (simp; done) | (simp [*]; done)), H', ⟨Nat.le_refl _⟩, ⟨by first | exact Kd.R_nil _ _ _ _ _ | exact Kd.N_nil _ _ _ _ _ | exact Kd.V_nil _ _ _ _ _ | exact Kd.Q_nil _ _ _ _ _ | exact Kd.S_nil _ _ _ _ _⟩, ⟨by repeat (first | (with_reducible first | exact HB.out | apply below_alloc | apply pw_below_drewN | apply below_drew1) | exact HB.out)⟩⟩
    case round => as_aux_lemma =>
      clear H'
      try clear c1
      try clear c2
      try clear c2b0
      try clear c2b1
      try clear p2
      obtain ⟨x4_1, x5_1, rfl, HA, HK1, HO_4, HB⟩ := hrel
      cases gk with
      | zero => exact absurd HA.out (by simp [rtok.l0])
      | succ k1 =>
        have H := HA.out
        clear HA
        simp only [rtok.l0] at H
        by_cases c3 : x5_1 < (a0.size : Int)
        · rw [if_pos c3] at H
          have c3b0 : decide (x5_1 < (a0.size : Int)) = true := decide_eq_true c3
          clear c3
          by_cases c4 : 0 ≤ x5_1
          · rw [if_pos c4] at H
            have c4b0 : decide (0 ≤ x5_1) = true := decide_eq_true c4
            clear c4
            have HC6 := Aside0.mk H
            clear H
            have p5 : 0 ≤ (x5_1 : Int) := of_decide_eq_true (by first | (with_reducible assumption) | assumption)
            have q5 : x5_1 < (a0.size : Int) := of_decide_eq_true (by first | (with_reducible assumption) | assumption)
            have hx5 := bt_at a0 x5_1
            replace p5 := eq_true p5
            replace q5 := eq_true q5
            go_upto_region 25 with (fail)
            go_cut [78] (fun v78 wc => ∃ (kq : Nat) (x78_5 : Bool), v78 = .bool x78_5 ∧ Aside0 (rtok.j1 kq a0 x4_1 x5_1 (bt a0 x5_1) x78_5 = some (r1, r2)) ∧ Aside0 (kq ≤ k1) ∧ Aside0 (Kd.R k32 32 wc w.heap.size (fun _ => True) u4 x4_1) ∧ Aside0 (Below w.heap.size w wc))
            case first => as_aux_lemma =>
              have H := HC6.out
              clear HC6
              by_cases c7 : (bt a0 x5_1) = 32
              · rw [if_pos c7] at H
                have c7b0 : ((bt a0 x5_1) == 32) = true := beq_iff_eq.mpr c7
                have c7b1 : ((bt a0 x5_1) != 32) = false := bne_eq_false_iff_eq.mpr c7
                clear c7
                (first | rw [c7b0] | (simp only [i64_w, i32_w]; rw [c7b0]) | skip)
                have H' := Aside0.mk H
                clear H
                go_wp2
                go_meet
                case rel => exact ⟨_, (true), (by first | rfl | (simp; done) | (simp [*]; done)), H', ⟨by have := HK1.out; first | omega | exact Nat.le_refl _⟩, ⟨by (with_reducible repeat (first | apply Kd.R_alloc | apply Kd.R_drewN | apply Kd.R_drew)); exact HO_4.out⟩, ⟨by repeat (first | (with_reducible first | exact HB.out | apply below_alloc | apply pw_below_drewN | apply below_drew1) | exact HB.out)⟩⟩
              · rw [if_neg c7] at H
                have c7b0 : ((bt a0 x5_1) == 32) = false := beq_eq_false_iff_ne.mpr c7
                have c7b1 : ((bt a0 x5_1) != 32) = true := bne_iff_ne.mpr c7
                (first | rw [c7b0] | (simp only [i64_w, i32_w]; rw [c7b0]) | skip)
                by_cases c8 : (bt a0 x5_1) = 9
                · rw [if_pos c8] at H
                  have c8b0 : ((bt a0 x5_1) == 9) = true := beq_iff_eq.mpr c8
                  have c8b1 : ((bt a0 x5_1) != 9) = false := bne_eq_false_iff_eq.mpr c8
                  clear c8
                  have H' := Aside0.mk H
                  clear H
                  go_wp2
                  go_meet
                  case rel => exact ⟨_, (true), (by first | rfl | (simp; done) | (simp [*]; done)), H', ⟨by have := HK1.out; first | omega | exact Nat.le_refl _⟩, ⟨by (with_reducible repeat (first | apply Kd.R_alloc | apply Kd.R_drewN | apply Kd.R_drew)); exact HO_4.out⟩, ⟨by repeat (first | (with_reducible first | exact HB.out | apply below_alloc | apply pw_below_drewN | apply below_drew1) | exact HB.out)⟩⟩
                · rw [if_neg c8] at H
                  have c8b0 : ((bt a0 x5_1) == 9) = false := beq_eq_false_iff_ne.mpr c8
                  have c8b1 : ((bt a0 x5_1) != 9) = true := bne_iff_ne.mpr c8
                  by_cases c9 : (bt a0 x5_1) = 10
                  · rw [if_pos c9] at H
                    have c9b0 : ((bt a0 x5_1) == 10) = true := beq_iff_eq.mpr c9
                    have c9b1 : ((bt a0 x5_1) != 10) = false := bne_eq_false_iff_eq.mpr c9
                    clear c9
                    have H' := Aside0.mk H
                    clear H
                    go_wp2
                    go_meet
                    case rel => exact ⟨_, (true), (by first | rfl | (simp; done) | (simp [*]; done)), H', ⟨by have := HK1.out; first | omega | exact Nat.le_refl _⟩, ⟨by (with_reducible repeat (first | apply Kd.R_alloc | apply Kd.R_drewN | apply Kd.R_drew)); exact HO_4.out⟩, ⟨by repeat (first | (with_reducible first | exact HB.out | apply below_alloc | apply pw_below_drewN | apply below_drew1) | exact HB.out)⟩⟩
                  · rw [if_neg c9] at H
                    have c9b0 : ((bt a0 x5_1) == 10) = false := beq_eq_false_iff_ne.mpr c9
                    have c9b1 : ((bt a0 x5_1) != 10) = true := bne_iff_ne.mpr c9
                    have H' := Aside0.mk H
                    clear H
                    go_wp2
                    go_meet
                    case rel => exact ⟨_, (((bt a0 x5_1) == 13)), (by first | rfl | (simp; done) | (simp [*]; done)), H', ⟨by have := HK1.out; first | omega | exact Nat.le_refl _⟩, ⟨by (with_reducible repeat (first | apply Kd.R_alloc | apply Kd.R_drewN | apply Kd.R_drew)); exact HO_4.out⟩, ⟨by repeat (first | (with_reducible first | exact HB.out | apply below_alloc | apply pw_below_drewN | apply below_drew1) | exact HB.out)⟩⟩
            case rest => as_aux_lemma =>
              clear HC6
              try clear c1
              try clear c2
              try clear c2b0
              try clear c2b1
              try clear p2
              try clear c3
              try clear c3b0
              try clear c4
              try clear c4b0
              try clear p5
              try clear q5
              try clear hx5
              try clear c7
              try clear c7b0
              try clear c7b1
              try clear c8
              try clear c8b0
              try clear c8b1
              try clear c9
              try clear c9b0
              try clear c9b1
              try clear p2
              try clear p5
              try clear q5
              obtain ⟨kq, x78_5, rfl, HA, HJ5, HO_4, HB⟩ := hcut
              cases kq with
              | zero => exact absurd HA.out (by simp [rtok.j1])
              | succ kj5 =>
                have H := HA.out
                clear HA
                simp only [rtok.j1] at H
                by_cases c10 : x78_5 = true
                · subst c10
                  have H1 : (rtok.l0 kj5 a0 x4_1 (wrap64 (x5_1 + 1))) = some (r1, r2) := by rw [if_pos rfl] at H; exact H
                  clear H
                  have H := H1
                  clear H1
                  have H' := Aside0.mk H
                  clear H
                  go_wp2
                  go_roundg kj5
                  case measure => have := HK1.out; have := HJ5.out; omega
                  case rel => exact ⟨(x4_1), (wrap64 (x5_1 + 1)), (by first | rfl | (simp; done) | (simp [*]; done)), H', ⟨by have := HK1.out; have := HJ5.out; omega⟩, ⟨by (with_reducible repeat (first | apply Kd.R_alloc | apply Kd.R_drewN | apply Kd.R_drew)); exact HO_4.out⟩, ⟨by repeat (first | (with_reducible first | exact HB.out | apply below_alloc | apply pw_below_drewN | apply below_drew1) | exact HB.out)⟩⟩
                · replace c10 := Bool.eq_false_iff.mpr c10
                  subst c10
                  have H1 : (if (bt a0 x5_1) = 45 then (if (wrap64 (x5_1 + 1)) < (a0.size : Int) then (if 0 ≤ (wrap64 (x5_1 + 1)) then (rtok.j2 kj5 a0 x4_1 x5_1 (bt a0 x5_1) ((bt a0 (wrap64 (x5_1 + 1))) == 45)) else (none)) else (rtok.j2 kj5 a0 x4_1 x5_1 (bt a0 x5_1) false)) else (rtok.j2 kj5 a0 x4_1 x5_1 (bt a0 x5_1) false)) = some (r1, r2) := by rw [if_neg (show ¬ (false = true) by decide)] at H; exact H
                  clear H
                  have H := H1
                  clear H1
                  have HC11 := Aside0.mk H
                  clear H
                  go_upto_region 27 with (fail)
                  go_cut [95] (fun v95 wc => ∃ (kq : Nat) (x95_10 : Bool), v95 = .bool x95_10 ∧ Aside0 (rtok.j2 kq a0 x4_1 x5_1 (bt a0 x5_1) x95_10 = some (r1, r2)) ∧ Aside0 (kq ≤ kj5) ∧ Aside0 (Kd.R k32 32 wc w.heap.size (fun _ => True) u4 x4_1) ∧ Aside0 (Below w.heap.size w wc))
                  case first => as_aux_lemma =>
                    have H := HC11.out
                    clear HC11
                    by_cases c12 : (bt a0 x5_1) = 45
                    · rw [if_pos c12] at H
                      have c12b0 : ((bt a0 x5_1) == 45) = true := beq_iff_eq.mpr c12
                      have c12b1 : ((bt a0 x5_1) != 45) = false := bne_eq_false_iff_eq.mpr c12
                      clear c12
                      (first | rw [c12b0] | (simp only [i64_w, i32_w]; rw [c12b0]) | skip)
                      by_cases c13 : (wrap64 (x5_1 + 1)) < (a0.size : Int)
                      · rw [if_pos c13] at H
                        have c13b0 : decide ((wrap64 (x5_1 + 1)) < (a0.size : Int)) = true := decide_eq_true c13
                        clear c13
                        obtain ⟨ji14, hji14⟩ : ∃ j_ : Int, (wrap64 (x5_1 + 1)) = j_ := ⟨_, rfl⟩
                        replace H : (if 0 ≤ (ji14) then (rtok.j2 kj5 a0 x4_1 x5_1 (bt a0 x5_1) ((bt a0 (ji14)) == 45)) else (none)) = some (r1, r2) := by first | (rw [hji14] at H; exact H) | (simp only [hji14] at H ⊢; exact H)
                        (try rw [hji14] at c13b0)
                        have hji14w : (IntKind.i64.wrap (x5_1 + 1)) = ji14 := (i64_w _).trans hji14
                        by_cases c15 : 0 ≤ (ji14)
                        · rw [if_pos c15] at H
                          have c15b0 : decide (0 ≤ (ji14)) = true := decide_eq_true c15
                          clear c15
                          have H' := Aside0.mk H
                          clear H
                          have p16 : 0 ≤ ((ji14) : Int) := of_decide_eq_true (by first | (with_reducible assumption) | assumption)
                          have q16 : (ji14) < (a0.size : Int) := of_decide_eq_true (by first | (with_reducible assumption) | assumption)
                          have hx16 := bt_at a0 (ji14)
                          replace p16 := eq_true p16
                          replace q16 := eq_true q16
                          go_wp2
                          go_meet
                          case rel => exact ⟨_, (((bt a0 (ji14)) == 45)), (by first | rfl | (simp; done) | (simp only [← hji14] <;> (first | rfl | simp)) | (simp [*]; done)), H', ⟨by have := HK1.out; have := HJ5.out; first | omega | exact Nat.le_refl _⟩, ⟨by (with_reducible repeat (first | apply Kd.R_alloc | apply Kd.R_drewN | apply Kd.R_drew)); exact HO_4.out⟩, ⟨by repeat (first | (with_reducible first | exact HB.out | apply below_alloc | apply pw_below_drewN | apply below_drew1) | exact HB.out)⟩⟩
                        · rw [if_neg c15] at H
                          exact absurd H (by simp)
                      · rw [if_neg c13] at H
                        have c13b0 : decide ((wrap64 (x5_1 + 1)) < (a0.size : Int)) = false := decide_eq_false c13
                        clear c13
                        have H' := Aside0.mk H
                        clear H
                        go_wp2
                        go_meet
                        case rel => exact ⟨_, (false), (by first | rfl | (simp; done) | (simp [*]; done)), H', ⟨by have := HK1.out; have := HJ5.out; first | omega | exact Nat.le_refl _⟩, ⟨by (with_reducible repeat (first | apply Kd.R_alloc | apply Kd.R_drewN | apply Kd.R_drew)); exact HO_4.out⟩, ⟨by repeat (first | (with_reducible first | exact HB.out | apply below_alloc | apply pw_below_drewN | apply below_drew1) | exact HB.out)⟩⟩
                    · rw [if_neg c12] at H
                      have c12b0 : ((bt a0 x5_1) == 45) = false := beq_eq_false_iff_ne.mpr c12
                      have c12b1 : ((bt a0 x5_1) != 45) = true := bne_iff_ne.mpr c12
                      (first | rw [c12b0] | (simp only [i64_w, i32_w]; rw [c12b0]) | skip)
                      have H' := Aside0.mk H
                      clear H
                      go_wp2
                      go_meet
                      case rel => exact ⟨_, (false), (by first | rfl | (simp; done) | (simp [*]; done)), H', ⟨by have := HK1.out; have := HJ5.out; first | omega | exact Nat.le_refl _⟩, ⟨by (with_reducible repeat (first | apply Kd.R_alloc | apply Kd.R_drewN | apply Kd.R_drew)); exact HO_4.out⟩, ⟨by repeat (first | (with_reducible first | exact HB.out | apply below_alloc | apply pw_below_drewN | apply below_drew1) | exact HB.out)⟩⟩
                  case rest => as_aux_lemma =>
                    clear HC11
                    try clear c1
                    try clear p1
                    try clear q1
                    try clear hx1
                    try clear c2
                    try clear c2b0
                    try clear c2b1
                    try clear p2
                    try clear c3
                    try clear c3b0
                    try clear c4
                    try clear c4b0
                    try clear p5
                    try clear q5
                    try clear hx5
                    try clear p6
                    try clear c7
                    try clear c7b0
                    try clear c7b1
                    try clear c8
                    try clear c8b0
                    try clear c8b1
                    try clear c9
                    try clear c9b0
                    try clear c9b1
                    try clear c10
                    try clear c12
                    try clear c12b0
                    try clear c12b1
                    try clear c13
                    try clear c13b0
                    try clear c15
                    try clear c15b0
                    try clear p16
                    try clear q16
                    try clear hx16
                    try clear p16
                    try clear p2
                    try clear p5
                    try clear q16
                    try clear q5
                    obtain ⟨kq, x95_10, rfl, HA, HJ10, HO_4, HB⟩ := hcut
                    cases kq with
                    | zero => exact absurd HA.out (by simp [rtok.j2])
                    | succ kj10 =>
                      have H := HA.out
                      clear HA
                      simp only [rtok.j2] at H
                      by_cases c17 : x95_10 = true
                      · subst c17
                        have H1 : (rtok.l1 kj10 a0 x4_1 x5_1) = some (r1, r2) := by rw [if_pos rfl] at H; exact H
                        clear H
                        have H := H1
                        clear H1
                        have H' := Aside0.mk H
                        clear H
                        go_wp2
                        go_loopg [5] kj10 (fun kq v5 w' => ∃ (x5_4 : Int), v5 = .int .i64 x5_4 ∧ Aside0 (rtok.l1 kq a0 x4_1 x5_4 = some (r1, r2)) ∧ Aside0 (kq ≤ kj10) ∧ Aside0 (Kd.R k32 32 w' w.heap.size (fun _ => True) u4 x4_1) ∧ Aside0 (Below w.heap.size w w'))
                        case atStart => exact ⟨(x5_1), (by first | rfl | (simp; done) | (simp [*]; done)), H', ⟨Nat.le_refl _⟩, ⟨by (with_reducible repeat (first | apply Kd.R_alloc | apply Kd.R_drewN | apply Kd.R_drew)); exact HO_4.out⟩, ⟨by repeat (first | (with_reducible first | exact HB.out | apply below_alloc | apply pw_below_drewN | apply below_drew1) | exact HB.out)⟩⟩
                        case round => as_aux_lemma =>
                          clear H'
                          try clear c1
                          try clear p1
                          try clear q1
                          try clear hx1
                          try clear c2
                          try clear c2b0
                          try clear c2b1
                          try clear p2
                          try clear c3
                          try clear c3b0
                          try clear c4
                          try clear c4b0
                          try clear p5
                          try clear q5
                          try clear hx5
                          try clear p6
                          try clear c7
                          try clear c7b0
                          try clear c7b1
                          try clear c8
                          try clear c8b0
                          try clear c8b1
                          try clear c9
                          try clear c9b0
                          try clear c9b1
                          try clear c10
                          try clear c12
                          try clear c12b0
                          try clear c12b1
                          try clear c13
                          try clear c13b0
                          try clear c15
                          try clear c15b0
                          try clear p16
                          try clear q16
                          try clear hx16
                          try clear c17
                          try clear p1
                          try clear p16
                          try clear p2
                          try clear p5
                          try clear p6
                          try clear q1
                          try clear q16
                          try clear q5
                          obtain ⟨x5_4, rfl, HA, HK4, HO_4, HB⟩ := hrel
                          cases gk with
                          | zero => exact absurd HA.out (by simp [rtok.l1])
                          | succ k4 =>
                            have H := HA.out
                            clear HA
                            simp only [rtok.l1] at H
                            by_cases c18 : x5_4 < (a0.size : Int)
                            · rw [if_pos c18] at H
                              have c18b0 : decide (x5_4 < (a0.size : Int)) = true := decide_eq_true c18
                              clear c18
                              by_cases c19 : 0 ≤ x5_4
                              · rw [if_pos c19] at H
                                have c19b0 : decide (0 ≤ x5_4) = true := decide_eq_true c19
                                clear c19
                                by_cases c21 : (bt a0 x5_4) = 10
                                · rw [if_pos c21] at H
                                  have c21b0 : ((bt a0 x5_4) == 10) = true := beq_iff_eq.mpr c21
                                  have c21b1 : ((bt a0 x5_4) != 10) = false := bne_eq_false_iff_eq.mpr c21
                                  clear c21
                                  have H' := Aside0.mk H
                                  clear H
                                  have p20 : 0 ≤ (x5_4 : Int) := of_decide_eq_true (by first | (with_reducible assumption) | assumption)
                                  have q20 : x5_4 < (a0.size : Int) := of_decide_eq_true (by first | (with_reducible assumption) | assumption)
                                  have hx20 := bt_at a0 x5_4
                                  replace p20 := eq_true p20
                                  replace q20 := eq_true q20
                                  go_wp2
                                  go_roundg k4
                                  case measure => have := HK1.out; have := HJ5.out; have := HJ10.out; have := HK4.out; omega
                                  case rel => exact ⟨(x4_1), (x5_4), (by first | rfl | (simp; done) | (simp [*]; done)), H', ⟨by have := HK1.out; have := HJ5.out; have := HJ10.out; have := HK4.out; omega⟩, ⟨by (with_reducible repeat (first | apply Kd.R_alloc | apply Kd.R_drewN | apply Kd.R_drew)); exact HO_4.out⟩, ⟨by repeat (first | (with_reducible first | exact HB.out | apply below_alloc | apply pw_below_drewN | apply below_drew1) | exact HB.out)⟩⟩
                                · rw [if_neg c21] at H
                                  have c21b0 : ((bt a0 x5_4) == 10) = false := beq_eq_false_iff_ne.mpr c21
                                  have c21b1 : ((bt a0 x5_4) != 10) = true := bne_iff_ne.mpr c21
                                  have H' := Aside0.mk H
                                  clear H
                                  have p20 : 0 ≤ (x5_4 : Int) := of_decide_eq_true (by first | (with_reducible assumption) | assumption)
                                  have q20 : x5_4 < (a0.size : Int) := of_decide_eq_true (by first | (with_reducible assumption) | assumption)
                                  have hx20 := bt_at a0 x5_4
                                  replace p20 := eq_true p20
                                  replace q20 := eq_true q20
                                  go_wp2
                                  go_roundg k4
                                  case measure => have := HK1.out; have := HJ5.out; have := HJ10.out; have := HK4.out; omega
                                  case rel => exact ⟨(wrap64 (x5_4 + 1)), (by first | rfl | (simp; done) | (simp [*]; done)), H', ⟨by have := HK1.out; have := HJ5.out; have := HJ10.out; have := HK4.out; omega⟩, ⟨by (with_reducible repeat (first | apply Kd.R_alloc | apply Kd.R_drewN | apply Kd.R_drew)); exact HO_4.out⟩, ⟨by repeat (first | (with_reducible first | exact HB.out | apply below_alloc | apply pw_below_drewN | apply below_drew1) | exact HB.out)⟩⟩
                              · rw [if_neg c19] at H
                                exact absurd H (by simp)
                            · rw [if_neg c18] at H
                              have c18b0 : decide (x5_4 < (a0.size : Int)) = false := decide_eq_false c18
                              clear c18
                              have H' := Aside0.mk H
                              clear H
                              go_wp2
                              go_roundg k4
                              case measure => have := HK1.out; have := HJ5.out; have := HJ10.out; have := HK4.out; omega
                              case rel => exact ⟨(x4_1), (x5_4), (by first | rfl | (simp; done) | (simp [*]; done)), H', ⟨by have := HK1.out; have := HJ5.out; have := HJ10.out; have := HK4.out; omega⟩, ⟨by (with_reducible repeat (first | apply Kd.R_alloc | apply Kd.R_drewN | apply Kd.R_drew)); exact HO_4.out⟩, ⟨by repeat (first | (with_reducible first | exact HB.out | apply below_alloc | apply pw_below_drewN | apply below_drew1) | exact HB.out)⟩⟩
                      · replace c17 := Bool.eq_false_iff.mpr c17
                        subst c17
                        have H1 : ((vidimusref16_letter.f (bt a0 x5_1)).bind fun t118 => (if t118 = true then (rtok.l2 kj10 a0 x4_1 x5_1 (⟨#[]⟩ : ByteArray)) else ((vidimusref16_digit.f (bt a0 x5_1)).bind fun t132 => (if t132 = true then (rtok.l3 kj10 a0 x4_1 x5_1 0 false) else (if (bt a0 x5_1) = 39 then (rtok.l4 kj10 a0 x4_1 (wrap64 (x5_1 + 1)) (⟨#[]⟩ : ByteArray) false) else ((some (([(⟨#[60, 61]⟩ : ByteArray), (⟨#[62, 61]⟩ : ByteArray), (⟨#[60, 62]⟩ : ByteArray), (⟨#[124, 124]⟩ : ByteArray)] : List ByteArray) : List ByteArray)).bind fun y141 => (rtok.l5 kj10 a0 x4_1 x5_1 (bt a0 x5_1) 0 y141 (y141.length : Int) 0))))))) = some (r1, r2) := by rw [if_neg (show ¬ (false = true) by decide)] at H; exact H
                        clear H
                        have H := H1
                        clear H1
                        replace H := Option.bind_eq_some_iff.mp H
                        obtain ⟨t118, A220, H⟩ := H
                        replace H : (if t118 = true then (rtok.l2 kj10 a0 x4_1 x5_1 (⟨#[]⟩ : ByteArray)) else ((vidimusref16_digit.f (bt a0 x5_1)).bind fun t132 => (if t132 = true then (rtok.l3 kj10 a0 x4_1 x5_1 0 false) else (if (bt a0 x5_1) = 39 then (rtok.l4 kj10 a0 x4_1 (wrap64 (x5_1 + 1)) (⟨#[]⟩ : ByteArray) false) else ((some (([(⟨#[60, 61]⟩ : ByteArray), (⟨#[62, 61]⟩ : ByteArray), (⟨#[60, 62]⟩ : ByteArray), (⟨#[124, 124]⟩ : ByteArray)] : List ByteArray) : List ByteArray)).bind fun y141 => (rtok.l5 kj10 a0 x4_1 x5_1 (bt a0 x5_1) 0 y141 (y141.length : Int) 0)))))) = some (r1, r2) := H
                        have A22 := Aside0.mk A220
                        clear A220
                        by_cases c23 : t118 = true
                        · subst c23
                          have H1 : (rtok.l2 kj10 a0 x4_1 x5_1 (⟨#[]⟩ : ByteArray)) = some (r1, r2) := by rw [if_pos rfl] at H; exact H
                          clear H
                          have H := H1
                          clear H1
                          have H' := Aside0.mk H
                          clear H
                          go_wp2_with (first | ((with_reducible refine gate_callee (f := 61) rfl ?_); refine goesL_ (some 126) rfl rfl Tryz.func61 (by kernel_rfl) rfl #[.int .u8 (bt a0 x5_1)] rfl (by (try simp only [List.map_toArray, List.map_cons, List.map_nil]); first | done | rfl | (simp only [List.length_drop, List.length_take]; rfl)) ?_; (with_reducible refine (vidimusref16_letter.calls (bt a0 x5_1) true _ A22.out).mono ?_); rintro e w' ⟨rfl, ⟨nd, rfl⟩⟩; refine ⟨_, rfl, ?_⟩))
                          go_loopg [5, 7] kj10 (fun kq v5 v7 w' => ∃ (x5_4 : Int) (x7_4 : ByteArray), v5 = .int .i64 x5_4 ∧ v7 = .string x7_4 ∧ Aside0 (rtok.l2 kq a0 x4_1 x5_4 x7_4 = some (r1, r2)) ∧ Aside0 (kq ≤ kj10) ∧ Aside0 (Kd.R k32 32 w' w.heap.size (fun _ => True) u4 x4_1) ∧ Aside0 (Below w.heap.size w w'))
                          case atStart => exact ⟨(x5_1), ((⟨#[]⟩ : ByteArray)), (by first | rfl | (simp; done) | (simp [*]; done)), (by first | rfl | (simp; done) | (simp [*]; done)), H', ⟨Nat.le_refl _⟩, ⟨by (with_reducible repeat (first | apply Kd.R_alloc | apply Kd.R_drewN | apply Kd.R_drew)); exact HO_4.out⟩, ⟨by repeat (first | (with_reducible first | exact HB.out | apply below_alloc | apply pw_below_drewN | apply below_drew1) | exact HB.out)⟩⟩
                          case round => as_aux_lemma =>
                            clear H'
                            try clear c1
                            try clear p1
                            try clear q1
                            try clear hx1
                            try clear c2
                            try clear c2b0
                            try clear c2b1
                            try clear p2
                            try clear q2
                            try clear hx2
                            try clear c3
                            try clear c3b0
                            try clear c4
                            try clear c4b0
                            try clear p5
                            try clear q5
                            try clear hx5
                            try clear c6
                            try clear p6
                            try clear c7
                            try clear c7b0
                            try clear c7b1
                            try clear c8
                            try clear c8b0
                            try clear c8b1
                            try clear c9
                            try clear c9b0
                            try clear c9b1
                            try clear c10
                            try clear c12
                            try clear c12b0
                            try clear c12b1
                            try clear c13
                            try clear c13b0
                            try clear c15
                            try clear c15b0
                            try clear p16
                            try clear q16
                            try clear hx16
                            try clear c17
                            try clear c18
                            try clear c18b0
                            try clear c19
                            try clear c19b0
                            try clear p20
                            try clear q20
                            try clear hx20
                            try clear c21
                            try clear c21b0
                            try clear c21b1
                            try clear c23
                            try clear p1
                            try clear p16
                            try clear p2
                            try clear p20
                            try clear p5
                            try clear p6
                            try clear q1
                            try clear q16
                            try clear q20
                            try clear q5
                            obtain ⟨x5_4, x7_4, rfl, rfl, HA, HK4, HO_4, HB⟩ := hrel
                            cases gk with
                            | zero => exact absurd HA.out (by simp [rtok.l2])
                            | succ k4 =>
                              have H := HA.out
                              clear HA
                              simp only [rtok.l2] at H
                              have HC24 := Aside0.mk H
                              clear H
                              go_upto_region 32 with (fail)
                              go_cut [136] (fun v136 wc => ∃ (kq : Nat) (x136_23 : Bool), v136 = .bool x136_23 ∧ Aside0 (rtok.j5 kq a0 x4_1 x5_4 x7_4 x136_23 = some (r1, r2)) ∧ Aside0 (kq ≤ k4) ∧ Aside0 (Kd.R k32 32 wc w.heap.size (fun _ => True) u4 x4_1) ∧ Aside0 (Below w.heap.size w wc))
                              case first => as_aux_lemma =>
                                have H := HC24.out
                                clear HC24
                                by_cases c25 : x5_4 < (a0.size : Int)
                                · rw [if_pos c25] at H
                                  have c25b0 : decide (x5_4 < (a0.size : Int)) = true := decide_eq_true c25
                                  clear c25
                                  (first | rw [c25b0] | (simp only [i64_w, i32_w]; rw [c25b0]) | skip)
                                  by_cases c26 : 0 ≤ x5_4
                                  · rw [if_pos c26] at H
                                    have c26b0 : decide (0 ≤ x5_4) = true := decide_eq_true c26
                                    clear c26
                                    replace H := Option.bind_eq_some_iff.mp H
                                    obtain ⟨t119, A280, H⟩ := H
                                    replace H : (rtok.j5 k4 a0 x4_1 x5_4 x7_4 t119) = some (r1, r2) := H
                                    have A28 := Aside0.mk A280
                                    clear A280
                                    have H' := Aside0.mk H
                                    clear H
                                    have p27 : 0 ≤ (x5_4 : Int) := of_decide_eq_true (by first | (with_reducible assumption) | assumption)
                                    have q27 : x5_4 < (a0.size : Int) := of_decide_eq_true (by first | (with_reducible assumption) | assumption)
                                    have hx27 := bt_at a0 x5_4
                                    replace p27 := eq_true p27
                                    replace q27 := eq_true q27
                                    go_wp2_with (first | (go_at_call 62; (with_reducible refine (vidimusref16_part.calls (bt a0 x5_4) t119 _ A28.out).mono ?_); rintro e w' ⟨rfl, ⟨nd, rfl⟩⟩))
                                    go_meet
                                    case rel => exact ⟨_, (t119), (by first | rfl | (simp; done) | (simp [*]; done)), H', ⟨by have := HK1.out; have := HJ5.out; have := HJ10.out; have := HK4.out; first | omega | exact Nat.le_refl _⟩, ⟨by (with_reducible repeat (first | apply Kd.R_alloc | apply Kd.R_drewN | apply Kd.R_drew)); exact HO_4.out⟩, ⟨by repeat (first | (with_reducible first | exact HB.out | apply below_alloc | apply pw_below_drewN | apply below_drew1) | exact HB.out)⟩⟩
                                  · rw [if_neg c26] at H
                                    exact absurd H (by simp)
                                · rw [if_neg c25] at H
                                  have c25b0 : decide (x5_4 < (a0.size : Int)) = false := decide_eq_false c25
                                  clear c25
                                  (first | rw [c25b0] | (simp only [i64_w, i32_w]; rw [c25b0]) | skip)
                                  have H' := Aside0.mk H
                                  clear H
                                  go_wp2
                                  go_meet
                                  case rel => exact ⟨_, (false), (by first | rfl | (simp; done) | (simp [*]; done)), H', ⟨by have := HK1.out; have := HJ5.out; have := HJ10.out; have := HK4.out; first | omega | exact Nat.le_refl _⟩, ⟨by (with_reducible repeat (first | apply Kd.R_alloc | apply Kd.R_drewN | apply Kd.R_drew)); exact HO_4.out⟩, ⟨by repeat (first | (with_reducible first | exact HB.out | apply below_alloc | apply pw_below_drewN | apply below_drew1) | exact HB.out)⟩⟩
                              case rest => as_aux_lemma =>
                                clear HC24
                                try clear c1
                                try clear p1
                                try clear q1
                                try clear hx1
                                try clear c2
                                try clear c2b0
                                try clear c2b1
                                try clear p2
                                try clear q2
                                try clear hx2
                                try clear c3
                                try clear c3b0
                                try clear c4
                                try clear c4b0
                                try clear p5
                                try clear q5
                                try clear hx5
                                try clear c6
                                try clear p6
                                try clear c7
                                try clear c7b0
                                try clear c7b1
                                try clear c8
                                try clear c8b0
                                try clear c8b1
                                try clear c9
                                try clear c9b0
                                try clear c9b1
                                try clear c10
                                try clear c12
                                try clear c12b0
                                try clear c12b1
                                try clear c13
                                try clear c13b0
                                try clear c15
                                try clear c15b0
                                try clear p16
                                try clear q16
                                try clear hx16
                                try clear c17
                                try clear c18
                                try clear c18b0
                                try clear c19
                                try clear c19b0
                                try clear p20
                                try clear q20
                                try clear hx20
                                try clear c21
                                try clear c21b0
                                try clear c21b1
                                try clear c23
                                try clear c25
                                try clear c25b0
                                try clear c26
                                try clear c26b0
                                try clear p27
                                try clear q27
                                try clear hx27
                                try clear p1
                                try clear p16
                                try clear p2
                                try clear p20
                                try clear p27
                                try clear p5
                                try clear p6
                                try clear q1
                                try clear q16
                                try clear q2
                                try clear q20
                                try clear q27
                                try clear q5
                                obtain ⟨kq, x136_23, rfl, HA, HJ23, HO_4, HB⟩ := hcut
                                cases kq with
                                | zero => exact absurd HA.out (by simp [rtok.j5])
                                | succ kj23 =>
                                  have H := HA.out
                                  clear HA
                                  simp only [rtok.j5] at H
                                  by_cases c29 : x136_23 = true
                                  · subst c29
                                    have H1 : (if 0 ≤ x5_4 then (if x5_4 < (a0.size : Int) then (if (bt a0 x5_4) ≥ 65 then (if (bt a0 x5_4) ≤ 90 then ((some (([((bt a0 x5_4) + 32) % 256] : List Int) : List Int)).bind fun y120 => (if x7_4.size + (strOfNums y120).size ≤ 9223372036854775807 then (rtok.l2 kj23 a0 x4_1 (wrap64 (x5_4 + 1)) (x7_4 ++ (strOfNums y120))) else (none))) else ((some (([bt a0 x5_4] : List Int) : List Int)).bind fun y123 => (if x7_4.size + (strOfNums y123).size ≤ 9223372036854775807 then (rtok.l2 kj23 a0 x4_1 (wrap64 (x5_4 + 1)) (x7_4 ++ (strOfNums y123))) else (none)))) else ((some (([bt a0 x5_4] : List Int) : List Int)).bind fun y126 => (if x7_4.size + (strOfNums y126).size ≤ 9223372036854775807 then (rtok.l2 kj23 a0 x4_1 (wrap64 (x5_4 + 1)) (x7_4 ++ (strOfNums y126))) else (none)))) else (none)) else (none)) = some (r1, r2) := by rw [if_pos rfl] at H; exact H
                                    clear H
                                    have H := H1
                                    clear H1
                                    by_cases c30 : 0 ≤ x5_4
                                    · rw [if_pos c30] at H
                                      have c30b0 : decide (0 ≤ x5_4) = true := decide_eq_true c30
                                      clear c30
                                      by_cases c31 : x5_4 < (a0.size : Int)
                                      · rw [if_pos c31] at H
                                        have c31b0 : decide (x5_4 < (a0.size : Int)) = true := decide_eq_true c31
                                        clear c31
                                        by_cases c33 : (bt a0 x5_4) ≥ 65
                                        · rw [if_pos c33] at H
                                          have c33b0 : decide (65 ≤ (bt a0 x5_4)) = true := decide_eq_true c33
                                          clear c33
                                          by_cases c34 : (bt a0 x5_4) ≤ 90
                                          · rw [if_pos c34] at H
                                            have c34b0 : decide ((bt a0 x5_4) ≤ 90) = true := decide_eq_true c34
                                            clear c34
                                            obtain ⟨y120, hy120⟩ : ∃ y_ : List Int, y_ = (([((bt a0 x5_4) + 32) % 256] : List Int)) := ⟨_, rfl⟩
                                            replace H : (if x7_4.size + (strOfNums y120).size ≤ 9223372036854775807 then (rtok.l2 kj23 a0 x4_1 (wrap64 (x5_4 + 1)) (x7_4 ++ (strOfNums y120))) else (none)) = some (r1, r2) := by first | (rw [hy120]; with_reducible exact H) | (have H2_ := (Option.bind_some _ _).symm.trans H; rw [hy120]; with_reducible exact H2_) | (have H2_ := (Option.bind_some _ _).symm.trans H; with_reducible exact H2_) | with_reducible exact H | (rw [hy120]; exact H) | exact H
                                            have Ny120 := Aside0.mk hy120
                                            clear hy120
                                            by_cases c35 : x7_4.size + (strOfNums y120).size ≤ 9223372036854775807
                                            · rw [if_pos c35] at H
                                              have c35b0 := eq_true c35
                                              have c35b1 : decide (x7_4.size + (strOfNums y120).size ≤ 9223372036854775807) = true := decide_eq_true c35
                                              try have c35b2 : (9223372036854775807 < x7_4.size + (strOfNums y120).size) = False := eq_false (Nat.not_lt.2 c35)
                                              have H' := Aside0.mk H
                                              clear H
                                              have p32 : 0 ≤ (x5_4 : Int) := of_decide_eq_true (by first | (with_reducible assumption) | assumption)
                                              have q32 : x5_4 < (a0.size : Int) := of_decide_eq_true (by first | (with_reducible assumption) | assumption)
                                              have hx32 := bt_at a0 x5_4
                                              replace p32 := eq_true p32
                                              replace q32 := eq_true q32
                                              go_wp2_with (first | ((with_reducible refine gate_dst (N := 150) rfl ?_); (try (refine gate_guard (by rfl) ?_; dsimp only)); refine Kd.R_lit (Kd.int .u8) _ 5 ?hg (N := 150) ?hd (xs := ([((bt a0 x5_4) + 32) % 256] : List Int)) (inner := [.int .u8 (((bt a0 x5_4) + 32) % 256)]) (ok := fun _ => True) (okp := fun _ => True) ?hr ?hp (fun _ hk => hk) trivial (Below.refl _ _) (Nat.le_refl _) (by simp) ?_; (case hd => rfl); (case hg => rfl); (case hr => first | (go_simp; done) | (go_simp; rfl)); (case hp => exact (Reps.one (show Kd.M (Kd.int .u8) _ _ _ (((bt a0 x5_4) + 32) % 256) [.int .u8 (((bt a0 x5_4) + 32) % 256)] from rfl) (Reps.none _ _))); intro v121 w36 ho37 hb hg_ hnew_; clear hg_ hnew_; (first | rw [← Ny120.out] at ho37 | (simp only [Int.reduceToNat] at ho37; rw [← Ny120.out] at ho37)); have n0_ := Aside0.mk (Kd.R_below (by (with_reducible repeat (first | apply Kd.R_alloc | apply Kd.R_drewN | apply Kd.R_drew)); exact HO_4.out) hb); have n1_ := Aside0.mk (Kd.R_lower ho37 (below_size (by repeat (first | (with_reducible first | exact HB.out | apply below_alloc | apply pw_below_drewN | apply below_drew1) | exact HB.out)))); have n2_ := Aside0.mk (below_step (by repeat (first | (with_reducible first | exact HB.out | apply below_alloc | apply pw_below_drewN | apply below_drew1) | exact HB.out)) hb); clear HO_4; clear HB; have HO_4 := n0_; have HO122 := n1_; have HB := n2_; clear n0_ n1_ n2_; clear hb ho37; have hcv38 := own_string (P := Tryz.prog) Tryz.underlying36 Tryz.underlying5 Tryz.underlying9 (Kd.own_of_R HO122.out)))
                                              go_roundg kj23
                                              case measure => have := HK1.out; have := HJ5.out; have := HJ10.out; have := HK4.out; have := HJ23.out; omega
                                              case rel => exact ⟨(wrap64 (x5_4 + 1)), (x7_4 ++ (strOfNums y120)), (by first | rfl | (simp; done) | (simp [*]; done)), (by first | rfl | (simp; done) | (simp [*]; done)), H', ⟨by have := HK1.out; have := HJ5.out; have := HJ10.out; have := HK4.out; have := HJ23.out; omega⟩, ⟨by (with_reducible repeat (first | apply Kd.R_alloc | apply Kd.R_drewN | apply Kd.R_drew)); exact HO_4.out⟩, ⟨by repeat (first | (with_reducible first | exact HB.out | apply below_alloc | apply pw_below_drewN | apply below_drew1) | exact HB.out)⟩⟩
                                            · rw [if_neg c35] at H
                                              exact absurd H (by simp)
                                          · rw [if_neg c34] at H
                                            have c34b0 : decide ((bt a0 x5_4) ≤ 90) = false := decide_eq_false c34
                                            clear c34
                                            obtain ⟨y123, hy123⟩ : ∃ y_ : List Int, y_ = (([bt a0 x5_4] : List Int)) := ⟨_, rfl⟩
                                            replace H : (if x7_4.size + (strOfNums y123).size ≤ 9223372036854775807 then (rtok.l2 kj23 a0 x4_1 (wrap64 (x5_4 + 1)) (x7_4 ++ (strOfNums y123))) else (none)) = some (r1, r2) := by first | (rw [hy123]; with_reducible exact H) | (have H2_ := (Option.bind_some _ _).symm.trans H; rw [hy123]; with_reducible exact H2_) | (have H2_ := (Option.bind_some _ _).symm.trans H; with_reducible exact H2_) | with_reducible exact H | (rw [hy123]; exact H) | exact H
                                            have Ny123 := Aside0.mk hy123
                                            clear hy123
                                            by_cases c39 : x7_4.size + (strOfNums y123).size ≤ 9223372036854775807
                                            · rw [if_pos c39] at H
                                              have c39b0 := eq_true c39
                                              have c39b1 : decide (x7_4.size + (strOfNums y123).size ≤ 9223372036854775807) = true := decide_eq_true c39
                                              try have c39b2 : (9223372036854775807 < x7_4.size + (strOfNums y123).size) = False := eq_false (Nat.not_lt.2 c39)
                                              have H' := Aside0.mk H
                                              clear H
                                              have p32 : 0 ≤ (x5_4 : Int) := of_decide_eq_true (by first | (with_reducible assumption) | assumption)
                                              have q32 : x5_4 < (a0.size : Int) := of_decide_eq_true (by first | (with_reducible assumption) | assumption)
                                              have hx32 := bt_at a0 x5_4
                                              replace p32 := eq_true p32
                                              replace q32 := eq_true q32
                                              go_wp2_with (first | ((with_reducible refine gate_dst (N := 150) rfl ?_); (try (refine gate_guard (by rfl) ?_; dsimp only)); refine Kd.R_lit (Kd.int .u8) _ 5 ?hg (N := 150) ?hd (xs := ([bt a0 x5_4] : List Int)) (inner := [.int .u8 (bt a0 x5_4)]) (ok := fun _ => True) (okp := fun _ => True) ?hr ?hp (fun _ hk => hk) trivial (Below.refl _ _) (Nat.le_refl _) (by simp) ?_; (case hd => rfl); (case hg => rfl); (case hr => first | (go_simp; done) | (go_simp; rfl)); (case hp => exact (Reps.one (show Kd.M (Kd.int .u8) _ _ _ (bt a0 x5_4) [.int .u8 (bt a0 x5_4)] from rfl) (Reps.none _ _))); intro v124 w40 ho41 hb hg_ hnew_; clear hg_ hnew_; (first | rw [← Ny123.out] at ho41 | (simp only [Int.reduceToNat] at ho41; rw [← Ny123.out] at ho41)); have n0_ := Aside0.mk (Kd.R_below (by (with_reducible repeat (first | apply Kd.R_alloc | apply Kd.R_drewN | apply Kd.R_drew)); exact HO_4.out) hb); have n1_ := Aside0.mk (Kd.R_lower ho41 (below_size (by repeat (first | (with_reducible first | exact HB.out | apply below_alloc | apply pw_below_drewN | apply below_drew1) | exact HB.out)))); have n2_ := Aside0.mk (below_step (by repeat (first | (with_reducible first | exact HB.out | apply below_alloc | apply pw_below_drewN | apply below_drew1) | exact HB.out)) hb); clear HO_4; clear HB; have HO_4 := n0_; have HO125 := n1_; have HB := n2_; clear n0_ n1_ n2_; clear hb ho41; have hcv42 := own_string (P := Tryz.prog) Tryz.underlying36 Tryz.underlying5 Tryz.underlying9 (Kd.own_of_R HO125.out)))
                                              go_roundg kj23
                                              case measure => have := HK1.out; have := HJ5.out; have := HJ10.out; have := HK4.out; have := HJ23.out; omega
                                              case rel => exact ⟨(wrap64 (x5_4 + 1)), (x7_4 ++ (strOfNums y123)), (by first | rfl | (simp; done) | (simp [*]; done)), (by first | rfl | (simp; done) | (simp [*]; done)), H', ⟨by have := HK1.out; have := HJ5.out; have := HJ10.out; have := HK4.out; have := HJ23.out; omega⟩, ⟨by (with_reducible repeat (first | apply Kd.R_alloc | apply Kd.R_drewN | apply Kd.R_drew)); exact HO_4.out⟩, ⟨by repeat (first | (with_reducible first | exact HB.out | apply below_alloc | apply pw_below_drewN | apply below_drew1) | exact HB.out)⟩⟩
                                            · rw [if_neg c39] at H
                                              exact absurd H (by simp)
                                        · rw [if_neg c33] at H
                                          have c33b0 : decide (65 ≤ (bt a0 x5_4)) = false := decide_eq_false c33
                                          clear c33
                                          obtain ⟨y126, hy126⟩ : ∃ y_ : List Int, y_ = (([bt a0 x5_4] : List Int)) := ⟨_, rfl⟩
                                          replace H : (if x7_4.size + (strOfNums y126).size ≤ 9223372036854775807 then (rtok.l2 kj23 a0 x4_1 (wrap64 (x5_4 + 1)) (x7_4 ++ (strOfNums y126))) else (none)) = some (r1, r2) := by first | (rw [hy126]; with_reducible exact H) | (have H2_ := (Option.bind_some _ _).symm.trans H; rw [hy126]; with_reducible exact H2_) | (have H2_ := (Option.bind_some _ _).symm.trans H; with_reducible exact H2_) | with_reducible exact H | (rw [hy126]; exact H) | exact H
                                          have Ny126 := Aside0.mk hy126
                                          clear hy126
                                          by_cases c43 : x7_4.size + (strOfNums y126).size ≤ 9223372036854775807
                                          · rw [if_pos c43] at H
                                            have c43b0 := eq_true c43
                                            have c43b1 : decide (x7_4.size + (strOfNums y126).size ≤ 9223372036854775807) = true := decide_eq_true c43
                                            try have c43b2 : (9223372036854775807 < x7_4.size + (strOfNums y126).size) = False := eq_false (Nat.not_lt.2 c43)
                                            have H' := Aside0.mk H
                                            clear H
                                            have p32 : 0 ≤ (x5_4 : Int) := of_decide_eq_true (by first | (with_reducible assumption) | assumption)
                                            have q32 : x5_4 < (a0.size : Int) := of_decide_eq_true (by first | (with_reducible assumption) | assumption)
                                            have hx32 := bt_at a0 x5_4
                                            replace p32 := eq_true p32
                                            replace q32 := eq_true q32
                                            go_wp2_with (first | ((with_reducible refine gate_dst (N := 150) rfl ?_); (try (refine gate_guard (by rfl) ?_; dsimp only)); refine Kd.R_lit (Kd.int .u8) _ 5 ?hg (N := 150) ?hd (xs := ([bt a0 x5_4] : List Int)) (inner := [.int .u8 (bt a0 x5_4)]) (ok := fun _ => True) (okp := fun _ => True) ?hr ?hp (fun _ hk => hk) trivial (Below.refl _ _) (Nat.le_refl _) (by simp) ?_; (case hd => rfl); (case hg => rfl); (case hr => first | (go_simp; done) | (go_simp; rfl)); (case hp => exact (Reps.one (show Kd.M (Kd.int .u8) _ _ _ (bt a0 x5_4) [.int .u8 (bt a0 x5_4)] from rfl) (Reps.none _ _))); intro v127 w44 ho45 hb hg_ hnew_; clear hg_ hnew_; (first | rw [← Ny126.out] at ho45 | (simp only [Int.reduceToNat] at ho45; rw [← Ny126.out] at ho45)); have n0_ := Aside0.mk (Kd.R_below (by (with_reducible repeat (first | apply Kd.R_alloc | apply Kd.R_drewN | apply Kd.R_drew)); exact HO_4.out) hb); have n1_ := Aside0.mk (Kd.R_lower ho45 (below_size (by repeat (first | (with_reducible first | exact HB.out | apply below_alloc | apply pw_below_drewN | apply below_drew1) | exact HB.out)))); have n2_ := Aside0.mk (below_step (by repeat (first | (with_reducible first | exact HB.out | apply below_alloc | apply pw_below_drewN | apply below_drew1) | exact HB.out)) hb); clear HO_4; clear HB; have HO_4 := n0_; have HO128 := n1_; have HB := n2_; clear n0_ n1_ n2_; clear hb ho45; have hcv46 := own_string (P := Tryz.prog) Tryz.underlying36 Tryz.underlying5 Tryz.underlying9 (Kd.own_of_R HO128.out)))
                                            go_roundg kj23
                                            case measure => have := HK1.out; have := HJ5.out; have := HJ10.out; have := HK4.out; have := HJ23.out; omega
                                            case rel => exact ⟨(wrap64 (x5_4 + 1)), (x7_4 ++ (strOfNums y126)), (by first | rfl | (simp; done) | (simp [*]; done)), (by first | rfl | (simp; done) | (simp [*]; done)), H', ⟨by have := HK1.out; have := HJ5.out; have := HJ10.out; have := HK4.out; have := HJ23.out; omega⟩, ⟨by (with_reducible repeat (first | apply Kd.R_alloc | apply Kd.R_drewN | apply Kd.R_drew)); exact HO_4.out⟩, ⟨by repeat (first | (with_reducible first | exact HB.out | apply below_alloc | apply pw_below_drewN | apply below_drew1) | exact HB.out)⟩⟩
                                          · rw [if_neg c43] at H
                                            exact absurd H (by simp)
                                      · rw [if_neg c31] at H
                                        exact absurd H (by simp)
                                    · rw [if_neg c30] at H
                                      exact absurd H (by simp)
                                  · replace c29 := Bool.eq_false_iff.mpr c29
                                    subst c29
                                    have H1 : (if (x7_4.size : Int) > 30 then (some (([] : List (S32)), 28)) else (if x4_1.length < 4398046511104 then (rtok.l0 kj23 a0 (x4_1 ++ [(⟨1, x7_4, 0⟩ : S32)]) x5_4) else (none))) = some (r1, r2) := by rw [if_neg (show ¬ (false = true) by decide)] at H; exact H
                                    clear H
                                    have H := H1
                                    clear H1
                                    by_cases c47 : (x7_4.size : Int) > 30
                                    · rw [if_pos c47] at H
                                      have c47b0 : decide (30 < (x7_4.size : Int)) = true := decide_eq_true c47
                                      have c47b1 : decide (30 < x7_4.size) = true := decide_eq_true (by omega)
                                      clear c47
                                      simp only [Option.some.injEq, Prod.mk.injEq] at H
                                      obtain ⟨rfl, rfl⟩ := H
                                      go_wp2
                                      go_ret2
                                      exact ⟨_, by first | rfl | (simp [errW_none, errW_some] <;> rfl) | (simp [*, errW_none, errW_some] <;> rfl), by first | exact Kd.R_nil _ _ _ _ _ | exact Kd.N_nil _ _ _ _ _ | exact Kd.V_nil _ _ _ _ _ | exact Kd.Q_nil _ _ _ _ _ | exact Kd.S_nil _ _ _ _ _, by repeat (first | (with_reducible first | exact HB.out | apply below_alloc | apply pw_below_drewN | apply below_drew1) | exact HB.out)⟩
                                    · rw [if_neg c47] at H
                                      have c47b0 : decide (30 < (x7_4.size : Int)) = false := decide_eq_false c47
                                      have c47b1 : decide (30 < x7_4.size) = false := decide_eq_false (by omega)
                                      clear c47
                                      by_cases c48 : x4_1.length < 4398046511104
                                      · rw [if_pos c48] at H
                                        have LMc48 := Aside0.mk c48
                                        clear c48
                                        obtain ⟨y129, hy129⟩ : ∃ y_ : List (S32), y_ = (x4_1 ++ [(⟨1, x7_4, 0⟩ : S32)]) := ⟨_, rfl⟩
                                        replace H : (rtok.l0 kj23 a0 y129 x5_4) = some (r1, r2) := by first | (rw [hy129]; with_reducible exact H) | (have H2_ := (Option.bind_some _ _).symm.trans H; rw [hy129]; with_reducible exact H2_) | (have H2_ := (Option.bind_some _ _).symm.trans H; with_reducible exact H2_) | with_reducible exact H | (rw [hy129]; exact H) | exact H
                                        have Ny129 := Aside0.mk hy129
                                        clear hy129
                                        have H' := Aside0.mk H
                                        clear H
                                        go_wp2_with (first | ((with_reducible refine gate_builtin (b := .append) (xs := #[.tmp 158, .tmp 161]) rfl ?_); (try (refine gate_guard (by rfl) ?_; dsimp only)); at_builtin; refine Kd.R_append k32 (w0 := w) w.heap.size rfl (.tmp 158) (.tmp 161) 23 32 (.agg #[(.int .i64 0), (.string ⟨#[]⟩), (.int .i64 0)]) 32 rfl Tryz.underlying23 info32 rfl (by decide) (by omega) u4 x4_1 (⟨1, x7_4, 0⟩ : S32) [.int .i64 1, .string x7_4, .int .i64 0] (fun _ => True) (fun _ => False) rfl rfl ?aP (fun _ hk => hk.elim) ?aF ?aO ?aB ?aS ?aL ?_; (case aP => exact k32_mkM _ _ _ (⟨1, x7_4, 0⟩ : S32)); (case aB => exact (by repeat (first | (with_reducible first | exact HB.out | apply below_alloc | apply pw_below_drewN | apply below_drew1) | exact HB.out))); (case aF => exact (fun _ _ => trivial)); (case aO => exact (by (with_reducible repeat (first | apply Kd.R_alloc | apply Kd.R_drewN | apply Kd.R_drew)); exact HO_4.out)); (case aS => exact (below_size (by repeat (first | (with_reducible first | exact HB.out | apply below_alloc | apply pw_below_drewN | apply below_drew1) | exact HB.out)))); (case aL => have := LMc48.out; omega); intro v130 w49 ho hb hg hat; rw [← Ny129.out] at ho; have n0_ := Aside0.mk (hb); have n1_ := Aside0.mk (ho); clear HB; clear HO_4; have HB := n0_; have HO131 := n1_; clear n0_ n1_; clear ho hb hg hat))
                                        go_roundg kj23
                                        case measure => have := HK1.out; have := HJ5.out; have := HJ10.out; have := HK4.out; have := HJ23.out; omega
                                        case rel => exact ⟨(y129), (x5_4), (by first | rfl | (simp; done) | (simp [*]; done)), H', ⟨by have := HK1.out; have := HJ5.out; have := HJ10.out; have := HK4.out; have := HJ23.out; omega⟩, ⟨by (with_reducible repeat (first | apply Kd.R_alloc | apply Kd.R_drewN | apply Kd.R_drew)); exact HO131.out⟩, ⟨by repeat (first | (with_reducible first | exact HB.out | apply below_alloc | apply pw_below_drewN | apply below_drew1) | exact HB.out)⟩⟩
                                      · rw [if_neg c48] at H
                                        exact absurd H (by simp)
                        · replace c23 := Bool.eq_false_iff.mpr c23
                          subst c23
                          have H1 : ((vidimusref16_digit.f (bt a0 x5_1)).bind fun t132 => (if t132 = true then (rtok.l3 kj10 a0 x4_1 x5_1 0 false) else (if (bt a0 x5_1) = 39 then (rtok.l4 kj10 a0 x4_1 (wrap64 (x5_1 + 1)) (⟨#[]⟩ : ByteArray) false) else ((some (([(⟨#[60, 61]⟩ : ByteArray), (⟨#[62, 61]⟩ : ByteArray), (⟨#[60, 62]⟩ : ByteArray), (⟨#[124, 124]⟩ : ByteArray)] : List ByteArray) : List ByteArray)).bind fun y141 => (rtok.l5 kj10 a0 x4_1 x5_1 (bt a0 x5_1) 0 y141 (y141.length : Int) 0))))) = some (r1, r2) := by rw [if_neg (show ¬ (false = true) by decide)] at H; exact H
                          clear H
                          have H := H1
                          clear H1
                          replace H := Option.bind_eq_some_iff.mp H
                          obtain ⟨t132, A500, H⟩ := H
                          replace H : (if t132 = true then (rtok.l3 kj10 a0 x4_1 x5_1 0 false) else (if (bt a0 x5_1) = 39 then (rtok.l4 kj10 a0 x4_1 (wrap64 (x5_1 + 1)) (⟨#[]⟩ : ByteArray) false) else ((some (([(⟨#[60, 61]⟩ : ByteArray), (⟨#[62, 61]⟩ : ByteArray), (⟨#[60, 62]⟩ : ByteArray), (⟨#[124, 124]⟩ : ByteArray)] : List ByteArray) : List ByteArray)).bind fun y141 => (rtok.l5 kj10 a0 x4_1 x5_1 (bt a0 x5_1) 0 y141 (y141.length : Int) 0)))) = some (r1, r2) := H
                          have A50 := Aside0.mk A500
                          clear A500
                          by_cases c51 : t132 = true
                          · subst c51
                            have H1 : (rtok.l3 kj10 a0 x4_1 x5_1 0 false) = some (r1, r2) := by rw [if_pos rfl] at H; exact H
                            clear H
                            have H := H1
                            clear H1
                            have H' := Aside0.mk H
                            clear H
                            go_wp2_with (first | ((with_reducible refine gate_callee (f := 61) rfl ?_); refine goesL_ (some 126) rfl rfl Tryz.func61 (by kernel_rfl) rfl #[.int .u8 (bt a0 x5_1)] rfl (by (try simp only [List.map_toArray, List.map_cons, List.map_nil]); first | done | rfl | (simp only [List.length_drop, List.length_take]; rfl)) ?_; (with_reducible refine (vidimusref16_letter.calls (bt a0 x5_1) false _ A22.out).mono ?_); rintro e w' ⟨rfl, ⟨nd, rfl⟩⟩; refine ⟨_, rfl, ?_⟩) | ((with_reducible refine gate_callee (f := 63) rfl ?_); refine goesL_ (some 165) rfl rfl Tryz.func63 (by kernel_rfl) rfl #[.int .u8 (bt a0 x5_1)] rfl (by (try simp only [List.map_toArray, List.map_cons, List.map_nil]); first | done | rfl | (simp only [List.length_drop, List.length_take]; rfl)) ?_; (with_reducible refine (vidimusref16_digit.calls (bt a0 x5_1) true _ A50.out).mono ?_); rintro e w' ⟨rfl, ⟨nd, rfl⟩⟩; refine ⟨_, rfl, ?_⟩))
                            go_loopg [5, 9, 10] kj10 (fun kq v5 v9 v10 w' => ∃ (x5_4 : Int) (x9_4 : Int) (x10_4 : Bool), v5 = .int .i64 x5_4 ∧ v9 = .int .u64 x9_4 ∧ v10 = .bool x10_4 ∧ Aside0 (rtok.l3 kq a0 x4_1 x5_4 x9_4 x10_4 = some (r1, r2)) ∧ Aside0 (kq ≤ kj10) ∧ Aside0 (Kd.R k32 32 w' w.heap.size (fun _ => True) u4 x4_1) ∧ Aside0 (Below w.heap.size w w'))
                            case atStart => exact ⟨(x5_1), (0), (false), (by first | rfl | (simp; done) | (simp [*]; done)), (by first | rfl | (simp; done) | (simp [*]; done)), (by first | rfl | (simp; done) | (simp [*]; done)), H', ⟨Nat.le_refl _⟩, ⟨by (with_reducible repeat (first | apply Kd.R_alloc | apply Kd.R_drewN | apply Kd.R_drew)); exact HO_4.out⟩, ⟨by repeat (first | (with_reducible first | exact HB.out | apply below_alloc | apply pw_below_drewN | apply below_drew1) | exact HB.out)⟩⟩
                            case round => as_aux_lemma =>
                              clear H'
                              try clear c1
                              try clear p1
                              try clear q1
                              try clear hx1
                              try clear c2
                              try clear c2b0
                              try clear c2b1
                              try clear p2
                              try clear q2
                              try clear hx2
                              try clear c3
                              try clear c3b0
                              try clear p3
                              try clear q3
                              try clear hx3
                              try clear hcv3
                              try clear c4
                              try clear c4b0
                              try clear hcv4
                              try clear c5
                              try clear p5
                              try clear q5
                              try clear hx5
                              try clear c6
                              try clear p6
                              try clear c7
                              try clear c7b0
                              try clear c7b1
                              try clear c8
                              try clear c8b0
                              try clear c8b1
                              try clear c9
                              try clear c9b0
                              try clear c9b1
                              try clear c10
                              try clear c12
                              try clear c12b0
                              try clear c12b1
                              try clear c13
                              try clear c13b0
                              try clear c15
                              try clear c15b0
                              try clear p16
                              try clear q16
                              try clear hx16
                              try clear c17
                              try clear c18
                              try clear c18b0
                              try clear c19
                              try clear c19b0
                              try clear p20
                              try clear q20
                              try clear hx20
                              try clear c21
                              try clear c21b0
                              try clear c21b1
                              try clear c23
                              try clear c25
                              try clear c25b0
                              try clear c26
                              try clear c26b0
                              try clear p27
                              try clear q27
                              try clear hx27
                              try clear c29
                              try clear c30
                              try clear c30b0
                              try clear c31
                              try clear c31b0
                              try clear p32
                              try clear q32
                              try clear hx32
                              try clear c33
                              try clear c33b0
                              try clear c34
                              try clear c34b0
                              try clear c35
                              try clear c35b0
                              try clear c35b1
                              try clear c35b2
                              try clear hcv38
                              try clear c39
                              try clear c39b0
                              try clear c39b1
                              try clear c39b2
                              try clear hcv42
                              try clear c43
                              try clear c43b0
                              try clear c43b1
                              try clear c43b2
                              try clear hcv46
                              try clear c47
                              try clear c47b0
                              try clear c47b1
                              try clear c48
                              try clear c51
                              try clear p1
                              try clear p16
                              try clear p2
                              try clear p20
                              try clear p27
                              try clear p32
                              try clear p5
                              try clear p6
                              try clear q1
                              try clear q16
                              try clear q2
                              try clear q20
                              try clear q27
                              try clear q32
                              try clear q5
                              obtain ⟨x5_4, x9_4, x10_4, rfl, rfl, rfl, HA, HK4, HO_4, HB⟩ := hrel
                              cases gk with
                              | zero => exact absurd HA.out (by simp [rtok.l3])
                              | succ k4 =>
                                have H := HA.out
                                clear HA
                                simp only [rtok.l3] at H
                                have HC52 := Aside0.mk H
                                clear H
                                go_upto_region 44 with (fail)
                                go_cut [175] (fun v175 wc => ∃ (kq : Nat) (x175_51 : Bool), v175 = .bool x175_51 ∧ Aside0 (rtok.j7 kq a0 x4_1 x5_4 x9_4 x10_4 x175_51 = some (r1, r2)) ∧ Aside0 (kq ≤ k4) ∧ Aside0 (Kd.R k32 32 wc w.heap.size (fun _ => True) u4 x4_1) ∧ Aside0 (Below w.heap.size w wc))
                                case first => as_aux_lemma =>
                                  have H := HC52.out
                                  clear HC52
                                  by_cases c53 : x5_4 < (a0.size : Int)
                                  · rw [if_pos c53] at H
                                    have c53b0 : decide (x5_4 < (a0.size : Int)) = true := decide_eq_true c53
                                    clear c53
                                    (first | rw [c53b0] | (simp only [i64_w, i32_w]; rw [c53b0]) | skip)
                                    by_cases c54 : 0 ≤ x5_4
                                    · rw [if_pos c54] at H
                                      have c54b0 : decide (0 ≤ x5_4) = true := decide_eq_true c54
                                      clear c54
                                      replace H := Option.bind_eq_some_iff.mp H
                                      obtain ⟨t133, A560, H⟩ := H
                                      replace H : (rtok.j7 k4 a0 x4_1 x5_4 x9_4 x10_4 t133) = some (r1, r2) := H
                                      have A56 := Aside0.mk A560
                                      clear A560
                                      have H' := Aside0.mk H
                                      clear H
                                      have p55 : 0 ≤ (x5_4 : Int) := of_decide_eq_true (by first | (with_reducible assumption) | assumption)
                                      have q55 : x5_4 < (a0.size : Int) := of_decide_eq_true (by first | (with_reducible assumption) | assumption)
                                      have hx55 := bt_at a0 x5_4
                                      replace p55 := eq_true p55
                                      replace q55 := eq_true q55
                                      go_wp2_with (first | (go_at_call 63; (with_reducible refine (vidimusref16_digit.calls (bt a0 x5_4) t133 _ A56.out).mono ?_); rintro e w' ⟨rfl, ⟨nd, rfl⟩⟩))
                                      go_meet
                                      case rel => exact ⟨_, (t133), (by first | rfl | (simp; done) | (simp [*]; done)), H', ⟨by have := HK1.out; have := HJ5.out; have := HJ10.out; have := HK4.out; first | omega | exact Nat.le_refl _⟩, ⟨by (with_reducible repeat (first | apply Kd.R_alloc | apply Kd.R_drewN | apply Kd.R_drew)); exact HO_4.out⟩, ⟨by repeat (first | (with_reducible first | exact HB.out | apply below_alloc | apply pw_below_drewN | apply below_drew1) | exact HB.out)⟩⟩
                                    · rw [if_neg c54] at H
                                      exact absurd H (by simp)
                                  · rw [if_neg c53] at H
                                    have c53b0 : decide (x5_4 < (a0.size : Int)) = false := decide_eq_false c53
                                    clear c53
                                    (first | rw [c53b0] | (simp only [i64_w, i32_w]; rw [c53b0]) | skip)
                                    have H' := Aside0.mk H
                                    clear H
                                    go_wp2
                                    go_meet
                                    case rel => exact ⟨_, (false), (by first | rfl | (simp; done) | (simp [*]; done)), H', ⟨by have := HK1.out; have := HJ5.out; have := HJ10.out; have := HK4.out; first | omega | exact Nat.le_refl _⟩, ⟨by (with_reducible repeat (first | apply Kd.R_alloc | apply Kd.R_drewN | apply Kd.R_drew)); exact HO_4.out⟩, ⟨by repeat (first | (with_reducible first | exact HB.out | apply below_alloc | apply pw_below_drewN | apply below_drew1) | exact HB.out)⟩⟩
                                case rest => as_aux_lemma =>
                                  clear HC52
                                  try clear c1
                                  try clear p1
                                  try clear q1
                                  try clear hx1
                                  try clear c2
                                  try clear c2b0
                                  try clear c2b1
                                  try clear p2
                                  try clear q2
                                  try clear hx2
                                  try clear c3
                                  try clear c3b0
                                  try clear p3
                                  try clear q3
                                  try clear hx3
                                  try clear hcv3
                                  try clear c4
                                  try clear c4b0
                                  try clear hcv4
                                  try clear c5
                                  try clear p5
                                  try clear q5
                                  try clear hx5
                                  try clear c6
                                  try clear p6
                                  try clear c7
                                  try clear c7b0
                                  try clear c7b1
                                  try clear c8
                                  try clear c8b0
                                  try clear c8b1
                                  try clear c9
                                  try clear c9b0
                                  try clear c9b1
                                  try clear c10
                                  try clear c12
                                  try clear c12b0
                                  try clear c12b1
                                  try clear c13
                                  try clear c13b0
                                  try clear c15
                                  try clear c15b0
                                  try clear p16
                                  try clear q16
                                  try clear hx16
                                  try clear c17
                                  try clear c18
                                  try clear c18b0
                                  try clear c19
                                  try clear c19b0
                                  try clear p20
                                  try clear q20
                                  try clear hx20
                                  try clear c21
                                  try clear c21b0
                                  try clear c21b1
                                  try clear c23
                                  try clear c25
                                  try clear c25b0
                                  try clear c26
                                  try clear c26b0
                                  try clear p27
                                  try clear q27
                                  try clear hx27
                                  try clear c29
                                  try clear c30
                                  try clear c30b0
                                  try clear c31
                                  try clear c31b0
                                  try clear p32
                                  try clear q32
                                  try clear hx32
                                  try clear c33
                                  try clear c33b0
                                  try clear c34
                                  try clear c34b0
                                  try clear c35
                                  try clear c35b0
                                  try clear c35b1
                                  try clear c35b2
                                  try clear hcv38
                                  try clear c39
                                  try clear c39b0
                                  try clear c39b1
                                  try clear c39b2
                                  try clear hcv42
                                  try clear c43
                                  try clear c43b0
                                  try clear c43b1
                                  try clear c43b2
                                  try clear hcv46
                                  try clear c47
                                  try clear c47b0
                                  try clear c47b1
                                  try clear c48
                                  try clear c51
                                  try clear c53
                                  try clear c53b0
                                  try clear c54
                                  try clear c54b0
                                  try clear p55
                                  try clear q55
                                  try clear hx55
                                  try clear p1
                                  try clear p16
                                  try clear p2
                                  try clear p20
                                  try clear p27
                                  try clear p3
                                  try clear p32
                                  try clear p5
                                  try clear p55
                                  try clear p6
                                  try clear q1
                                  try clear q16
                                  try clear q2
                                  try clear q20
                                  try clear q27
                                  try clear q3
                                  try clear q32
                                  try clear q5
                                  try clear q55
                                  obtain ⟨kq, x175_51, rfl, HA, HJ51, HO_4, HB⟩ := hcut
                                  cases kq with
                                  | zero => exact absurd HA.out (by simp [rtok.j7])
                                  | succ kj51 =>
                                    have H := HA.out
                                    clear HA
                                    simp only [rtok.j7] at H
                                    by_cases c57 : x175_51 = true
                                    · subst c57
                                      have H1 : (if 0 ≤ x5_4 then (if x5_4 < (a0.size : Int) then (if x9_4 > ((9223372036854775807 - (((bt a0 x5_4) - 48) % 256)) / 10) then (rtok.l3 kj51 a0 x4_1 (wrap64 (x5_4 + 1)) x9_4 true) else (rtok.l3 kj51 a0 x4_1 (wrap64 (x5_4 + 1)) (IntKind.u64.wrap ((IntKind.u64.wrap (x9_4 * 10)) + (((bt a0 x5_4) - 48) % 256))) x10_4)) else (none)) else (none)) = some (r1, r2) := by rw [if_pos rfl] at H; exact H
                                      clear H
                                      have H := H1
                                      clear H1
                                      by_cases c58 : 0 ≤ x5_4
                                      · rw [if_pos c58] at H
                                        have c58b0 : decide (0 ≤ x5_4) = true := decide_eq_true c58
                                        clear c58
                                        by_cases c59 : x5_4 < (a0.size : Int)
                                        · rw [if_pos c59] at H
                                          have c59b0 : decide (x5_4 < (a0.size : Int)) = true := decide_eq_true c59
                                          clear c59
                                          by_cases c61 : x9_4 > ((9223372036854775807 - (((bt a0 x5_4) - 48) % 256)) / 10)
                                          · rw [if_pos c61] at H
                                            have c61b0 : decide (((9223372036854775807 - (((bt a0 x5_4) - 48) % 256)) / 10) < x9_4) = true := decide_eq_true c61
                                            clear c61
                                            have H' := Aside0.mk H
                                            clear H
                                            have p60 : 0 ≤ (x5_4 : Int) := of_decide_eq_true (by first | (with_reducible assumption) | assumption)
                                            have q60 : x5_4 < (a0.size : Int) := of_decide_eq_true (by first | (with_reducible assumption) | assumption)
                                            have hx60 := bt_at a0 x5_4
                                            replace p60 := eq_true p60
                                            replace q60 := eq_true q60
                                            go_wp2
                                            go_roundg kj51
                                            case measure => have := HK1.out; have := HJ5.out; have := HJ10.out; have := HK4.out; have := HJ51.out; omega
                                            case rel => exact ⟨(wrap64 (x5_4 + 1)), (x9_4), (true), (by first | rfl | (simp; done) | (simp [*]; done)), (by first | rfl | (simp; done) | (simp [*]; done)), (by first | rfl | (simp; done) | (simp [*]; done)), H', ⟨by have := HK1.out; have := HJ5.out; have := HJ10.out; have := HK4.out; have := HJ51.out; omega⟩, ⟨by (with_reducible repeat (first | apply Kd.R_alloc | apply Kd.R_drewN | apply Kd.R_drew)); exact HO_4.out⟩, ⟨by repeat (first | (with_reducible first | exact HB.out | apply below_alloc | apply pw_below_drewN | apply below_drew1) | exact HB.out)⟩⟩
                                          · rw [if_neg c61] at H
                                            have c61b0 : decide (((9223372036854775807 - (((bt a0 x5_4) - 48) % 256)) / 10) < x9_4) = false := decide_eq_false c61
                                            clear c61
                                            have H' := Aside0.mk H
                                            clear H
                                            have p60 : 0 ≤ (x5_4 : Int) := of_decide_eq_true (by first | (with_reducible assumption) | assumption)
                                            have q60 : x5_4 < (a0.size : Int) := of_decide_eq_true (by first | (with_reducible assumption) | assumption)
                                            have hx60 := bt_at a0 x5_4
                                            replace p60 := eq_true p60
                                            replace q60 := eq_true q60
                                            go_wp2
                                            go_roundg kj51
                                            case measure => have := HK1.out; have := HJ5.out; have := HJ10.out; have := HK4.out; have := HJ51.out; omega
                                            case rel => exact ⟨(wrap64 (x5_4 + 1)), (IntKind.u64.wrap ((IntKind.u64.wrap (x9_4 * 10)) + (((bt a0 x5_4) - 48) % 256))), (x10_4), (by first | rfl | (simp; done) | (simp [*]; done)), (by first | rfl | (simp; done) | (simp [*]; done)), (by first | rfl | (simp; done) | (simp [*]; done)), H', ⟨by have := HK1.out; have := HJ5.out; have := HJ10.out; have := HK4.out; have := HJ51.out; omega⟩, ⟨by (with_reducible repeat (first | apply Kd.R_alloc | apply Kd.R_drewN | apply Kd.R_drew)); exact HO_4.out⟩, ⟨by repeat (first | (with_reducible first | exact HB.out | apply below_alloc | apply pw_below_drewN | apply below_drew1) | exact HB.out)⟩⟩
                                        · rw [if_neg c59] at H
                                          exact absurd H (by simp)
                                      · rw [if_neg c58] at H
                                        exact absurd H (by simp)
                                    · replace c57 := Bool.eq_false_iff.mpr c57
                                      subst c57
                                      have H1 : (if x5_4 < (a0.size : Int) then (if 0 ≤ x5_4 then ((vidimusref16_part.f (bt a0 x5_4)).bind fun t134 => (rtok.j8 kj51 a0 x4_1 x5_4 x9_4 x10_4 t134)) else (none)) else (rtok.j8 kj51 a0 x4_1 x5_4 x9_4 x10_4 false)) = some (r1, r2) := by rw [if_neg (show ¬ (false = true) by decide)] at H; exact H
                                      clear H
                                      have H := H1
                                      clear H1
                                      have HC62 := Aside0.mk H
                                      clear H
                                      go_upto_region 50 with (fail)
                                      go_cut [201] (fun v201 wc => ∃ (kq : Nat) (x201_61 : Bool), v201 = .bool x201_61 ∧ Aside0 (rtok.j8 kq a0 x4_1 x5_4 x9_4 x10_4 x201_61 = some (r1, r2)) ∧ Aside0 (kq ≤ kj51) ∧ Aside0 (Kd.R k32 32 wc w.heap.size (fun _ => True) u4 x4_1) ∧ Aside0 (Below w.heap.size w wc))
                                      case first => as_aux_lemma =>
                                        have H := HC62.out
                                        clear HC62
                                        by_cases c63 : x5_4 < (a0.size : Int)
                                        · rw [if_pos c63] at H
                                          have c63b0 : decide (x5_4 < (a0.size : Int)) = true := decide_eq_true c63
                                          clear c63
                                          (first | rw [c63b0] | (simp only [i64_w, i32_w]; rw [c63b0]) | skip)
                                          by_cases c64 : 0 ≤ x5_4
                                          · rw [if_pos c64] at H
                                            have c64b0 : decide (0 ≤ x5_4) = true := decide_eq_true c64
                                            clear c64
                                            replace H := Option.bind_eq_some_iff.mp H
                                            obtain ⟨t134, A660, H⟩ := H
                                            replace H : (rtok.j8 kj51 a0 x4_1 x5_4 x9_4 x10_4 t134) = some (r1, r2) := H
                                            have A66 := Aside0.mk A660
                                            clear A660
                                            have H' := Aside0.mk H
                                            clear H
                                            have p65 : 0 ≤ (x5_4 : Int) := of_decide_eq_true (by first | (with_reducible assumption) | assumption)
                                            have q65 : x5_4 < (a0.size : Int) := of_decide_eq_true (by first | (with_reducible assumption) | assumption)
                                            have hx65 := bt_at a0 x5_4
                                            replace p65 := eq_true p65
                                            replace q65 := eq_true q65
                                            go_wp2_with (first | (go_at_call 62; (with_reducible refine (vidimusref16_part.calls (bt a0 x5_4) t134 _ A66.out).mono ?_); rintro e w' ⟨rfl, ⟨nd, rfl⟩⟩))
                                            go_meet
                                            case rel => exact ⟨_, (t134), (by first | rfl | (simp; done) | (simp [*]; done)), H', ⟨by have := HK1.out; have := HJ5.out; have := HJ10.out; have := HK4.out; have := HJ51.out; first | omega | exact Nat.le_refl _⟩, ⟨by (with_reducible repeat (first | apply Kd.R_alloc | apply Kd.R_drewN | apply Kd.R_drew)); exact HO_4.out⟩, ⟨by repeat (first | (with_reducible first | exact HB.out | apply below_alloc | apply pw_below_drewN | apply below_drew1) | exact HB.out)⟩⟩
                                          · rw [if_neg c64] at H
                                            exact absurd H (by simp)
                                        · rw [if_neg c63] at H
                                          have c63b0 : decide (x5_4 < (a0.size : Int)) = false := decide_eq_false c63
                                          clear c63
                                          (first | rw [c63b0] | (simp only [i64_w, i32_w]; rw [c63b0]) | skip)
                                          have H' := Aside0.mk H
                                          clear H
                                          go_wp2
                                          go_meet
                                          case rel => exact ⟨_, (false), (by first | rfl | (simp; done) | (simp [*]; done)), H', ⟨by have := HK1.out; have := HJ5.out; have := HJ10.out; have := HK4.out; have := HJ51.out; first | omega | exact Nat.le_refl _⟩, ⟨by (with_reducible repeat (first | apply Kd.R_alloc | apply Kd.R_drewN | apply Kd.R_drew)); exact HO_4.out⟩, ⟨by repeat (first | (with_reducible first | exact HB.out | apply below_alloc | apply pw_below_drewN | apply below_drew1) | exact HB.out)⟩⟩
                                      case rest => as_aux_lemma =>
                                        clear HC62
                                        try clear c1
                                        try clear p1
                                        try clear q1
                                        try clear hx1
                                        try clear c2
                                        try clear c2b0
                                        try clear c2b1
                                        try clear p2
                                        try clear q2
                                        try clear hx2
                                        try clear c3
                                        try clear c3b0
                                        try clear p3
                                        try clear q3
                                        try clear hx3
                                        try clear hcv3
                                        try clear c4
                                        try clear c4b0
                                        try clear hcv4
                                        try clear c5
                                        try clear p5
                                        try clear q5
                                        try clear hx5
                                        try clear c6
                                        try clear p6
                                        try clear q6
                                        try clear hx6
                                        try clear c7
                                        try clear c7b0
                                        try clear c7b1
                                        try clear c8
                                        try clear c8b0
                                        try clear c8b1
                                        try clear c9
                                        try clear c9b0
                                        try clear c9b1
                                        try clear c10
                                        try clear c12
                                        try clear c12b0
                                        try clear c12b1
                                        try clear c13
                                        try clear c13b0
                                        try clear c15
                                        try clear c15b0
                                        try clear p16
                                        try clear q16
                                        try clear hx16
                                        try clear c17
                                        try clear c18
                                        try clear c18b0
                                        try clear c19
                                        try clear c19b0
                                        try clear p20
                                        try clear q20
                                        try clear hx20
                                        try clear c21
                                        try clear c21b0
                                        try clear c21b1
                                        try clear c23
                                        try clear c25
                                        try clear c25b0
                                        try clear c26
                                        try clear c26b0
                                        try clear p27
                                        try clear q27
                                        try clear hx27
                                        try clear c29
                                        try clear c30
                                        try clear c30b0
                                        try clear c31
                                        try clear c31b0
                                        try clear p32
                                        try clear q32
                                        try clear hx32
                                        try clear c33
                                        try clear c33b0
                                        try clear c34
                                        try clear c34b0
                                        try clear c35
                                        try clear c35b0
                                        try clear c35b1
                                        try clear c35b2
                                        try clear hcv38
                                        try clear c39
                                        try clear c39b0
                                        try clear c39b1
                                        try clear c39b2
                                        try clear hcv42
                                        try clear c43
                                        try clear c43b0
                                        try clear c43b1
                                        try clear c43b2
                                        try clear hcv46
                                        try clear c47
                                        try clear c47b0
                                        try clear c47b1
                                        try clear c48
                                        try clear c51
                                        try clear c53
                                        try clear c53b0
                                        try clear c54
                                        try clear c54b0
                                        try clear p55
                                        try clear q55
                                        try clear hx55
                                        try clear c57
                                        try clear c58
                                        try clear c58b0
                                        try clear c59
                                        try clear c59b0
                                        try clear p60
                                        try clear q60
                                        try clear hx60
                                        try clear c61
                                        try clear c61b0
                                        try clear c63
                                        try clear c63b0
                                        try clear c64
                                        try clear c64b0
                                        try clear p64
                                        try clear p65
                                        try clear q65
                                        try clear hx65
                                        try clear p1
                                        try clear p16
                                        try clear p2
                                        try clear p20
                                        try clear p27
                                        try clear p3
                                        try clear p32
                                        try clear p5
                                        try clear p55
                                        try clear p6
                                        try clear p60
                                        try clear p65
                                        try clear q1
                                        try clear q16
                                        try clear q2
                                        try clear q20
                                        try clear q27
                                        try clear q3
                                        try clear q32
                                        try clear q5
                                        try clear q55
                                        try clear q60
                                        try clear q65
                                        obtain ⟨kq, x201_61, rfl, HA, HJ61, HO_4, HB⟩ := hcut
                                        cases kq with
                                        | zero => exact absurd HA.out (by simp [rtok.j8])
                                        | succ kj61 =>
                                          have H := HA.out
                                          clear HA
                                          simp only [rtok.j8] at H
                                          by_cases c67 : x201_61 = true
                                          · subst c67
                                            have H1 : (some (([] : List (S32)), 20)) = some (r1, r2) := by rw [if_pos rfl] at H; exact H
                                            clear H
                                            have H := H1
                                            clear H1
                                            simp only [Option.some.injEq, Prod.mk.injEq] at H
                                            obtain ⟨rfl, rfl⟩ := H
                                            go_wp2
                                            go_ret2
                                            exact ⟨_, by first | rfl | (simp [errW_none, errW_some] <;> rfl) | (simp [*, errW_none, errW_some] <;> rfl), by first | exact Kd.R_nil _ _ _ _ _ | exact Kd.N_nil _ _ _ _ _ | exact Kd.V_nil _ _ _ _ _ | exact Kd.Q_nil _ _ _ _ _ | exact Kd.S_nil _ _ _ _ _, by repeat (first | (with_reducible first | exact HB.out | apply below_alloc | apply pw_below_drewN | apply below_drew1) | exact HB.out)⟩
                                          · replace c67 := Bool.eq_false_iff.mpr c67
                                            subst c67
                                            have H1 : (if x10_4 = true then (some (([] : List (S32)), 26)) else (if x4_1.length < 4398046511104 then (rtok.l0 kj61 a0 (x4_1 ++ [(⟨2, (⟨#[]⟩ : ByteArray), wrap64 (x9_4)⟩ : S32)]) x5_4) else (none))) = some (r1, r2) := by rw [if_neg (show ¬ (false = true) by decide)] at H; exact H
                                            clear H
                                            have H := H1
                                            clear H1
                                            by_cases c68 : x10_4 = true
                                            · subst c68
                                              have H1 : (some (([] : List (S32)), 26)) = some (r1, r2) := by rw [if_pos rfl] at H; exact H
                                              clear H
                                              have H := H1
                                              clear H1
                                              simp only [Option.some.injEq, Prod.mk.injEq] at H
                                              obtain ⟨rfl, rfl⟩ := H
                                              go_wp2
                                              go_ret2
                                              exact ⟨_, by first | rfl | (simp [errW_none, errW_some] <;> rfl) | (simp [*, errW_none, errW_some] <;> rfl), by first | exact Kd.R_nil _ _ _ _ _ | exact Kd.N_nil _ _ _ _ _ | exact Kd.V_nil _ _ _ _ _ | exact Kd.Q_nil _ _ _ _ _ | exact Kd.S_nil _ _ _ _ _, by repeat (first | (with_reducible first | exact HB.out | apply below_alloc | apply pw_below_drewN | apply below_drew1) | exact HB.out)⟩
                                            · replace c68 := Bool.eq_false_iff.mpr c68
                                              subst c68
                                              have H1 : (if x4_1.length < 4398046511104 then (rtok.l0 kj61 a0 (x4_1 ++ [(⟨2, (⟨#[]⟩ : ByteArray), wrap64 (x9_4)⟩ : S32)]) x5_4) else (none)) = some (r1, r2) := by rw [if_neg (show ¬ (false = true) by decide)] at H; exact H
                                              clear H
                                              have H := H1
                                              clear H1
                                              by_cases c69 : x4_1.length < 4398046511104
                                              · rw [if_pos c69] at H
                                                have LMc69 := Aside0.mk c69
                                                clear c69
                                                obtain ⟨y135, hy135⟩ : ∃ y_ : List (S32), y_ = (x4_1 ++ [(⟨2, (⟨#[]⟩ : ByteArray), wrap64 (x9_4)⟩ : S32)]) := ⟨_, rfl⟩
                                                replace H : (rtok.l0 kj61 a0 y135 x5_4) = some (r1, r2) := by first | (rw [hy135]; with_reducible exact H) | (have H2_ := (Option.bind_some _ _).symm.trans H; rw [hy135]; with_reducible exact H2_) | (have H2_ := (Option.bind_some _ _).symm.trans H; with_reducible exact H2_) | with_reducible exact H | (rw [hy135]; exact H) | exact H
                                                have Ny135 := Aside0.mk hy135
                                                clear hy135
                                                have H' := Aside0.mk H
                                                clear H
                                                go_wp2_with (first | ((with_reducible refine gate_builtin (b := .append) (xs := #[.tmp 203, .tmp 207]) rfl ?_); (try (refine gate_guard (by rfl) ?_; dsimp only)); at_builtin; refine Kd.R_append k32 (w0 := w) w.heap.size rfl (.tmp 203) (.tmp 207) 23 32 (.agg #[(.int .i64 0), (.string ⟨#[]⟩), (.int .i64 0)]) 32 rfl Tryz.underlying23 info32 rfl (by decide) (by omega) u4 x4_1 (⟨2, (⟨#[]⟩ : ByteArray), wrap64 (x9_4)⟩ : S32) [.int .i64 2, .string (⟨#[]⟩ : ByteArray), .int .i64 (wrap64 (x9_4))] (fun _ => True) (fun _ => False) rfl rfl ?aP (fun _ hk => hk.elim) ?aF ?aO ?aB ?aS ?aL ?_; (case aP => exact k32_mkM _ _ _ (⟨2, (⟨#[]⟩ : ByteArray), wrap64 (x9_4)⟩ : S32)); (case aB => exact (by repeat (first | (with_reducible first | exact HB.out | apply below_alloc | apply pw_below_drewN | apply below_drew1) | exact HB.out))); (case aF => exact (fun _ _ => trivial)); (case aO => exact (by (with_reducible repeat (first | apply Kd.R_alloc | apply Kd.R_drewN | apply Kd.R_drew)); exact HO_4.out)); (case aS => exact (below_size (by repeat (first | (with_reducible first | exact HB.out | apply below_alloc | apply pw_below_drewN | apply below_drew1) | exact HB.out)))); (case aL => have := LMc69.out; omega); intro v136 w70 ho hb hg hat; rw [← Ny135.out] at ho; have n0_ := Aside0.mk (hb); have n1_ := Aside0.mk (ho); clear HB; clear HO_4; have HB := n0_; have HO137 := n1_; clear n0_ n1_; clear ho hb hg hat))
                                                go_roundg kj61
                                                case measure => have := HK1.out; have := HJ5.out; have := HJ10.out; have := HK4.out; have := HJ51.out; have := HJ61.out; omega
                                                case rel => exact ⟨(y135), (x5_4), (by first | rfl | (simp; done) | (simp [*]; done)), H', ⟨by have := HK1.out; have := HJ5.out; have := HJ10.out; have := HK4.out; have := HJ51.out; have := HJ61.out; omega⟩, ⟨by (with_reducible repeat (first | apply Kd.R_alloc | apply Kd.R_drewN | apply Kd.R_drew)); exact HO137.out⟩, ⟨by repeat (first | (with_reducible first | exact HB.out | apply below_alloc | apply pw_below_drewN | apply below_drew1) | exact HB.out)⟩⟩
                                              · rw [if_neg c69] at H
                                                exact absurd H (by simp)
                          · replace c51 := Bool.eq_false_iff.mpr c51
                            subst c51
                            have H1 : (if (bt a0 x5_1) = 39 then (rtok.l4 kj10 a0 x4_1 (wrap64 (x5_1 + 1)) (⟨#[]⟩ : ByteArray) false) else ((some (([(⟨#[60, 61]⟩ : ByteArray), (⟨#[62, 61]⟩ : ByteArray), (⟨#[60, 62]⟩ : ByteArray), (⟨#[124, 124]⟩ : ByteArray)] : List ByteArray) : List ByteArray)).bind fun y141 => (rtok.l5 kj10 a0 x4_1 x5_1 (bt a0 x5_1) 0 y141 (y141.length : Int) 0))) = some (r1, r2) := by rw [if_neg (show ¬ (false = true) by decide)] at H; exact H
                            clear H
                            have H := H1
                            clear H1
                            by_cases c71 : (bt a0 x5_1) = 39
                            · rw [if_pos c71] at H
                              have c71b0 : ((bt a0 x5_1) == 39) = true := beq_iff_eq.mpr c71
                              have c71b1 : ((bt a0 x5_1) != 39) = false := bne_eq_false_iff_eq.mpr c71
                              clear c71
                              have H' := Aside0.mk H
                              clear H
                              go_wp2_with (first | ((with_reducible refine gate_callee (f := 61) rfl ?_); refine goesL_ (some 126) rfl rfl Tryz.func61 (by kernel_rfl) rfl #[.int .u8 (bt a0 x5_1)] rfl (by (try simp only [List.map_toArray, List.map_cons, List.map_nil]); first | done | rfl | (simp only [List.length_drop, List.length_take]; rfl)) ?_; (with_reducible refine (vidimusref16_letter.calls (bt a0 x5_1) false _ A22.out).mono ?_); rintro e w' ⟨rfl, ⟨nd, rfl⟩⟩; refine ⟨_, rfl, ?_⟩) | ((with_reducible refine gate_callee (f := 63) rfl ?_); refine goesL_ (some 165) rfl rfl Tryz.func63 (by kernel_rfl) rfl #[.int .u8 (bt a0 x5_1)] rfl (by (try simp only [List.map_toArray, List.map_cons, List.map_nil]); first | done | rfl | (simp only [List.length_drop, List.length_take]; rfl)) ?_; (with_reducible refine (vidimusref16_digit.calls (bt a0 x5_1) false _ A50.out).mono ?_); rintro e w' ⟨rfl, ⟨nd, rfl⟩⟩; refine ⟨_, rfl, ?_⟩))
                              go_loopg [5, 12, 13] kj10 (fun kq v5 v12 v13 w' => ∃ (x5_4 : Int) (x12_4 : ByteArray) (x13_4 : Bool), v5 = .int .i64 x5_4 ∧ v12 = .string x12_4 ∧ v13 = .bool x13_4 ∧ Aside0 (rtok.l4 kq a0 x4_1 x5_4 x12_4 x13_4 = some (r1, r2)) ∧ Aside0 (kq ≤ kj10) ∧ Aside0 (Kd.R k32 32 w' w.heap.size (fun _ => True) u4 x4_1) ∧ Aside0 (Below w.heap.size w w'))
                              case atStart => exact ⟨(wrap64 (x5_1 + 1)), ((⟨#[]⟩ : ByteArray)), (false), (by first | rfl | (simp; done) | (simp [*]; done)), (by first | rfl | (simp; done) | (simp [*]; done)), (by first | rfl | (simp; done) | (simp [*]; done)), H', ⟨Nat.le_refl _⟩, ⟨by (with_reducible repeat (first | apply Kd.R_alloc | apply Kd.R_drewN | apply Kd.R_drew)); exact HO_4.out⟩, ⟨by repeat (first | (with_reducible first | exact HB.out | apply below_alloc | apply pw_below_drewN | apply below_drew1) | exact HB.out)⟩⟩
                              case round => as_aux_lemma =>
                                clear H'
                                try clear c1
                                try clear p1
                                try clear q1
                                try clear hx1
                                try clear c2
                                try clear c2b0
                                try clear c2b1
                                try clear p2
                                try clear q2
                                try clear hx2
                                try clear c3
                                try clear c3b0
                                try clear p3
                                try clear q3
                                try clear hx3
                                try clear hcv3
                                try clear c4
                                try clear c4b0
                                try clear hcv4
                                try clear c5
                                try clear p5
                                try clear q5
                                try clear hx5
                                try clear c6
                                try clear p6
                                try clear q6
                                try clear hx6
                                try clear c7
                                try clear c7b0
                                try clear c7b1
                                try clear c8
                                try clear c8b0
                                try clear c8b1
                                try clear c9
                                try clear c9b0
                                try clear c9b1
                                try clear c10
                                try clear c12
                                try clear c12b0
                                try clear c12b1
                                try clear c13
                                try clear c13b0
                                try clear c15
                                try clear c15b0
                                try clear p16
                                try clear q16
                                try clear hx16
                                try clear c17
                                try clear c18
                                try clear c18b0
                                try clear c19
                                try clear c19b0
                                try clear p20
                                try clear q20
                                try clear hx20
                                try clear c21
                                try clear c21b0
                                try clear c21b1
                                try clear c23
                                try clear c25
                                try clear c25b0
                                try clear c26
                                try clear c26b0
                                try clear p27
                                try clear q27
                                try clear hx27
                                try clear c29
                                try clear c30
                                try clear c30b0
                                try clear c31
                                try clear c31b0
                                try clear p32
                                try clear q32
                                try clear hx32
                                try clear c33
                                try clear c33b0
                                try clear c34
                                try clear c34b0
                                try clear c35
                                try clear c35b0
                                try clear c35b1
                                try clear c35b2
                                try clear hcv38
                                try clear c39
                                try clear c39b0
                                try clear c39b1
                                try clear c39b2
                                try clear hcv42
                                try clear c43
                                try clear c43b0
                                try clear c43b1
                                try clear c43b2
                                try clear hcv46
                                try clear c47
                                try clear c47b0
                                try clear c47b1
                                try clear c48
                                try clear c51
                                try clear c53
                                try clear c53b0
                                try clear c54
                                try clear c54b0
                                try clear p55
                                try clear q55
                                try clear hx55
                                try clear c57
                                try clear c58
                                try clear c58b0
                                try clear c59
                                try clear c59b0
                                try clear p60
                                try clear q60
                                try clear hx60
                                try clear c61
                                try clear c61b0
                                try clear c63
                                try clear c63b0
                                try clear c64
                                try clear c64b0
                                try clear p64
                                try clear p65
                                try clear q65
                                try clear hx65
                                try clear c67
                                try clear c68
                                try clear c69
                                try clear c71
                                try clear c71b0
                                try clear c71b1
                                try clear p1
                                try clear p16
                                try clear p2
                                try clear p20
                                try clear p27
                                try clear p3
                                try clear p32
                                try clear p5
                                try clear p55
                                try clear p6
                                try clear p60
                                try clear p64
                                try clear p65
                                try clear q1
                                try clear q16
                                try clear q2
                                try clear q20
                                try clear q27
                                try clear q3
                                try clear q32
                                try clear q5
                                try clear q55
                                try clear q6
                                try clear q60
                                try clear q65
                                obtain ⟨x5_4, x12_4, x13_4, rfl, rfl, rfl, HA, HK4, HO_4, HB⟩ := hrel
                                cases gk with
                                | zero => exact absurd HA.out (by simp [rtok.l4])
                                | succ k4 =>
                                  have H := HA.out
                                  clear HA
                                  simp only [rtok.l4] at H
                                  have HC72 := Aside0.mk H
                                  clear H
                                  go_upto_region 59 with (fail)
                                  go_cut [221] (fun v221 wc => ∃ (kq : Nat) (x221_71 : Bool), v221 = .bool x221_71 ∧ Aside0 (rtok.j10 kq a0 x4_1 x5_4 x12_4 x13_4 x221_71 = some (r1, r2)) ∧ Aside0 (kq ≤ k4) ∧ Aside0 (Kd.R k32 32 wc w.heap.size (fun _ => True) u4 x4_1) ∧ Aside0 (Below w.heap.size w wc))
                                  case first => as_aux_lemma =>
                                    have H := HC72.out
                                    clear HC72
                                    by_cases c73 : x5_4 < (a0.size : Int)
                                    · rw [if_pos c73] at H
                                      have c73b0 : decide (x5_4 < (a0.size : Int)) = true := decide_eq_true c73
                                      clear c73
                                      (first | rw [c73b0] | (simp only [i64_w, i32_w]; rw [c73b0]) | skip)
                                      have H' := Aside0.mk H
                                      clear H
                                      go_wp2
                                      go_meet
                                      case rel => exact ⟨_, (!x13_4), (by first | rfl | (simp; done) | (simp [*]; done)), H', ⟨by have := HK1.out; have := HJ5.out; have := HJ10.out; have := HK4.out; first | omega | exact Nat.le_refl _⟩, ⟨by (with_reducible repeat (first | apply Kd.R_alloc | apply Kd.R_drewN | apply Kd.R_drew)); exact HO_4.out⟩, ⟨by repeat (first | (with_reducible first | exact HB.out | apply below_alloc | apply pw_below_drewN | apply below_drew1) | exact HB.out)⟩⟩
                                    · rw [if_neg c73] at H
                                      have c73b0 : decide (x5_4 < (a0.size : Int)) = false := decide_eq_false c73
                                      clear c73
                                      (first | rw [c73b0] | (simp only [i64_w, i32_w]; rw [c73b0]) | skip)
                                      have H' := Aside0.mk H
                                      clear H
                                      go_wp2
                                      go_meet
                                      case rel => exact ⟨_, (false), (by first | rfl | (simp; done) | (simp [*]; done)), H', ⟨by have := HK1.out; have := HJ5.out; have := HJ10.out; have := HK4.out; first | omega | exact Nat.le_refl _⟩, ⟨by (with_reducible repeat (first | apply Kd.R_alloc | apply Kd.R_drewN | apply Kd.R_drew)); exact HO_4.out⟩, ⟨by repeat (first | (with_reducible first | exact HB.out | apply below_alloc | apply pw_below_drewN | apply below_drew1) | exact HB.out)⟩⟩
                                  case rest => as_aux_lemma =>
                                    clear HC72
                                    try clear c1
                                    try clear p1
                                    try clear q1
                                    try clear hx1
                                    try clear c2
                                    try clear c2b0
                                    try clear c2b1
                                    try clear p2
                                    try clear q2
                                    try clear hx2
                                    try clear c3
                                    try clear c3b0
                                    try clear p3
                                    try clear q3
                                    try clear hx3
                                    try clear hcv3
                                    try clear c4
                                    try clear c4b0
                                    try clear hcv4
                                    try clear c5
                                    try clear p5
                                    try clear q5
                                    try clear hx5
                                    try clear c6
                                    try clear p6
                                    try clear q6
                                    try clear hx6
                                    try clear c7
                                    try clear c7b0
                                    try clear c7b1
                                    try clear c8
                                    try clear c8b0
                                    try clear c8b1
                                    try clear c9
                                    try clear c9b0
                                    try clear c9b1
                                    try clear c10
                                    try clear c12
                                    try clear c12b0
                                    try clear c12b1
                                    try clear c13
                                    try clear c13b0
                                    try clear c15
                                    try clear c15b0
                                    try clear p16
                                    try clear q16
                                    try clear hx16
                                    try clear c17
                                    try clear c18
                                    try clear c18b0
                                    try clear c19
                                    try clear c19b0
                                    try clear p20
                                    try clear q20
                                    try clear hx20
                                    try clear c21
                                    try clear c21b0
                                    try clear c21b1
                                    try clear c23
                                    try clear c25
                                    try clear c25b0
                                    try clear c26
                                    try clear c26b0
                                    try clear p27
                                    try clear q27
                                    try clear hx27
                                    try clear c29
                                    try clear c30
                                    try clear c30b0
                                    try clear c31
                                    try clear c31b0
                                    try clear p32
                                    try clear q32
                                    try clear hx32
                                    try clear c33
                                    try clear c33b0
                                    try clear c34
                                    try clear c34b0
                                    try clear c35
                                    try clear c35b0
                                    try clear c35b1
                                    try clear c35b2
                                    try clear hcv38
                                    try clear c39
                                    try clear c39b0
                                    try clear c39b1
                                    try clear c39b2
                                    try clear hcv42
                                    try clear c43
                                    try clear c43b0
                                    try clear c43b1
                                    try clear c43b2
                                    try clear hcv46
                                    try clear c47
                                    try clear c47b0
                                    try clear c47b1
                                    try clear c48
                                    try clear c51
                                    try clear c53
                                    try clear c53b0
                                    try clear c54
                                    try clear c54b0
                                    try clear p55
                                    try clear q55
                                    try clear hx55
                                    try clear c57
                                    try clear c58
                                    try clear c58b0
                                    try clear c59
                                    try clear c59b0
                                    try clear p60
                                    try clear q60
                                    try clear hx60
                                    try clear c61
                                    try clear c61b0
                                    try clear c63
                                    try clear c63b0
                                    try clear c64
                                    try clear c64b0
                                    try clear p64
                                    try clear p65
                                    try clear q65
                                    try clear hx65
                                    try clear c67
                                    try clear c68
                                    try clear c69
                                    try clear c71
                                    try clear c71b0
                                    try clear c71b1
                                    try clear c73
                                    try clear c73b0
                                    try clear p1
                                    try clear p16
                                    try clear p2
                                    try clear p20
                                    try clear p27
                                    try clear p3
                                    try clear p32
                                    try clear p5
                                    try clear p55
                                    try clear p6
                                    try clear p60
                                    try clear p64
                                    try clear p65
                                    try clear q1
                                    try clear q16
                                    try clear q2
                                    try clear q20
                                    try clear q27
                                    try clear q3
                                    try clear q32
                                    try clear q5
                                    try clear q55
                                    try clear q6
                                    try clear q60
                                    try clear q65
                                    obtain ⟨kq, x221_71, rfl, HA, HJ71, HO_4, HB⟩ := hcut
                                    cases kq with
                                    | zero => exact absurd HA.out (by simp [rtok.j10])
                                    | succ kj71 =>
                                      have H := HA.out
                                      clear HA
                                      simp only [rtok.j10] at H
                                      by_cases c74 : x221_71 = true
                                      · subst c74
                                        have H1 : (if 0 ≤ x5_4 then (if x5_4 < (a0.size : Int) then (if (bt a0 x5_4) = 39 then (if (wrap64 (x5_4 + 1)) < (a0.size : Int) then (if 0 ≤ (wrap64 (x5_4 + 1)) then (if (bt a0 (wrap64 (x5_4 + 1))) = 39 then (if x12_4.size + 1 ≤ 9223372036854775807 then (rtok.l4 kj71 a0 x4_1 (wrap64 (x5_4 + 2)) (x12_4 ++ (⟨#[39]⟩ : ByteArray)) x13_4) else (none)) else (rtok.l4 kj71 a0 x4_1 (wrap64 (x5_4 + 1)) x12_4 true)) else (none)) else (rtok.l4 kj71 a0 x4_1 (wrap64 (x5_4 + 1)) x12_4 true)) else (if x5_4 ≤ (wrap64 (x5_4 + 1)) then (if (wrap64 (x5_4 + 1)) ≤ (a0.size : Int) then (if x12_4.size + (a0.extract (x5_4 : Int).toNat ((wrap64 (x5_4 + 1)) : Int).toNat).size ≤ 9223372036854775807 then (rtok.l4 kj71 a0 x4_1 (wrap64 (x5_4 + 1)) (x12_4 ++ (a0.extract (x5_4 : Int).toNat ((wrap64 (x5_4 + 1)) : Int).toNat)) x13_4) else (none)) else (none)) else (none))) else (none)) else (none)) = some (r1, r2) := by rw [if_pos rfl] at H; exact H
                                        clear H
                                        have H := H1
                                        clear H1
                                        by_cases c75 : 0 ≤ x5_4
                                        · rw [if_pos c75] at H
                                          have c75b0 : decide (0 ≤ x5_4) = true := decide_eq_true c75
                                          clear c75
                                          by_cases c76 : x5_4 < (a0.size : Int)
                                          · rw [if_pos c76] at H
                                            have c76b0 : decide (x5_4 < (a0.size : Int)) = true := decide_eq_true c76
                                            clear c76
                                            by_cases c78 : (bt a0 x5_4) = 39
                                            · rw [if_pos c78] at H
                                              have c78b0 : ((bt a0 x5_4) == 39) = true := beq_iff_eq.mpr c78
                                              have c78b1 : ((bt a0 x5_4) != 39) = false := bne_eq_false_iff_eq.mpr c78
                                              clear c78
                                              by_cases c79 : (wrap64 (x5_4 + 1)) < (a0.size : Int)
                                              · rw [if_pos c79] at H
                                                have c79b0 : decide ((wrap64 (x5_4 + 1)) < (a0.size : Int)) = true := decide_eq_true c79
                                                clear c79
                                                obtain ⟨ji80, hji80⟩ : ∃ j_ : Int, (wrap64 (x5_4 + 1)) = j_ := ⟨_, rfl⟩
                                                replace H : (if 0 ≤ (ji80) then (if (bt a0 (ji80)) = 39 then (if x12_4.size + 1 ≤ 9223372036854775807 then (rtok.l4 kj71 a0 x4_1 (wrap64 (x5_4 + 2)) (x12_4 ++ (⟨#[39]⟩ : ByteArray)) x13_4) else (none)) else (rtok.l4 kj71 a0 x4_1 ji80 x12_4 true)) else (none)) = some (r1, r2) := by first | (rw [hji80] at H; exact H) | (simp only [hji80] at H ⊢; exact H)
                                                (try rw [hji80] at c79b0)
                                                have hji80w : (IntKind.i64.wrap (x5_4 + 1)) = ji80 := (i64_w _).trans hji80
                                                by_cases c81 : 0 ≤ (ji80)
                                                · rw [if_pos c81] at H
                                                  have c81b0 : decide (0 ≤ (ji80)) = true := decide_eq_true c81
                                                  clear c81
                                                  by_cases c83 : (bt a0 (ji80)) = 39
                                                  · rw [if_pos c83] at H
                                                    have c83b0 : ((bt a0 (ji80)) == 39) = true := beq_iff_eq.mpr c83
                                                    have c83b1 : ((bt a0 (ji80)) != 39) = false := bne_eq_false_iff_eq.mpr c83
                                                    clear c83
                                                    by_cases c84 : x12_4.size + 1 ≤ 9223372036854775807
                                                    · rw [if_pos c84] at H
                                                      have c84b0 := eq_true c84
                                                      have c84b1 : decide (x12_4.size + 1 ≤ 9223372036854775807) = true := decide_eq_true c84
                                                      try have c84b2 : (9223372036854775807 < x12_4.size + 1) = False := eq_false (Nat.not_lt.2 c84)
                                                      have H' := Aside0.mk H
                                                      clear H
                                                      have p77 : 0 ≤ (x5_4 : Int) := of_decide_eq_true (by first | (with_reducible assumption) | assumption)
                                                      have q77 : x5_4 < (a0.size : Int) := of_decide_eq_true (by first | (with_reducible assumption) | assumption)
                                                      have hx77 := bt_at a0 x5_4
                                                      replace p77 := eq_true p77
                                                      replace q77 := eq_true q77
                                                      have p82 : 0 ≤ ((ji80) : Int) := of_decide_eq_true (by first | (with_reducible assumption) | assumption)
                                                      have q82 : (ji80) < (a0.size : Int) := of_decide_eq_true (by first | (with_reducible assumption) | assumption)
                                                      have hx82 := bt_at a0 (ji80)
                                                      replace p82 := eq_true p82
                                                      replace q82 := eq_true q82
                                                      go_wp2
                                                      go_roundg kj71
                                                      case measure => have := HK1.out; have := HJ5.out; have := HJ10.out; have := HK4.out; have := HJ71.out; omega
                                                      case rel => exact ⟨(wrap64 (x5_4 + 2)), (x12_4 ++ (⟨#[39]⟩ : ByteArray)), (x13_4), (by first | rfl | (simp; done) | (simp [*]; done)), (by first | rfl | (simp; done) | (simp [*]; done)), (by first | rfl | (simp; done) | (simp [*]; done)), H', ⟨by have := HK1.out; have := HJ5.out; have := HJ10.out; have := HK4.out; have := HJ71.out; omega⟩, ⟨by (with_reducible repeat (first | apply Kd.R_alloc | apply Kd.R_drewN | apply Kd.R_drew)); exact HO_4.out⟩, ⟨by repeat (first | (with_reducible first | exact HB.out | apply below_alloc | apply pw_below_drewN | apply below_drew1) | exact HB.out)⟩⟩
                                                    · rw [if_neg c84] at H
                                                      exact absurd H (by simp)
                                                  · rw [if_neg c83] at H
                                                    have c83b0 : ((bt a0 (ji80)) == 39) = false := beq_eq_false_iff_ne.mpr c83
                                                    have c83b1 : ((bt a0 (ji80)) != 39) = true := bne_iff_ne.mpr c83
                                                    have H' := Aside0.mk H
                                                    clear H
                                                    have p77 : 0 ≤ (x5_4 : Int) := of_decide_eq_true (by first | (with_reducible assumption) | assumption)
                                                    have q77 : x5_4 < (a0.size : Int) := of_decide_eq_true (by first | (with_reducible assumption) | assumption)
                                                    have hx77 := bt_at a0 x5_4
                                                    replace p77 := eq_true p77
                                                    replace q77 := eq_true q77
                                                    have p82 : 0 ≤ ((ji80) : Int) := of_decide_eq_true (by first | (with_reducible assumption) | assumption)
                                                    have q82 : (ji80) < (a0.size : Int) := of_decide_eq_true (by first | (with_reducible assumption) | assumption)
                                                    have hx82 := bt_at a0 (ji80)
                                                    replace p82 := eq_true p82
                                                    replace q82 := eq_true q82
                                                    go_wp2
                                                    go_roundg kj71
                                                    case measure => have := HK1.out; have := HJ5.out; have := HJ10.out; have := HK4.out; have := HJ71.out; omega
                                                    case rel => exact ⟨(ji80), (x12_4), (true), (by first | rfl | (simp; done) | (simp only [← hji80] <;> (first | rfl | simp)) | (simp [*]; done)), (by first | rfl | (simp; done) | (simp [*]; done)), (by first | rfl | (simp; done) | (simp [*]; done)), H', ⟨by have := HK1.out; have := HJ5.out; have := HJ10.out; have := HK4.out; have := HJ71.out; omega⟩, ⟨by (with_reducible repeat (first | apply Kd.R_alloc | apply Kd.R_drewN | apply Kd.R_drew)); exact HO_4.out⟩, ⟨by repeat (first | (with_reducible first | exact HB.out | apply below_alloc | apply pw_below_drewN | apply below_drew1) | exact HB.out)⟩⟩
                                                · rw [if_neg c81] at H
                                                  exact absurd H (by simp)
                                              · rw [if_neg c79] at H
                                                have c79b0 : decide ((wrap64 (x5_4 + 1)) < (a0.size : Int)) = false := decide_eq_false c79
                                                clear c79
                                                have H' := Aside0.mk H
                                                clear H
                                                have p77 : 0 ≤ (x5_4 : Int) := of_decide_eq_true (by first | (with_reducible assumption) | assumption)
                                                have q77 : x5_4 < (a0.size : Int) := of_decide_eq_true (by first | (with_reducible assumption) | assumption)
                                                have hx77 := bt_at a0 x5_4
                                                replace p77 := eq_true p77
                                                replace q77 := eq_true q77
                                                go_wp2
                                                go_roundg kj71
                                                case measure => have := HK1.out; have := HJ5.out; have := HJ10.out; have := HK4.out; have := HJ71.out; omega
                                                case rel => exact ⟨(wrap64 (x5_4 + 1)), (x12_4), (true), (by first | rfl | (simp; done) | (simp [*]; done)), (by first | rfl | (simp; done) | (simp [*]; done)), (by first | rfl | (simp; done) | (simp [*]; done)), H', ⟨by have := HK1.out; have := HJ5.out; have := HJ10.out; have := HK4.out; have := HJ71.out; omega⟩, ⟨by (with_reducible repeat (first | apply Kd.R_alloc | apply Kd.R_drewN | apply Kd.R_drew)); exact HO_4.out⟩, ⟨by repeat (first | (with_reducible first | exact HB.out | apply below_alloc | apply pw_below_drewN | apply below_drew1) | exact HB.out)⟩⟩
                                            · rw [if_neg c78] at H
                                              have c78b0 : ((bt a0 x5_4) == 39) = false := beq_eq_false_iff_ne.mpr c78
                                              have c78b1 : ((bt a0 x5_4) != 39) = true := bne_iff_ne.mpr c78
                                              have c85b0 := eq_true (of_decide_eq_true (by first | (with_reducible assumption) | assumption) : 0 ≤ x5_4)
                                              by_cases c86 : x5_4 ≤ (wrap64 (x5_4 + 1))
                                              · rw [if_pos c86] at H
                                                have c86b0 := eq_true c86
                                                have c86b1 : decide (x5_4 ≤ (wrap64 (x5_4 + 1))) = true := decide_eq_true c86
                                                by_cases c87 : (wrap64 (x5_4 + 1)) ≤ (a0.size : Int)
                                                · rw [if_pos c87] at H
                                                  have c87b0 := eq_true c87
                                                  have c87b1 : decide ((wrap64 (x5_4 + 1)) ≤ (a0.size : Int)) = true := decide_eq_true c87
                                                  by_cases c88 : x12_4.size + (a0.extract (x5_4 : Int).toNat ((wrap64 (x5_4 + 1)) : Int).toNat).size ≤ 9223372036854775807
                                                  · rw [if_pos c88] at H
                                                    have c88b0 := eq_true c88
                                                    have c88b1 : decide (x12_4.size + (a0.extract (x5_4 : Int).toNat ((wrap64 (x5_4 + 1)) : Int).toNat).size ≤ 9223372036854775807) = true := decide_eq_true c88
                                                    try have c88b2 : (9223372036854775807 < x12_4.size + (a0.extract (x5_4 : Int).toNat ((wrap64 (x5_4 + 1)) : Int).toNat).size) = False := eq_false (Nat.not_lt.2 c88)
                                                    have H' := Aside0.mk H
                                                    clear H
                                                    have p77 : 0 ≤ (x5_4 : Int) := of_decide_eq_true (by first | (with_reducible assumption) | assumption)
                                                    have q77 : x5_4 < (a0.size : Int) := of_decide_eq_true (by first | (with_reducible assumption) | assumption)
                                                    have hx77 := bt_at a0 x5_4
                                                    replace p77 := eq_true p77
                                                    replace q77 := eq_true q77
                                                    go_wp2
                                                    go_roundg kj71
                                                    case measure => have := HK1.out; have := HJ5.out; have := HJ10.out; have := HK4.out; have := HJ71.out; omega
                                                    case rel => exact ⟨(wrap64 (x5_4 + 1)), (x12_4 ++ (a0.extract (x5_4 : Int).toNat ((wrap64 (x5_4 + 1)) : Int).toNat)), (x13_4), (by first | rfl | (simp; done) | (simp [*]; done)), (by first | rfl | (simp; done) | (simp [*]; done)), (by first | rfl | (simp; done) | (simp [*]; done)), H', ⟨by have := HK1.out; have := HJ5.out; have := HJ10.out; have := HK4.out; have := HJ71.out; omega⟩, ⟨by (with_reducible repeat (first | apply Kd.R_alloc | apply Kd.R_drewN | apply Kd.R_drew)); exact HO_4.out⟩, ⟨by repeat (first | (with_reducible first | exact HB.out | apply below_alloc | apply pw_below_drewN | apply below_drew1) | exact HB.out)⟩⟩
                                                  · rw [if_neg c88] at H
                                                    exact absurd H (by simp)
                                                · rw [if_neg c87] at H
                                                  exact absurd H (by simp)
                                              · rw [if_neg c86] at H
                                                exact absurd H (by simp)
                                          · rw [if_neg c76] at H
                                            exact absurd H (by simp)
                                        · rw [if_neg c75] at H
                                          exact absurd H (by simp)
                                      · replace c74 := Bool.eq_false_iff.mpr c74
                                        subst c74
                                        have H1 : (if x13_4 = true then (if (x12_4.size : Int) > 200 then (some (([] : List (S32)), 28)) else (if x4_1.length < 4398046511104 then (rtok.l0 kj71 a0 (x4_1 ++ [(⟨3, x12_4, 0⟩ : S32)]) x5_4) else (none))) else (some (([] : List (S32)), 20))) = some (r1, r2) := by rw [if_neg (show ¬ (false = true) by decide)] at H; exact H
                                        clear H
                                        have H := H1
                                        clear H1
                                        by_cases c89 : x13_4 = true
                                        · subst c89
                                          have H1 : (if (x12_4.size : Int) > 200 then (some (([] : List (S32)), 28)) else (if x4_1.length < 4398046511104 then (rtok.l0 kj71 a0 (x4_1 ++ [(⟨3, x12_4, 0⟩ : S32)]) x5_4) else (none))) = some (r1, r2) := by rw [if_pos rfl] at H; exact H
                                          clear H
                                          have H := H1
                                          clear H1
                                          by_cases c90 : (x12_4.size : Int) > 200
                                          · rw [if_pos c90] at H
                                            have c90b0 : decide (200 < (x12_4.size : Int)) = true := decide_eq_true c90
                                            have c90b1 : decide (200 < x12_4.size) = true := decide_eq_true (by omega)
                                            clear c90
                                            simp only [Option.some.injEq, Prod.mk.injEq] at H
                                            obtain ⟨rfl, rfl⟩ := H
                                            go_wp2
                                            go_ret2
                                            exact ⟨_, by first | rfl | (simp [errW_none, errW_some] <;> rfl) | (simp [*, errW_none, errW_some] <;> rfl), by first | exact Kd.R_nil _ _ _ _ _ | exact Kd.N_nil _ _ _ _ _ | exact Kd.V_nil _ _ _ _ _ | exact Kd.Q_nil _ _ _ _ _ | exact Kd.S_nil _ _ _ _ _, by repeat (first | (with_reducible first | exact HB.out | apply below_alloc | apply pw_below_drewN | apply below_drew1) | exact HB.out)⟩
                                          · rw [if_neg c90] at H
                                            have c90b0 : decide (200 < (x12_4.size : Int)) = false := decide_eq_false c90
                                            have c90b1 : decide (200 < x12_4.size) = false := decide_eq_false (by omega)
                                            clear c90
                                            by_cases c91 : x4_1.length < 4398046511104
                                            · rw [if_pos c91] at H
                                              have LMc91 := Aside0.mk c91
                                              clear c91
                                              obtain ⟨y138, hy138⟩ : ∃ y_ : List (S32), y_ = (x4_1 ++ [(⟨3, x12_4, 0⟩ : S32)]) := ⟨_, rfl⟩
                                              replace H : (rtok.l0 kj71 a0 y138 x5_4) = some (r1, r2) := by first | (rw [hy138]; with_reducible exact H) | (have H2_ := (Option.bind_some _ _).symm.trans H; rw [hy138]; with_reducible exact H2_) | (have H2_ := (Option.bind_some _ _).symm.trans H; with_reducible exact H2_) | with_reducible exact H | (rw [hy138]; exact H) | exact H
                                              have Ny138 := Aside0.mk hy138
                                              clear hy138
                                              have H' := Aside0.mk H
                                              clear H
                                              go_wp2_with (first | ((with_reducible refine gate_builtin (b := .append) (xs := #[.tmp 258, .tmp 261]) rfl ?_); (try (refine gate_guard (by rfl) ?_; dsimp only)); at_builtin; refine Kd.R_append k32 (w0 := w) w.heap.size rfl (.tmp 258) (.tmp 261) 23 32 (.agg #[(.int .i64 0), (.string ⟨#[]⟩), (.int .i64 0)]) 32 rfl Tryz.underlying23 info32 rfl (by decide) (by omega) u4 x4_1 (⟨3, x12_4, 0⟩ : S32) [.int .i64 3, .string x12_4, .int .i64 0] (fun _ => True) (fun _ => False) rfl rfl ?aP (fun _ hk => hk.elim) ?aF ?aO ?aB ?aS ?aL ?_; (case aP => exact k32_mkM _ _ _ (⟨3, x12_4, 0⟩ : S32)); (case aB => exact (by repeat (first | (with_reducible first | exact HB.out | apply below_alloc | apply pw_below_drewN | apply below_drew1) | exact HB.out))); (case aF => exact (fun _ _ => trivial)); (case aO => exact (by (with_reducible repeat (first | apply Kd.R_alloc | apply Kd.R_drewN | apply Kd.R_drew)); exact HO_4.out)); (case aS => exact (below_size (by repeat (first | (with_reducible first | exact HB.out | apply below_alloc | apply pw_below_drewN | apply below_drew1) | exact HB.out)))); (case aL => have := LMc91.out; omega); intro v139 w92 ho hb hg hat; rw [← Ny138.out] at ho; have n0_ := Aside0.mk (hb); have n1_ := Aside0.mk (ho); clear HB; clear HO_4; have HB := n0_; have HO140 := n1_; clear n0_ n1_; clear ho hb hg hat))
                                              go_roundg kj71
                                              case measure => have := HK1.out; have := HJ5.out; have := HJ10.out; have := HK4.out; have := HJ71.out; omega
                                              case rel => exact ⟨(y138), (x5_4), (by first | rfl | (simp; done) | (simp [*]; done)), H', ⟨by have := HK1.out; have := HJ5.out; have := HJ10.out; have := HK4.out; have := HJ71.out; omega⟩, ⟨by (with_reducible repeat (first | apply Kd.R_alloc | apply Kd.R_drewN | apply Kd.R_drew)); exact HO140.out⟩, ⟨by repeat (first | (with_reducible first | exact HB.out | apply below_alloc | apply pw_below_drewN | apply below_drew1) | exact HB.out)⟩⟩
                                            · rw [if_neg c91] at H
                                              exact absurd H (by simp)
                                        · replace c89 := Bool.eq_false_iff.mpr c89
                                          subst c89
                                          have H1 : (some (([] : List (S32)), 20)) = some (r1, r2) := by rw [if_neg (show ¬ (false = true) by decide)] at H; exact H
                                          clear H
                                          have H := H1
                                          clear H1
                                          simp only [Option.some.injEq, Prod.mk.injEq] at H
                                          obtain ⟨rfl, rfl⟩ := H
                                          go_wp2
                                          go_ret2
                                          exact ⟨_, by first | rfl | (simp [errW_none, errW_some] <;> rfl) | (simp [*, errW_none, errW_some] <;> rfl), by first | exact Kd.R_nil _ _ _ _ _ | exact Kd.N_nil _ _ _ _ _ | exact Kd.V_nil _ _ _ _ _ | exact Kd.Q_nil _ _ _ _ _ | exact Kd.S_nil _ _ _ _ _, by repeat (first | (with_reducible first | exact HB.out | apply below_alloc | apply pw_below_drewN | apply below_drew1) | exact HB.out)⟩
                            · rw [if_neg c71] at H
                              have c71b0 : ((bt a0 x5_1) == 39) = false := beq_eq_false_iff_ne.mpr c71
                              have c71b1 : ((bt a0 x5_1) != 39) = true := bne_iff_ne.mpr c71
                              obtain ⟨y141, hy141⟩ : ∃ y_ : List ByteArray, y_ = (([(⟨#[60, 61]⟩ : ByteArray), (⟨#[62, 61]⟩ : ByteArray), (⟨#[60, 62]⟩ : ByteArray), (⟨#[124, 124]⟩ : ByteArray)] : List ByteArray)) := ⟨_, rfl⟩
                              replace H : (rtok.l5 kj10 a0 x4_1 x5_1 (bt a0 x5_1) 0 y141 (y141.length : Int) 0) = some (r1, r2) := by first | (rw [hy141]; with_reducible exact H) | (have H2_ := (Option.bind_some _ _).symm.trans H; rw [hy141]; with_reducible exact H2_) | (have H2_ := (Option.bind_some _ _).symm.trans H; with_reducible exact H2_) | with_reducible exact H | (rw [hy141]; exact H) | exact H
                              have Ny141 := Aside0.mk hy141
                              clear hy141
                              have H' := Aside0.mk H
                              clear H
                              go_wp2_with (first | ((with_reducible refine gate_callee (f := 61) rfl ?_); refine goesL_ (some 126) rfl rfl Tryz.func61 (by kernel_rfl) rfl #[.int .u8 (bt a0 x5_1)] rfl (by (try simp only [List.map_toArray, List.map_cons, List.map_nil]); first | done | rfl | (simp only [List.length_drop, List.length_take]; rfl)) ?_; (with_reducible refine (vidimusref16_letter.calls (bt a0 x5_1) false _ A22.out).mono ?_); rintro e w' ⟨rfl, ⟨nd, rfl⟩⟩; refine ⟨_, rfl, ?_⟩) | ((with_reducible refine gate_callee (f := 63) rfl ?_); refine goesL_ (some 165) rfl rfl Tryz.func63 (by kernel_rfl) rfl #[.int .u8 (bt a0 x5_1)] rfl (by (try simp only [List.map_toArray, List.map_cons, List.map_nil]); first | done | rfl | (simp only [List.length_drop, List.length_take]; rfl)) ?_; (with_reducible refine (vidimusref16_digit.calls (bt a0 x5_1) false _ A50.out).mono ?_); rintro e w' ⟨rfl, ⟨nd, rfl⟩⟩; refine ⟨_, rfl, ?_⟩) | ((with_reducible refine gate_dst (N := 29) rfl ?_); (try (refine gate_guard (by rfl) ?_; dsimp only)); refine Kd.R_lit Kd.string _ 9 ?hg (N := 29) ?hd (xs := ([(⟨#[60, 61]⟩ : ByteArray), (⟨#[62, 61]⟩ : ByteArray), (⟨#[60, 62]⟩ : ByteArray), (⟨#[124, 124]⟩ : ByteArray)] : List ByteArray)) (inner := [.string (⟨#[60, 61]⟩ : ByteArray), .string (⟨#[62, 61]⟩ : ByteArray), .string (⟨#[60, 62]⟩ : ByteArray), .string (⟨#[124, 124]⟩ : ByteArray)]) (ok := fun _ => True) (okp := fun _ => True) ?hr ?hp (fun _ hk => hk) trivial (Below.refl _ _) (Nat.le_refl _) (by simp) ?_; (case hd => rfl); (case hg => rfl); (case hr => first | (go_simp; done) | (go_simp; rfl)); (case hp => exact (Reps.one (show Kd.M Kd.string _ _ _ (⟨#[60, 61]⟩ : ByteArray) [.string (⟨#[60, 61]⟩ : ByteArray)] from rfl) (Reps.one (show Kd.M Kd.string _ _ _ (⟨#[62, 61]⟩ : ByteArray) [.string (⟨#[62, 61]⟩ : ByteArray)] from rfl) (Reps.one (show Kd.M Kd.string _ _ _ (⟨#[60, 62]⟩ : ByteArray) [.string (⟨#[60, 62]⟩ : ByteArray)] from rfl) (Reps.one (show Kd.M Kd.string _ _ _ (⟨#[124, 124]⟩ : ByteArray) [.string (⟨#[124, 124]⟩ : ByteArray)] from rfl) (Reps.none _ _)))))); intro v142 w93 ho94 hb hg_ hnew_; clear hg_ hnew_; (first | rw [← Ny141.out] at ho94 | (simp only [Int.reduceToNat] at ho94; rw [← Ny141.out] at ho94)); have n0_ := Aside0.mk (Kd.R_below (by (with_reducible repeat (first | apply Kd.R_alloc | apply Kd.R_drewN | apply Kd.R_drew)); exact HO_4.out) hb); have n1_ := Aside0.mk (Kd.R_lower ho94 (below_size (by repeat (first | (with_reducible first | exact HB.out | apply below_alloc | apply pw_below_drewN | apply below_drew1) | exact HB.out)))); have n2_ := Aside0.mk (below_step (by repeat (first | (with_reducible first | exact HB.out | apply below_alloc | apply pw_below_drewN | apply below_drew1) | exact HB.out)) hb); clear HO_4; clear HB; have HO_4 := n0_; have HO143 := n1_; have HB := n2_; clear n0_ n1_ n2_; clear hb ho94; obtain ⟨Ao95, co95, eo95⟩ := Kd.R_slice HO143.out; subst eo95))
                              go_loopg [14, 31] kj10 (fun kq v14 v31 w' => ∃ (x14_4 : Int) (x31_4 : Int), v14 = .int .i64 x14_4 ∧ v31 = .int .i64 x31_4 ∧ Aside0 (rtok.l5 kq a0 x4_1 x5_1 (bt a0 x5_1) x14_4 y141 (y141.length : Int) x31_4 = some (r1, r2)) ∧ Aside0 (kq ≤ kj10) ∧ Aside0 (Kd.R k32 32 w' w.heap.size (fun _ => True) u4 x4_1) ∧ Aside0 (Kd.R Kd.string 9 w' w.heap.size (fun _ => True) (.slice Ao95 y141.length co95) y141) ∧ Aside0 (Below w.heap.size w w'))
                              case atStart => exact ⟨(0), (0), (by first | rfl | (simp; done) | (simp [*]; done)), (by first | rfl | (simp; done) | (simp [*]; done)), H', ⟨Nat.le_refl _⟩, ⟨by (with_reducible repeat (first | apply Kd.R_alloc | apply Kd.R_drewN | apply Kd.R_drew)); exact HO_4.out⟩, ⟨by (with_reducible repeat (first | apply Kd.R_alloc | apply Kd.R_drewN | apply Kd.R_drew)); exact HO143.out⟩, ⟨by repeat (first | (with_reducible first | exact HB.out | apply below_alloc | apply pw_below_drewN | apply below_drew1) | exact HB.out)⟩⟩
                              case round => as_aux_lemma =>
                                clear H'
                                try clear c1
                                try clear p1
                                try clear q1
                                try clear hx1
                                try clear c2
                                try clear c2b0
                                try clear c2b1
                                try clear p2
                                try clear q2
                                try clear hx2
                                try clear c3
                                try clear c3b0
                                try clear p3
                                try clear q3
                                try clear hx3
                                try clear hcv3
                                try clear c4
                                try clear c4b0
                                try clear hcv4
                                try clear c5
                                try clear p5
                                try clear q5
                                try clear hx5
                                try clear c6
                                try clear p6
                                try clear q6
                                try clear hx6
                                try clear c7
                                try clear c7b0
                                try clear c7b1
                                try clear p7
                                try clear q7
                                try clear hx7
                                try clear c8
                                try clear c8b0
                                try clear c8b1
                                try clear p8
                                try clear q8
                                try clear hx8
                                try clear c9
                                try clear c9b0
                                try clear c9b1
                                try clear c10
                                try clear c12
                                try clear c12b0
                                try clear c12b1
                                try clear c13
                                try clear c13b0
                                try clear c15
                                try clear c15b0
                                try clear p16
                                try clear q16
                                try clear hx16
                                try clear c17
                                try clear c18
                                try clear c18b0
                                try clear c19
                                try clear c19b0
                                try clear p20
                                try clear q20
                                try clear hx20
                                try clear c21
                                try clear c21b0
                                try clear c21b1
                                try clear c23
                                try clear c25
                                try clear c25b0
                                try clear c26
                                try clear c26b0
                                try clear p27
                                try clear q27
                                try clear hx27
                                try clear c29
                                try clear c30
                                try clear c30b0
                                try clear c31
                                try clear c31b0
                                try clear p32
                                try clear q32
                                try clear hx32
                                try clear c33
                                try clear c33b0
                                try clear c34
                                try clear c34b0
                                try clear c35
                                try clear c35b0
                                try clear c35b1
                                try clear c35b2
                                try clear hcv38
                                try clear c39
                                try clear c39b0
                                try clear c39b1
                                try clear c39b2
                                try clear hcv42
                                try clear c43
                                try clear c43b0
                                try clear c43b1
                                try clear c43b2
                                try clear hcv46
                                try clear c47
                                try clear c47b0
                                try clear c47b1
                                try clear c48
                                try clear c51
                                try clear c53
                                try clear c53b0
                                try clear c54
                                try clear c54b0
                                try clear p55
                                try clear q55
                                try clear hx55
                                try clear c57
                                try clear c58
                                try clear c58b0
                                try clear c59
                                try clear c59b0
                                try clear p60
                                try clear q60
                                try clear hx60
                                try clear c61
                                try clear c61b0
                                try clear c63
                                try clear c63b0
                                try clear c64
                                try clear c64b0
                                try clear p64
                                try clear p65
                                try clear q65
                                try clear hx65
                                try clear c67
                                try clear c68
                                try clear c69
                                try clear c71
                                try clear c71b0
                                try clear c71b1
                                try clear c73
                                try clear c73b0
                                try clear c74
                                try clear c75
                                try clear c75b0
                                try clear c76
                                try clear c76b0
                                try clear p77
                                try clear q77
                                try clear hx77
                                try clear c78
                                try clear c78b0
                                try clear c78b1
                                try clear c79
                                try clear c79b0
                                try clear c81
                                try clear c81b0
                                try clear p82
                                try clear q82
                                try clear hx82
                                try clear c83
                                try clear c83b0
                                try clear c83b1
                                try clear c84
                                try clear c84b0
                                try clear c84b1
                                try clear c84b2
                                try clear c85
                                try clear c85b0
                                try clear c86
                                try clear c86b0
                                try clear c86b1
                                try clear c87
                                try clear c87b0
                                try clear c87b1
                                try clear c88
                                try clear c88b0
                                try clear c88b1
                                try clear c88b2
                                try clear c89
                                try clear c90
                                try clear c90b0
                                try clear c90b1
                                try clear c91
                                try clear p1
                                try clear p16
                                try clear p2
                                try clear p20
                                try clear p27
                                try clear p3
                                try clear p32
                                try clear p5
                                try clear p55
                                try clear p6
                                try clear p60
                                try clear p64
                                try clear p65
                                try clear p77
                                try clear p82
                                try clear q1
                                try clear q16
                                try clear q2
                                try clear q20
                                try clear q27
                                try clear q3
                                try clear q32
                                try clear q5
                                try clear q55
                                try clear q6
                                try clear q60
                                try clear q65
                                try clear q77
                                try clear q82
                                obtain ⟨x14_4, x31_4, rfl, rfl, HA, HK4, HO_4, HO_29, HB⟩ := hrel
                                cases gk with
                                | zero => exact absurd HA.out (by simp [rtok.l5])
                                | succ k4 =>
                                  have H := HA.out
                                  clear HA
                                  simp only [rtok.l5] at H
                                  by_cases c96 : x31_4 < (y141.length : Int)
                                  · rw [if_pos c96] at H
                                    have c96b0 : decide (x31_4 < (y141.length : Int)) = true := decide_eq_true c96
                                    clear c96
                                    by_cases c97 : 0 ≤ x31_4
                                    · rw [if_pos c97] at H
                                      have c97b0 : decide (0 ≤ x31_4) = true := decide_eq_true c97
                                      clear c97
                                      by_cases c98 : x31_4 < (y141.length : Int)
                                      · rw [if_pos c98] at H
                                        have c98b0 : decide (x31_4 < (y141.length : Int)) = true := decide_eq_true c98
                                        clear c98
                                        by_cases c99 : (wrap64 (x5_1 + 2)) ≤ (a0.size : Int)
                                        · rw [if_pos c99] at H
                                          have c99b0 : decide ((wrap64 (x5_1 + 2)) ≤ (a0.size : Int)) = true := decide_eq_true c99
                                          clear c99
                                          by_cases c100 : 0 ≤ x5_1
                                          · rw [if_pos c100] at H
                                            have c100b0 := eq_true c100
                                            have c100b1 : decide (0 ≤ x5_1) = true := decide_eq_true c100
                                            clear c100
                                            by_cases c101 : x5_1 ≤ (wrap64 (x5_1 + 2))
                                            · rw [if_pos c101] at H
                                              have c101b0 := eq_true c101
                                              have c101b1 : decide (x5_1 ≤ (wrap64 (x5_1 + 2))) = true := decide_eq_true c101
                                              have c102b0 := eq_true (of_decide_eq_true (by first | (with_reducible assumption) | assumption) : (wrap64 (x5_1 + 2)) ≤ (a0.size : Int))
                                              by_cases c103 : (a0.extract (x5_1 : Int).toNat ((wrap64 (x5_1 + 2)) : Int).toNat).toList = (rdOf ByteArray.empty y141 x31_4).toList
                                              · rw [if_pos c103] at H
                                                have c103b0 : ((a0.extract (x5_1 : Int).toNat ((wrap64 (x5_1 + 2)) : Int).toNat).toList == (rdOf ByteArray.empty y141 x31_4).toList) = true := beq_iff_eq.mpr c103
                                                have c103b1 : ((a0.extract (x5_1 : Int).toNat ((wrap64 (x5_1 + 2)) : Int).toNat).toList != (rdOf ByteArray.empty y141 x31_4).toList) = false := bne_eq_false_iff_eq.mpr c103
                                                clear c103
                                                have H' := Aside0.mk H
                                                clear H
                                                have p144 : 0 ≤ (x31_4 : Int) := of_decide_eq_true (by first | (with_reducible assumption) | assumption)
                                                have q144 : x31_4 < (y141.length : Int) := of_decide_eq_true (by first | (with_reducible assumption) | assumption)
                                                obtain ⟨ad144, e144, hx144_0⟩ := Kd.at_string (Kd.R_reads' HO_29.out).2.2 x31_4 p144 q144
                                                cases e144
                                                replace p144 := eq_true p144
                                                replace q144 := eq_true q144
                                                go_wp2
                                                go_roundg k4
                                                case measure => have := HK1.out; have := HJ5.out; have := HJ10.out; have := HK4.out; omega
                                                case rel => exact ⟨(2), (wrap64 (x31_4 + 1)), (by first | rfl | (simp; done) | (simp [*]; done)), (by first | rfl | (simp; done) | (simp [*]; done)), H', ⟨by have := HK1.out; have := HJ5.out; have := HJ10.out; have := HK4.out; omega⟩, ⟨by (with_reducible repeat (first | apply Kd.R_alloc | apply Kd.R_drewN | apply Kd.R_drew)); exact HO_4.out⟩, ⟨by (with_reducible repeat (first | apply Kd.R_alloc | apply Kd.R_drewN | apply Kd.R_drew)); exact HO_29.out⟩, ⟨by repeat (first | (with_reducible first | exact HB.out | apply below_alloc | apply pw_below_drewN | apply below_drew1) | exact HB.out)⟩⟩
                                              · rw [if_neg c103] at H
                                                have c103b0 : ((a0.extract (x5_1 : Int).toNat ((wrap64 (x5_1 + 2)) : Int).toNat).toList == (rdOf ByteArray.empty y141 x31_4).toList) = false := beq_eq_false_iff_ne.mpr c103
                                                have c103b1 : ((a0.extract (x5_1 : Int).toNat ((wrap64 (x5_1 + 2)) : Int).toNat).toList != (rdOf ByteArray.empty y141 x31_4).toList) = true := bne_iff_ne.mpr c103
                                                have H' := Aside0.mk H
                                                clear H
                                                have p144 : 0 ≤ (x31_4 : Int) := of_decide_eq_true (by first | (with_reducible assumption) | assumption)
                                                have q144 : x31_4 < (y141.length : Int) := of_decide_eq_true (by first | (with_reducible assumption) | assumption)
                                                obtain ⟨ad144, e144, hx144_0⟩ := Kd.at_string (Kd.R_reads' HO_29.out).2.2 x31_4 p144 q144
                                                cases e144
                                                replace p144 := eq_true p144
                                                replace q144 := eq_true q144
                                                go_wp2
                                                go_roundg k4
                                                case measure => have := HK1.out; have := HJ5.out; have := HJ10.out; have := HK4.out; omega
                                                case rel => exact ⟨(x14_4), (wrap64 (x31_4 + 1)), (by first | rfl | (simp; done) | (simp [*]; done)), (by first | rfl | (simp; done) | (simp [*]; done)), H', ⟨by have := HK1.out; have := HJ5.out; have := HJ10.out; have := HK4.out; omega⟩, ⟨by (with_reducible repeat (first | apply Kd.R_alloc | apply Kd.R_drewN | apply Kd.R_drew)); exact HO_4.out⟩, ⟨by (with_reducible repeat (first | apply Kd.R_alloc | apply Kd.R_drewN | apply Kd.R_drew)); exact HO_29.out⟩, ⟨by repeat (first | (with_reducible first | exact HB.out | apply below_alloc | apply pw_below_drewN | apply below_drew1) | exact HB.out)⟩⟩
                                            · rw [if_neg c101] at H
                                              exact absurd H (by simp)
                                          · rw [if_neg c100] at H
                                            exact absurd H (by simp)
                                        · rw [if_neg c99] at H
                                          have c99b0 : decide ((wrap64 (x5_1 + 2)) ≤ (a0.size : Int)) = false := decide_eq_false c99
                                          clear c99
                                          have H' := Aside0.mk H
                                          clear H
                                          have p144 : 0 ≤ (x31_4 : Int) := of_decide_eq_true (by first | (with_reducible assumption) | assumption)
                                          have q144 : x31_4 < (y141.length : Int) := of_decide_eq_true (by first | (with_reducible assumption) | assumption)
                                          obtain ⟨ad144, e144, hx144_0⟩ := Kd.at_string (Kd.R_reads' HO_29.out).2.2 x31_4 p144 q144
                                          cases e144
                                          replace p144 := eq_true p144
                                          replace q144 := eq_true q144
                                          go_wp2
                                          go_roundg k4
                                          case measure => have := HK1.out; have := HJ5.out; have := HJ10.out; have := HK4.out; omega
                                          case rel => exact ⟨(x14_4), (wrap64 (x31_4 + 1)), (by first | rfl | (simp; done) | (simp [*]; done)), (by first | rfl | (simp; done) | (simp [*]; done)), H', ⟨by have := HK1.out; have := HJ5.out; have := HJ10.out; have := HK4.out; omega⟩, ⟨by (with_reducible repeat (first | apply Kd.R_alloc | apply Kd.R_drewN | apply Kd.R_drew)); exact HO_4.out⟩, ⟨by (with_reducible repeat (first | apply Kd.R_alloc | apply Kd.R_drewN | apply Kd.R_drew)); exact HO_29.out⟩, ⟨by repeat (first | (with_reducible first | exact HB.out | apply below_alloc | apply pw_below_drewN | apply below_drew1) | exact HB.out)⟩⟩
                                      · rw [if_neg c98] at H
                                        exact absurd H (by simp)
                                    · rw [if_neg c97] at H
                                      exact absurd H (by simp)
                                  · rw [if_neg c96] at H
                                    have c96b0 : decide (x31_4 < (y141.length : Int)) = false := decide_eq_false c96
                                    clear c96
                                    by_cases c104 : x14_4 = 0
                                    · rw [if_pos c104] at H
                                      have c104b0 : (x14_4 == 0) = true := beq_iff_eq.mpr c104
                                      have c104b1 : (x14_4 != 0) = false := bne_eq_false_iff_eq.mpr c104
                                      clear c104
                                      obtain ⟨y145, hy145⟩ : ∃ y_ : List Int, y_ = (([40, 41, 44, 42, 43, 45, 47, 37, 61, 60, 62, 59] : List Int)) := ⟨_, rfl⟩
                                      replace H : (rtok.l6 k4 a0 x4_1 x5_1 (bt a0 x5_1) x14_4 y145 (y145.length : Int) 0) = some (r1, r2) := by first | (rw [hy145]; with_reducible exact H) | (have H2_ := (Option.bind_some _ _).symm.trans H; rw [hy145]; with_reducible exact H2_) | (have H2_ := (Option.bind_some _ _).symm.trans H; with_reducible exact H2_) | with_reducible exact H | (rw [hy145]; exact H) | exact H
                                      have Ny145 := Aside0.mk hy145
                                      clear hy145
                                      have H' := Aside0.mk H
                                      clear H
                                      have hy12 : y145.length = 12 := by rw [Ny145.out]; rfl
                                      go_upto_region 15 with (fail)
                                      apply wp_region_lit
                                      refine ones_step _ _ (by show 52 < 267; decide) (fun ad107 w107 hC107 hb107 => ?_)
                                      have n0_ := Aside0.mk (Kd.R_below HO_4.out hb107)
                                      have n1_ := Aside0.mk (below_step HB.out hb107)
                                      have HO_53 := Aside0.mk (show (Kd.int .u8).C w107 (some ad107) y145.length y145 by rw [Ny145.out]; exact hC107)
                                      clear HO_4 HB
                                      have HO_4 := n0_
                                      have HB := n1_
                                      clear n0_ n1_ hC107 hb107
                                      simp only [Act.put, List.setIfInBounds_toArray, List.set_cons_zero, List.set_cons_succ]
                                      go_wp2
                                      go_loopg [14, 55] k4 (fun kq v14 v55 w' => ∃ (x14_5 : Int) (x55_5 : Int), v14 = .int .i64 x14_5 ∧ v55 = .int .i64 x55_5 ∧ Aside0 (rtok.l6 kq a0 x4_1 x5_1 (bt a0 x5_1) x14_5 y145 (y145.length : Int) x55_5 = some (r1, r2)) ∧ Aside0 (kq ≤ k4) ∧ Aside0 (Kd.R k32 32 w' w.heap.size (fun _ => True) u4 x4_1) ∧ Aside0 (Kd.C (Kd.int .u8) w' (some ad107) y145.length y145) ∧ Aside0 (Below w.heap.size w w'))
                                      case atStart => exact ⟨(x14_4), (0), (by first | rfl | (simp; done) | (simp [*]; done)), (by first | rfl | (simp; done) | (simp [*]; done)), H', ⟨Nat.le_refl _⟩, ⟨by (with_reducible repeat (first | apply Kd.R_alloc | apply Kd.R_drewN | apply Kd.R_drew)); exact HO_4.out⟩, ⟨HO_53.out⟩, ⟨by repeat (first | (with_reducible first | exact HB.out | apply below_alloc | apply pw_below_drewN | apply below_drew1) | exact HB.out)⟩⟩
                                      case round => as_aux_lemma =>
                                        clear H'
                                        try clear c1
                                        try clear p1
                                        try clear q1
                                        try clear hx1
                                        try clear c2
                                        try clear c2b0
                                        try clear c2b1
                                        try clear p2
                                        try clear q2
                                        try clear hx2
                                        try clear c3
                                        try clear c3b0
                                        try clear p3
                                        try clear q3
                                        try clear hx3
                                        try clear hcv3
                                        try clear c4
                                        try clear c4b0
                                        try clear hcv4
                                        try clear c5
                                        try clear p5
                                        try clear q5
                                        try clear hx5
                                        try clear c6
                                        try clear p6
                                        try clear q6
                                        try clear hx6
                                        try clear c7
                                        try clear c7b0
                                        try clear c7b1
                                        try clear p7
                                        try clear q7
                                        try clear hx7
                                        try clear c8
                                        try clear c8b0
                                        try clear c8b1
                                        try clear p8
                                        try clear q8
                                        try clear hx8
                                        try clear c9
                                        try clear c9b0
                                        try clear c9b1
                                        try clear c10
                                        try clear c12
                                        try clear c12b0
                                        try clear c12b1
                                        try clear c13
                                        try clear c13b0
                                        try clear p14
                                        try clear q14
                                        try clear hx14
                                        try clear c15
                                        try clear c15b0
                                        try clear p16
                                        try clear q16
                                        try clear hx16
                                        try clear c17
                                        try clear c18
                                        try clear c18b0
                                        try clear c19
                                        try clear c19b0
                                        try clear p20
                                        try clear q20
                                        try clear hx20
                                        try clear c21
                                        try clear c21b0
                                        try clear c21b1
                                        try clear c23
                                        try clear c25
                                        try clear c25b0
                                        try clear c26
                                        try clear c26b0
                                        try clear p27
                                        try clear q27
                                        try clear hx27
                                        try clear c29
                                        try clear c30
                                        try clear c30b0
                                        try clear c31
                                        try clear c31b0
                                        try clear p32
                                        try clear q32
                                        try clear hx32
                                        try clear c33
                                        try clear c33b0
                                        try clear c34
                                        try clear c34b0
                                        try clear c35
                                        try clear c35b0
                                        try clear c35b1
                                        try clear c35b2
                                        try clear hcv38
                                        try clear c39
                                        try clear c39b0
                                        try clear c39b1
                                        try clear c39b2
                                        try clear hcv42
                                        try clear c43
                                        try clear c43b0
                                        try clear c43b1
                                        try clear c43b2
                                        try clear hcv46
                                        try clear c47
                                        try clear c47b0
                                        try clear c47b1
                                        try clear c48
                                        try clear c51
                                        try clear c53
                                        try clear c53b0
                                        try clear c54
                                        try clear c54b0
                                        try clear p55
                                        try clear q55
                                        try clear hx55
                                        try clear c57
                                        try clear c58
                                        try clear c58b0
                                        try clear c59
                                        try clear c59b0
                                        try clear p60
                                        try clear q60
                                        try clear hx60
                                        try clear c61
                                        try clear c61b0
                                        try clear c63
                                        try clear c63b0
                                        try clear c64
                                        try clear c64b0
                                        try clear p64
                                        try clear p65
                                        try clear q65
                                        try clear hx65
                                        try clear c67
                                        try clear c68
                                        try clear c69
                                        try clear c71
                                        try clear c71b0
                                        try clear c71b1
                                        try clear c73
                                        try clear c73b0
                                        try clear c74
                                        try clear c75
                                        try clear c75b0
                                        try clear c76
                                        try clear c76b0
                                        try clear p77
                                        try clear q77
                                        try clear hx77
                                        try clear c78
                                        try clear c78b0
                                        try clear c78b1
                                        try clear c79
                                        try clear c79b0
                                        try clear c81
                                        try clear c81b0
                                        try clear p82
                                        try clear q82
                                        try clear hx82
                                        try clear c83
                                        try clear c83b0
                                        try clear c83b1
                                        try clear c84
                                        try clear c84b0
                                        try clear c84b1
                                        try clear c84b2
                                        try clear c85
                                        try clear c85b0
                                        try clear c86
                                        try clear c86b0
                                        try clear c86b1
                                        try clear c87
                                        try clear c87b0
                                        try clear c87b1
                                        try clear c88
                                        try clear c88b0
                                        try clear c88b1
                                        try clear c88b2
                                        try clear c89
                                        try clear c90
                                        try clear c90b0
                                        try clear c90b1
                                        try clear c91
                                        try clear c96
                                        try clear c96b0
                                        try clear c97
                                        try clear c97b0
                                        try clear c98
                                        try clear c98b0
                                        try clear c99
                                        try clear c99b0
                                        try clear c100
                                        try clear c100b0
                                        try clear c100b1
                                        try clear c101
                                        try clear c101b0
                                        try clear c101b1
                                        try clear c102
                                        try clear c102b0
                                        try clear c103
                                        try clear c103b0
                                        try clear c103b1
                                        try clear c104
                                        try clear c104b0
                                        try clear c104b1
                                        try clear hx144_0
                                        try clear p1
                                        try clear p144
                                        try clear p16
                                        try clear p2
                                        try clear p20
                                        try clear p27
                                        try clear p3
                                        try clear p32
                                        try clear p5
                                        try clear p55
                                        try clear p6
                                        try clear p60
                                        try clear p64
                                        try clear p65
                                        try clear p7
                                        try clear p77
                                        try clear p8
                                        try clear p82
                                        try clear q1
                                        try clear q144
                                        try clear q16
                                        try clear q2
                                        try clear q20
                                        try clear q27
                                        try clear q3
                                        try clear q32
                                        try clear q5
                                        try clear q55
                                        try clear q6
                                        try clear q60
                                        try clear q65
                                        try clear q7
                                        try clear q77
                                        try clear q8
                                        try clear q82
                                        obtain ⟨x14_5, x55_5, rfl, rfl, HA, HK5, HO_4, HO_53, HB⟩ := hrel
                                        cases gk with
                                        | zero => exact absurd HA.out (by simp [rtok.l6])
                                        | succ k5 =>
                                          have H := HA.out
                                          clear HA
                                          simp only [rtok.l6] at H
                                          by_cases c108 : x55_5 < (y145.length : Int)
                                          · rw [if_pos c108] at H
                                            have c108b0 : decide (x55_5 < 12) = true := decide_eq_true (by have := c108; rw [hy12] at this; omega)
                                            clear c108
                                            by_cases c109 : 0 ≤ x55_5
                                            · rw [if_pos c109] at H
                                              have c109b0 : decide (0 ≤ x55_5) = true := decide_eq_true c109
                                              clear c109
                                              by_cases c110 : x55_5 < (y145.length : Int)
                                              · rw [if_pos c110] at H
                                                have c110b0 : decide (x55_5 < 12) = true := decide_eq_true (by have := c110; rw [hy12] at this; omega)
                                                clear c110
                                                by_cases c111 : (bt a0 x5_1) = (rd y145 x55_5)
                                                · rw [if_pos c111] at H
                                                  have c111b0 : ((bt a0 x5_1) == (rd y145 x55_5)) = true := beq_iff_eq.mpr c111
                                                  have c111b1 : ((bt a0 x5_1) != (rd y145 x55_5)) = false := bne_eq_false_iff_eq.mpr c111
                                                  clear c111
                                                  have H' := Aside0.mk H
                                                  clear H
                                                  have p148 : 0 ≤ (x55_5 : Int) := of_decide_eq_true (by first | (with_reducible assumption) | assumption)
                                                  have q148 : x55_5 < (y145.length : Int) := by rw [hy12]; exact of_decide_eq_true (by first | (with_reducible assumption) | assumption)
                                                  obtain ⟨ad148, e148, hx148_0⟩ := Kd.at_int HO_53.out x55_5 p148 q148
                                                  cases e148
                                                  replace p148 := eq_true p148
                                                  replace q148 : (x55_5 < 12) = True := eq_true (by rw [hy12] at q148; omega)
                                                  go_wp2
                                                  go_roundg k5
                                                  case measure => have := HK1.out; have := HJ5.out; have := HJ10.out; have := HK4.out; have := HK5.out; omega
                                                  case rel => exact ⟨(1), (wrap64 (x55_5 + 1)), (by first | rfl | (simp; done) | (simp [*]; done)), (by first | rfl | (simp; done) | (simp [*]; done)), H', ⟨by have := HK1.out; have := HJ5.out; have := HJ10.out; have := HK4.out; have := HK5.out; omega⟩, ⟨by (with_reducible repeat (first | apply Kd.R_alloc | apply Kd.R_drewN | apply Kd.R_drew)); exact HO_4.out⟩, ⟨by first | exact HO_53.out | exact Kd.C_below HO_53.out (by repeat (first | exact Below.refl _ _ | apply below_alloc | apply pw_below_drewN | apply below_drew1))⟩, ⟨by repeat (first | (with_reducible first | exact HB.out | apply below_alloc | apply pw_below_drewN | apply below_drew1) | exact HB.out)⟩⟩
                                                · rw [if_neg c111] at H
                                                  have c111b0 : ((bt a0 x5_1) == (rd y145 x55_5)) = false := beq_eq_false_iff_ne.mpr c111
                                                  have c111b1 : ((bt a0 x5_1) != (rd y145 x55_5)) = true := bne_iff_ne.mpr c111
                                                  have H' := Aside0.mk H
                                                  clear H
                                                  have p148 : 0 ≤ (x55_5 : Int) := of_decide_eq_true (by first | (with_reducible assumption) | assumption)
                                                  have q148 : x55_5 < (y145.length : Int) := by rw [hy12]; exact of_decide_eq_true (by first | (with_reducible assumption) | assumption)
                                                  obtain ⟨ad148, e148, hx148_0⟩ := Kd.at_int HO_53.out x55_5 p148 q148
                                                  cases e148
                                                  replace p148 := eq_true p148
                                                  replace q148 : (x55_5 < 12) = True := eq_true (by rw [hy12] at q148; omega)
                                                  go_wp2
                                                  go_roundg k5
                                                  case measure => have := HK1.out; have := HJ5.out; have := HJ10.out; have := HK4.out; have := HK5.out; omega
                                                  case rel => exact ⟨(x14_5), (wrap64 (x55_5 + 1)), (by first | rfl | (simp; done) | (simp [*]; done)), (by first | rfl | (simp; done) | (simp [*]; done)), H', ⟨by have := HK1.out; have := HJ5.out; have := HJ10.out; have := HK4.out; have := HK5.out; omega⟩, ⟨by (with_reducible repeat (first | apply Kd.R_alloc | apply Kd.R_drewN | apply Kd.R_drew)); exact HO_4.out⟩, ⟨by first | exact HO_53.out | exact Kd.C_below HO_53.out (by repeat (first | exact Below.refl _ _ | apply below_alloc | apply pw_below_drewN | apply below_drew1))⟩, ⟨by repeat (first | (with_reducible first | exact HB.out | apply below_alloc | apply pw_below_drewN | apply below_drew1) | exact HB.out)⟩⟩
                                              · rw [if_neg c110] at H
                                                exact absurd H (by simp)
                                            · rw [if_neg c109] at H
                                              exact absurd H (by simp)
                                          · rw [if_neg c108] at H
                                            have c108b0 : decide (x55_5 < 12) = false := decide_eq_false (by have := c108; rw [hy12] at this; omega)
                                            clear c108
                                            by_cases c112 : x14_5 = 0
                                            · rw [if_pos c112] at H
                                              have c112b0 : (x14_5 == 0) = true := beq_iff_eq.mpr c112
                                              have c112b1 : (x14_5 != 0) = false := bne_eq_false_iff_eq.mpr c112
                                              clear c112
                                              simp only [Option.some.injEq, Prod.mk.injEq] at H
                                              obtain ⟨rfl, rfl⟩ := H
                                              go_wp2
                                              go_ret2
                                              exact ⟨_, by first | rfl | (simp [errW_none, errW_some] <;> rfl) | (simp [*, errW_none, errW_some] <;> rfl), by first | exact Kd.R_nil _ _ _ _ _ | exact Kd.N_nil _ _ _ _ _ | exact Kd.V_nil _ _ _ _ _ | exact Kd.Q_nil _ _ _ _ _ | exact Kd.S_nil _ _ _ _ _, by repeat (first | (with_reducible first | exact HB.out | apply below_alloc | apply pw_below_drewN | apply below_drew1) | exact HB.out)⟩
                                            · rw [if_neg c112] at H
                                              have c112b0 : (x14_5 == 0) = false := beq_eq_false_iff_ne.mpr c112
                                              have c112b1 : (x14_5 != 0) = true := bne_iff_ne.mpr c112
                                              by_cases c113 : 0 ≤ x5_1
                                              · rw [if_pos c113] at H
                                                have c113b0 := eq_true c113
                                                have c113b1 : decide (0 ≤ x5_1) = true := decide_eq_true c113
                                                clear c113
                                                by_cases c114 : x5_1 ≤ (wrap64 (x5_1 + x14_5))
                                                · rw [if_pos c114] at H
                                                  have c114b0 := eq_true c114
                                                  have c114b1 : decide (x5_1 ≤ (wrap64 (x5_1 + x14_5))) = true := decide_eq_true c114
                                                  by_cases c115 : (wrap64 (x5_1 + x14_5)) ≤ (a0.size : Int)
                                                  · rw [if_pos c115] at H
                                                    have c115b0 := eq_true c115
                                                    have c115b1 : decide ((wrap64 (x5_1 + x14_5)) ≤ (a0.size : Int)) = true := decide_eq_true c115
                                                    by_cases c116 : x4_1.length < 4398046511104
                                                    · rw [if_pos c116] at H
                                                      have LMc116 := Aside0.mk c116
                                                      clear c116
                                                      obtain ⟨y149, hy149⟩ : ∃ y_ : List (S32), y_ = (x4_1 ++ [(⟨4, a0.extract (x5_1 : Int).toNat ((wrap64 (x5_1 + x14_5)) : Int).toNat, 0⟩ : S32)]) := ⟨_, rfl⟩
                                                      replace H : (rtok.l0 k5 a0 y149 (wrap64 (x5_1 + x14_5))) = some (r1, r2) := by first | (rw [hy149]; with_reducible exact H) | (have H2_ := (Option.bind_some _ _).symm.trans H; rw [hy149]; with_reducible exact H2_) | (have H2_ := (Option.bind_some _ _).symm.trans H; with_reducible exact H2_) | with_reducible exact H | (rw [hy149]; exact H) | exact H
                                                      have Ny149 := Aside0.mk hy149
                                                      clear hy149
                                                      have H' := Aside0.mk H
                                                      clear H
                                                      go_wp2_with (first | ((with_reducible refine gate_builtin (b := .append) (xs := #[.tmp 65, .tmp 73]) rfl ?_); (try (refine gate_guard (by rfl) ?_; dsimp only)); at_builtin; refine Kd.R_append k32 (w0 := w) w.heap.size rfl (.tmp 65) (.tmp 73) 23 32 (.agg #[(.int .i64 0), (.string ⟨#[]⟩), (.int .i64 0)]) 32 rfl Tryz.underlying23 info32 rfl (by decide) (by omega) u4 x4_1 (⟨4, a0.extract (x5_1 : Int).toNat ((wrap64 (x5_1 + x14_5)) : Int).toNat, 0⟩ : S32) [.int .i64 4, .string (a0.extract (x5_1 : Int).toNat ((wrap64 (x5_1 + x14_5)) : Int).toNat), .int .i64 0] (fun _ => True) (fun _ => False) rfl rfl ?aP (fun _ hk => hk.elim) ?aF ?aO ?aB ?aS ?aL ?_; (case aP => exact k32_mkM _ _ _ (⟨4, a0.extract (x5_1 : Int).toNat ((wrap64 (x5_1 + x14_5)) : Int).toNat, 0⟩ : S32)); (case aB => exact (by repeat (first | (with_reducible first | exact HB.out | apply below_alloc | apply pw_below_drewN | apply below_drew1) | exact HB.out))); (case aF => exact (fun _ _ => trivial)); (case aO => exact (by (with_reducible repeat (first | apply Kd.R_alloc | apply Kd.R_drewN | apply Kd.R_drew)); exact HO_4.out)); (case aS => exact (below_size (by repeat (first | (with_reducible first | exact HB.out | apply below_alloc | apply pw_below_drewN | apply below_drew1) | exact HB.out)))); (case aL => have := LMc116.out; omega); intro v150 w117 ho hb hg hat; rw [← Ny149.out] at ho; have n1_ := Aside0.mk (hb); have n2_ := Aside0.mk (ho); clear HO_53; clear HB; clear HO_4; have HB := n1_; have HO151 := n2_; clear n1_ n2_; clear ho hb hg hat))
                                                      go_roundg k5
                                                      case measure => have := HK1.out; have := HJ5.out; have := HJ10.out; have := HK4.out; have := HK5.out; omega
                                                      case rel => exact ⟨(y149), (wrap64 (x5_1 + x14_5)), (by first | rfl | (simp; done) | (simp [*]; done)), H', ⟨by have := HK1.out; have := HJ5.out; have := HJ10.out; have := HK4.out; have := HK5.out; omega⟩, ⟨by (with_reducible repeat (first | apply Kd.R_alloc | apply Kd.R_drewN | apply Kd.R_drew)); exact HO151.out⟩, ⟨by repeat (first | (with_reducible first | exact HB.out | apply below_alloc | apply pw_below_drewN | apply below_drew1) | exact HB.out)⟩⟩
                                                    · rw [if_neg c116] at H
                                                      exact absurd H (by simp)
                                                  · rw [if_neg c115] at H
                                                    exact absurd H (by simp)
                                                · rw [if_neg c114] at H
                                                  exact absurd H (by simp)
                                              · rw [if_neg c113] at H
                                                exact absurd H (by simp)
                                    · rw [if_neg c104] at H
                                      have c104b0 : (x14_4 == 0) = false := beq_eq_false_iff_ne.mpr c104
                                      have c104b1 : (x14_4 != 0) = true := bne_iff_ne.mpr c104
                                      by_cases c118 : 0 ≤ x5_1
                                      · rw [if_pos c118] at H
                                        have c118b0 := eq_true c118
                                        have c118b1 : decide (0 ≤ x5_1) = true := decide_eq_true c118
                                        clear c118
                                        by_cases c119 : x5_1 ≤ (wrap64 (x5_1 + x14_4))
                                        · rw [if_pos c119] at H
                                          have c119b0 := eq_true c119
                                          have c119b1 : decide (x5_1 ≤ (wrap64 (x5_1 + x14_4))) = true := decide_eq_true c119
                                          by_cases c120 : (wrap64 (x5_1 + x14_4)) ≤ (a0.size : Int)
                                          · rw [if_pos c120] at H
                                            have c120b0 := eq_true c120
                                            have c120b1 : decide ((wrap64 (x5_1 + x14_4)) ≤ (a0.size : Int)) = true := decide_eq_true c120
                                            by_cases c121 : x4_1.length < 4398046511104
                                            · rw [if_pos c121] at H
                                              have LMc121 := Aside0.mk c121
                                              clear c121
                                              obtain ⟨y152, hy152⟩ : ∃ y_ : List (S32), y_ = (x4_1 ++ [(⟨4, a0.extract (x5_1 : Int).toNat ((wrap64 (x5_1 + x14_4)) : Int).toNat, 0⟩ : S32)]) := ⟨_, rfl⟩
                                              replace H : (rtok.l0 k4 a0 y152 (wrap64 (x5_1 + x14_4))) = some (r1, r2) := by first | (rw [hy152]; with_reducible exact H) | (have H2_ := (Option.bind_some _ _).symm.trans H; rw [hy152]; with_reducible exact H2_) | (have H2_ := (Option.bind_some _ _).symm.trans H; with_reducible exact H2_) | with_reducible exact H | (rw [hy152]; exact H) | exact H
                                              have Ny152 := Aside0.mk hy152
                                              clear hy152
                                              have H' := Aside0.mk H
                                              clear H
                                              go_wp2_with (first | ((with_reducible refine gate_builtin (b := .append) (xs := #[.tmp 65, .tmp 73]) rfl ?_); (try (refine gate_guard (by rfl) ?_; dsimp only)); at_builtin; refine Kd.R_append k32 (w0 := w) w.heap.size rfl (.tmp 65) (.tmp 73) 23 32 (.agg #[(.int .i64 0), (.string ⟨#[]⟩), (.int .i64 0)]) 32 rfl Tryz.underlying23 info32 rfl (by decide) (by omega) u4 x4_1 (⟨4, a0.extract (x5_1 : Int).toNat ((wrap64 (x5_1 + x14_4)) : Int).toNat, 0⟩ : S32) [.int .i64 4, .string (a0.extract (x5_1 : Int).toNat ((wrap64 (x5_1 + x14_4)) : Int).toNat), .int .i64 0] (fun _ => True) (fun _ => False) rfl rfl ?aP (fun _ hk => hk.elim) ?aF ?aO ?aB ?aS ?aL ?_; (case aP => exact k32_mkM _ _ _ (⟨4, a0.extract (x5_1 : Int).toNat ((wrap64 (x5_1 + x14_4)) : Int).toNat, 0⟩ : S32)); (case aB => exact (by repeat (first | (with_reducible first | exact HB.out | apply below_alloc | apply pw_below_drewN | apply below_drew1) | exact HB.out))); (case aF => exact (fun _ _ => trivial)); (case aO => exact (by (with_reducible repeat (first | apply Kd.R_alloc | apply Kd.R_drewN | apply Kd.R_drew)); exact HO_4.out)); (case aS => exact (below_size (by repeat (first | (with_reducible first | exact HB.out | apply below_alloc | apply pw_below_drewN | apply below_drew1) | exact HB.out)))); (case aL => have := LMc121.out; omega); intro v153 w122 ho hb hg hat; rw [← Ny152.out] at ho; have n0_ := Aside0.mk (Kd.R_over' (by (with_reducible repeat (first | apply Kd.R_alloc | apply Kd.R_drewN | apply Kd.R_drew)); exact HO_29.out) (Kd.R_typed (by (with_reducible repeat (first | apply Kd.R_alloc | apply Kd.R_drewN | apply Kd.R_drew)); exact HO_4.out)) (by decide) hg); have n1_ := Aside0.mk (hb); have n2_ := Aside0.mk (ho); clear HO_29; clear HB; clear HO_4; have HO_29 := n0_; have HB := n1_; have HO154 := n2_; clear n0_ n1_ n2_; clear ho hb hg hat))
                                              go_roundg k4
                                              case measure => have := HK1.out; have := HJ5.out; have := HJ10.out; have := HK4.out; omega
                                              case rel => exact ⟨(y152), (wrap64 (x5_1 + x14_4)), (by first | rfl | (simp; done) | (simp [*]; done)), H', ⟨by have := HK1.out; have := HJ5.out; have := HJ10.out; have := HK4.out; omega⟩, ⟨by (with_reducible repeat (first | apply Kd.R_alloc | apply Kd.R_drewN | apply Kd.R_drew)); exact HO154.out⟩, ⟨by repeat (first | (with_reducible first | exact HB.out | apply below_alloc | apply pw_below_drewN | apply below_drew1) | exact HB.out)⟩⟩
                                            · rw [if_neg c121] at H
                                              exact absurd H (by simp)
                                          · rw [if_neg c120] at H
                                            exact absurd H (by simp)
                                        · rw [if_neg c119] at H
                                          exact absurd H (by simp)
                                      · rw [if_neg c118] at H
                                        exact absurd H (by simp)
          · rw [if_neg c4] at H
            exact absurd H (by simp)
        · rw [if_neg c3] at H
          have c3b0 : decide (x5_1 < (a0.size : Int)) = false := decide_eq_false c3
          clear c3
          by_cases c123 : x4_1.length < 4398046511104
          · rw [if_pos c123] at H
            have LMc123 := Aside0.mk c123
            clear c123
            obtain ⟨y115, hy115⟩ : ∃ y_ : List (S32), y_ = (x4_1 ++ [(⟨0, (⟨#[]⟩ : ByteArray), 0⟩ : S32)]) := ⟨_, rfl⟩
            replace H : (some (y115, 0)) = some (r1, r2) := by first | (rw [hy115]; with_reducible exact H) | (have H2_ := (Option.bind_some _ _).symm.trans H; rw [hy115]; with_reducible exact H2_) | (have H2_ := (Option.bind_some _ _).symm.trans H; with_reducible exact H2_) | with_reducible exact H | (rw [hy115]; exact H) | exact H
            have Ny115 := Aside0.mk hy115
            clear hy115
            simp only [Option.some.injEq, Prod.mk.injEq] at H
            obtain ⟨rfl, rfl⟩ := H
            go_wp2_with (first | ((with_reducible refine gate_builtin (b := .append) (xs := #[.tmp 263, .tmp 265]) rfl ?_); (try (refine gate_guard (by rfl) ?_; dsimp only)); at_builtin; refine Kd.R_append k32 (w0 := w) w.heap.size rfl (.tmp 263) (.tmp 265) 23 32 (.agg #[(.int .i64 0), (.string ⟨#[]⟩), (.int .i64 0)]) 32 rfl Tryz.underlying23 info32 rfl (by decide) (by omega) u4 x4_1 (⟨0, (⟨#[]⟩ : ByteArray), 0⟩ : S32) [.int .i64 0, .string (⟨#[]⟩ : ByteArray), .int .i64 0] (fun _ => True) (fun _ => False) rfl rfl ?aP (fun _ hk => hk.elim) ?aF ?aO ?aB ?aS ?aL ?_; (case aP => exact k32_mkM _ _ _ (⟨0, (⟨#[]⟩ : ByteArray), 0⟩ : S32)); (case aB => exact (by repeat (first | (with_reducible first | exact HB.out | apply below_alloc | apply pw_below_drewN | apply below_drew1) | exact HB.out))); (case aF => exact (fun _ _ => trivial)); (case aO => exact (by (with_reducible repeat (first | apply Kd.R_alloc | apply Kd.R_drewN | apply Kd.R_drew)); exact HO_4.out)); (case aS => exact (below_size (by repeat (first | (with_reducible first | exact HB.out | apply below_alloc | apply pw_below_drewN | apply below_drew1) | exact HB.out)))); (case aL => have := LMc123.out; omega); intro v116 w124 ho hb hg hat; rw [← Ny115.out] at ho; have n0_ := Aside0.mk (hb); have n1_ := Aside0.mk (ho); clear HB; clear HO_4; have HB := n0_; have HO117 := n1_; clear n0_ n1_; clear ho hb hg hat))
            go_ret2
            exact ⟨_, by first | rfl | (simp [errW_none, errW_some] <;> rfl) | (simp [*, errW_none, errW_some] <;> rfl), by (with_reducible repeat (first | apply Kd.R_alloc | apply Kd.R_drewN | apply Kd.R_drew)); exact HO117.out, by repeat (first | (with_reducible first | exact HB.out | apply below_alloc | apply pw_below_drewN | apply below_drew1) | exact HB.out)⟩
          · rw [if_neg c123] at H
            exact absurd H (by simp)

end Go.Proofs.YtcgdncpioafbdaaGreatDoor.Q

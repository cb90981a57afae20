/- Lemmas for the law: Leaf Pparse Qeq0 Qref16D Qref16 Pref17D Pref17 Pd QlexD TokF Qlaw16D TokL Gap PlU Piece PlTexts Tx Pw Px Pl Py Pe. -/
import Derived.Test.YtcgdncpioafbdaaGreatDoorRows
import Derived.Test.YtcgdncpioafbdaaGreatDoorTie
import Derived.Test.YtcgdncpioafbdaaGreatDoorCards
import Derived.Test.YtcgdncpioafbdaaGreatDoorS1
import Derived.Lib.ReplaceLaws
import Derived.Lib.SlTrimSet
import Derived.Lib.AppendIntMem
import Derived.WalkLawsBesides
import Derived.Lib.Strings
import Derived.Deep.RegionHeld3
set_option linter.unusedVariables false
set_option linter.unusedSimpArgs false
/- The library's functions that this seat calls, by the shelf's contracts, in the shape in which the seat's printed walks meet a callee. -/
namespace Go.Proofs.YtcgdncpioafbdaaGreatDoor.Q
open Go Go.RowKit Go.Proofs.YtcgdncpioafbdaaGreatDoorW.PrintWords
theorem below_drewN' (w : World) (n : Nat) : Below w.heap.size w (w.drewN n) := pw_below_drewN (Below.refl _ _) n
theorem strings_TrimLeft.calls (a0 a1 r : ByteArray) (w : World) (h : strings_TrimLeft.f a0 a1 = some r) :
    Calls Tryz.prog 117 #[.string a0, .string a1] w fun e w' => e = .returned (.string r) ∧ Below w.heap.size w w' := by
  unfold strings_TrimLeft.f at h
  split at h
  · rename_i hc
    cases h
    have e : a1 = ⟨#[32, 9, 10, 13]⟩ := ba_ext hc
    subst e
    have c := Any.strings_TrimLeft_laid Tryz.lays161 (by kernel_rfl) a0 ⟨#[32, 9, 10, 13]⟩ w (by decide) (ascii_of_all (by decide))
    exact c
  · cases h
theorem strings_HasPrefix.calls (a0 a1 : ByteArray) (r : Bool) (w : World) (h : strings_HasPrefix.f a0 a1 = some r) :
    Calls Tryz.prog 118 #[.string a0, .string a1] w fun e w' => e = .returned (.bool r) ∧ Drawn0 w w' := by
  cases h
  refine (Tryz.strings_HasPrefix a0 a1 w).mono ?_
  rintro e w' ⟨rfl, rfl⟩
  exact ⟨rfl, Drawn0.refl _⟩
theorem index_one (l : List UInt8) (c : UInt8) : (Lib.index l [c] = -1 ∧ l.takeWhile (· != c) = l ∧ l.dropWhile (· != c) = [] ∧ l.contains c = false) ∨ ∃ i : Nat, Lib.index l [c] = i ∧ l.take i = l.takeWhile (· != c) ∧ l.drop (i + 1) = (l.dropWhile (· != c)).drop 1 ∧ l.contains c = true := by
  induction l with
  | nil => exact .inl ⟨rfl, rfl, rfl, rfl⟩
  | cons b l ih =>
    by_cases hb : b = c
    · subst hb
      refine .inr ⟨0, ?_, ?_, ?_, ?_⟩ <;> simp [Lib.index]
    · have hp : [c].isPrefixOf (b :: l) = false := by simp [List.isPrefixOf, Ne.symm hb]
      have hbc : (b != c) = true := by simpa using hb
      have hcb : (c == b) = false := by simpa using Ne.symm hb
      rcases ih with ⟨h1, h2, h3, h4⟩ | ⟨i, h1, h2, h3, h4⟩
      · refine .inl ⟨by simp [Lib.index, hp, h1], by simp [List.takeWhile, hbc, h2], by simp [List.dropWhile, hbc, h3], by rw [List.contains_cons, hcb, h4]; rfl⟩
      · refine .inr ⟨i + 1, ?_, ?_, ?_, ?_⟩
        · have hne : (Lib.index l [c] == -1) = false := by rw [h1]; simp
          simp [Lib.index, hp, h1]
        · simp [List.takeWhile, hbc, h2]
        · simp only [List.drop_succ_cons, List.dropWhile, hbc, h3]
        · rw [List.contains_cons, h4]; simp
theorem strings_Cut.calls (a0 a1 r1 r2 : ByteArray) (r3 : Bool) (w : World) (h : strings_Cut.f a0 a1 = some (r1, r2, r3)) (hG : GV w) :
    Calls Tryz.prog 119 #[.string a0, .string a1] w fun e w' => e = .returned (.tuple #[.string r1, .string r2, .bool r3]) ∧ Below w.heap.size w w' := by
  unfold strings_Cut.f at h
  split at h
  · rename_i hc
    split at h
    · rename_i hs
      cases h
      have e : a1 = ⟨#[10]⟩ := ba_ext hc
      subst e
      obtain ⟨m, hm⟩ := hG.max
      refine (Tryz.strings_Cut a0 ⟨#[10]⟩ m w hs hm).mono ?_
      rintro e w' ⟨rfl, n, rfl⟩
      refine ⟨?_, below_drewN' _ _⟩
      have hcut : Lib.cut a0.data.toList [10] = (a0.data.toList.takeWhile (· != 10), (a0.data.toList.dropWhile (· != 10)).drop 1, a0.data.toList.contains 10) := by
        unfold Lib.cut
        rcases index_one a0.data.toList 10 with ⟨h1, h2, h3, h4⟩ | ⟨i, h1, h2, h3, h4⟩
        · rw [h1, if_neg (by decide), h2, h3, h4]; rfl
        · rw [h1, if_pos (by omega), h4]; simp only [Int.toNat_natCast, List.length_cons, List.length_nil, Nat.zero_add]; rw [h2, h3]
      have hcut' : Lib.cut a0.data.toList (⟨#[10]⟩ : ByteArray).data.toList = _ := hcut
      rw [hcut']
      rfl
    · cases h
  · cases h
theorem strings_IndexByte.calls (a0 : ByteArray) (a1 r : Int) (w : World) (h : strings_IndexByte.f a0 a1 = some r) :
    Calls Tryz.prog 120 #[.string a0, .int .u8 a1] w fun e w' => e = .returned (.int .i64 r) ∧ Drawn0 w w' := by
  cases h
  refine (Tryz.strings_IndexByte a0 a1 w).mono ?_
  rintro e w' ⟨rfl, rfl⟩
  exact ⟨rfl, Drawn0.refl _⟩
theorem lex_cutLeft.calls (a0 a1 r : ByteArray) (w : World) (h : lex_cutLeft.f a0 a1 = some r) :
    Calls Tryz.prog 203 #[.string a0, .string a1] w fun e w' => e = .returned (.string r) ∧ Below w.heap.size w w' := by
  unfold lex_cutLeft.f at h
  split at h
  · rename_i hc
    split at h
    · rename_i hs
      cases h
      exact cut_walk a0 a1 hs (asciiSet_of hc) w
    · cases h
  · cases h
theorem strings_ToLower.calls (a0 r : ByteArray) (w : World) (h : strings_ToLower.f a0 = some r) :
    Calls Tryz.prog 122 #[.string a0] w fun e w' => e = .returned (.string r) ∧ Below w.heap.size w w' := by
  unfold strings_ToLower.f at h
  split at h
  · rename_i hc
    split at h
    · rename_i hs
      cases h
      refine (Tryz.strings_ToLower_ascii a0 w hs (fun j b hb => ?_)).mono ?_
      · have := List.all_eq_true.1 hc b (List.mem_of_getElem? hb)
        simpa using this
      · rintro e w' ⟨rfl, hb⟩
        refine ⟨?_, hb⟩
        have e1 : Lib.toLowerA a0.data.toList = a0.data.toList.map Lx.lowerB := by
          unfold Lib.toLowerA
          refine List.map_congr_left (fun b _ => ?_)
          simp [Lib.lowerB, Lib.isUpperB, Lx.lowerB]
        rw [e1]
        rfl
    · cases h
  · cases h
theorem dupQ_split (l : List UInt8) : dupQ l = if l.contains 39 then l.takeWhile (· != 39) ++ 39 :: 39 :: dupQ ((l.dropWhile (· != 39)).drop 1) else l := by
  induction l with
  | nil => rfl
  | cons c r ih =>
    by_cases hc : c = 39
    · subst hc
      simp [dupQ]
    · have h1 : (c == 39) = false := by simpa using hc
      have h2 : (c != 39) = true := by simpa using hc
      have h3 : ((39 : UInt8) == c) = false := by simpa using Ne.symm hc
      rw [dupQ, h1, List.contains_cons, h3, Bool.false_or, ih]
      simp only [Bool.false_eq_true, if_false, List.takeWhile, List.dropWhile, h2]
      by_cases h4 : r.contains 39 = true
      · rw [if_pos h4, if_pos h4, List.cons_append]
      · rw [if_neg h4, if_neg h4]
theorem replace_quote : ∀ (n : Nat) (l : List UInt8), l.length ≤ n → Lib.replaceK [39] [39, 39] (Lib.count l [39]) l = dupQ l := by
  intro n
  induction n with
  | zero =>
    intro l hl
    obtain rfl : l = [] := List.eq_nil_of_length_eq_zero (by omega)
    rfl
  | succ n ih =>
    intro l hl
    rcases index_one l 39 with ⟨h1, h2, h3, h4⟩ | ⟨i, h1, h2, h3, h4⟩
    · rw [Lib.count_miss h1, dupQ_split, h4]
      rfl
    · rw [Lib.count_hit (by simp) h1, Nat.add_comm, Lib.replaceK_hit _ _ _ _ _ h1]
      simp only [List.length_cons, List.length_nil, Nat.zero_add]
      rw [ih _ (by simp; omega), dupQ_split l, h4, if_pos rfl, h2, h3]
      simp
theorem replaceAll_quote (l : List UInt8) : Lib.replaceAll l [39] [39, 39] = dupQ l := by
  unfold Lib.replaceAll Lib.replace
  rw [if_neg (by decide)]
  unfold Lib.replaceNum
  rw [if_pos (.inl (by decide))]
  exact replace_quote _ l (Nat.le_refl _)
theorem strings_ReplaceAll.calls (a0 a1 a2 r : ByteArray) (w : World) (h : strings_ReplaceAll.f a0 a1 a2 = some r) (hG : GV w) :
    Calls Tryz.prog 65 #[.string a0, .string a1, .string a2] w fun e w' => e = .returned (.string r) ∧ Below w.heap.size w w' := by
  unfold strings_ReplaceAll.f at h
  split at h
  · rename_i h1
    split at h
    · rename_i h2
      split at h
      · rename_i hs
        cases h
        have e1 : a1 = ⟨#[39]⟩ := ba_ext h1
        have e2 : a2 = ⟨#[39, 39]⟩ := ba_ext h2
        subst e1 e2
        obtain ⟨m, hm⟩ := hG.max
        have hle := Lib.countB_mul_le ⟨#[39]⟩ (by decide) a0.size a0 (Nat.le_refl _)
        have hs1 : (⟨#[39]⟩ : ByteArray).size = 1 := rfl
        have hs2 : (⟨#[39, 39]⟩ : ByteArray).size = 2 := rfl
        refine (Tryz.strings_ReplaceAll a0 ⟨#[39]⟩ ⟨#[39, 39]⟩ m w hs hm (by decide) (by rw [hs1] at hle; rw [hs2]; omega)).mono ?_
        rintro e w' ⟨rfl, hb⟩
        refine ⟨?_, hb⟩
        have e3 := replaceAll_quote a0.data.toList
        have e4 : Lib.replaceAll a0.data.toList (⟨#[39]⟩ : ByteArray).data.toList (⟨#[39, 39]⟩ : ByteArray).data.toList = dupQ a0.data.toList := e3
        rw [e4]
        rfl
      · cases h
    · cases h
  · cases h
end Go.Proofs.YtcgdncpioafbdaaGreatDoor.Q
-- Written by a program of this seat (wip/pr.py, by way of the kit's print) out of the translation; Lean checks it.
namespace Go.Proofs.YtcgdncpioafbdaaGreatDoor.Q
open Go.RowKit Go.Proofs.YtcgdncpioafbdaaGreatDoorW.PrintWords Go.Proofs.YtcgdncpioafbdaaGreatDoorW.PrintLast Go.Proofs.YtcgdncpioafbdaaGreatDoorW.PrintMore
attribute [local go_sem] max2_int min2_int max_two min_two max_three min_three max_four min_four   -- for this text's walks alone
set_option linter.unusedVariables false
set_option linter.unusedSimpArgs false
/-! ### parse_reserved: function 324 -/
set_option maxHeartbeats 8000000 in
set_option maxRecDepth 100000 in
theorem parse_reserved.calls (a0 : ByteArray) (r : Bool) (w : World) (h : parse_reserved.f a0 = some r) :
    Calls Tryz.prog 324 #[.string a0] w fun e w' => e = .returned (.bool r) ∧ Drawn0 w w' := by
  have H : (if a0.toList = ([99, 114, 101, 97, 116, 101] : List UInt8) then (some true) else (if a0.toList = ([116, 97, 98, 108, 101] : List UInt8) then (some true) else (if a0.toList = ([100, 114, 111, 112] : List UInt8) then (some true) else (if a0.toList = ([105, 110, 115, 101, 114, 116] : List UInt8) then (some true) else (if a0.toList = ([105, 110, 116, 111] : List UInt8) then (some true) else (if a0.toList = ([118, 97, 108, 117, 101, 115] : List UInt8) then (some true) else (if a0.toList = ([115, 101, 108, 101, 99, 116] : List UInt8) then (some true) else (if a0.toList = ([102, 114, 111, 109] : List UInt8) then (some true) else (if a0.toList = ([119, 104, 101, 114, 101] : List UInt8) then (some true) else (if a0.toList = ([111, 114, 100, 101, 114] : List UInt8) then (some true) else (if a0.toList = ([98, 121] : List UInt8) then (some true) else (if a0.toList = ([100, 101, 115, 99] : List UInt8) then (some true) else (if a0.toList = ([108, 105, 109, 105, 116] : List UInt8) then (some true) else (if a0.toList = ([117, 112, 100, 97, 116, 101] : List UInt8) then (some true) else (if a0.toList = ([115, 101, 116] : List UInt8) then (some true) else (if a0.toList = ([100, 101, 108, 101, 116, 101] : List UInt8) then (some true) else (if a0.toList = ([97, 110, 100] : List UInt8) then (some true) else (if a0.toList = ([111, 114] : List UInt8) then (some true) else (if a0.toList = ([110, 111, 116] : List UInt8) then (some true) else (if a0.toList = ([105, 115] : List UInt8) then (some true) else (if a0.toList = ([110, 117, 108, 108] : List UInt8) then (some true) else (if a0.toList = ([105, 110, 116] : List UInt8) then (some true) else (if a0.toList = ([116, 101, 120, 116] : List UInt8) then (some true) else (if a0.toList = ([100, 101, 116] : List UInt8) then (some true) else (if a0.toList = ([107, 101, 121] : List UInt8) then (some true) else (if a0.toList = ([99, 111, 117, 110, 116] : List UInt8) then (some true) else (if a0.toList = ([115, 117, 109] : List UInt8) then (some true) else (if a0.toList = ([109, 105, 110] : List UInt8) then (some true) else (if a0.toList = ([109, 97, 120] : List UInt8) then (some true) else (some false)))))))))))))))))))))))))))))) = some r := h
  clear h
  by_cases c2 : a0.toList = ([99, 114, 101, 97, 116, 101] : List UInt8)
  · rw [if_pos c2] at H
    have c2b0 : (a0.toList == ([99, 114, 101, 97, 116, 101] : List UInt8)) = true := beq_iff_eq.mpr c2
    have c2b1 : (a0.toList != ([99, 114, 101, 97, 116, 101] : List UInt8)) = false := bne_eq_false_iff_eq.mpr c2
    clear c2
    obtain rfl := Option.some.inj H
    go_enter Tryz.func324, Tryz.ntmps324
    go_wp2
    go_ret
    exact ⟨by first | rfl | (simp; done) | (simp [*]; done), by repeat (first | exact Drawn0.refl _ | apply Drawn0.step)⟩
  · rw [if_neg c2] at H
    have c2b0 : (a0.toList == ([99, 114, 101, 97, 116, 101] : List UInt8)) = false := beq_eq_false_iff_ne.mpr c2
    have c2b1 : (a0.toList != ([99, 114, 101, 97, 116, 101] : List UInt8)) = true := bne_iff_ne.mpr c2
    by_cases c3 : a0.toList = ([116, 97, 98, 108, 101] : List UInt8)
    · rw [if_pos c3] at H
      have c3b0 : (a0.toList == ([116, 97, 98, 108, 101] : List UInt8)) = true := beq_iff_eq.mpr c3
      have c3b1 : (a0.toList != ([116, 97, 98, 108, 101] : List UInt8)) = false := bne_eq_false_iff_eq.mpr c3
      clear c3
      obtain rfl := Option.some.inj H
      go_enter Tryz.func324, Tryz.ntmps324
      go_wp2
      go_ret
      exact ⟨by first | rfl | (simp; done) | (simp [*]; done), by repeat (first | exact Drawn0.refl _ | apply Drawn0.step)⟩
    · rw [if_neg c3] at H
      have c3b0 : (a0.toList == ([116, 97, 98, 108, 101] : List UInt8)) = false := beq_eq_false_iff_ne.mpr c3
      have c3b1 : (a0.toList != ([116, 97, 98, 108, 101] : List UInt8)) = true := bne_iff_ne.mpr c3
      by_cases c4 : a0.toList = ([100, 114, 111, 112] : List UInt8)
      · rw [if_pos c4] at H
        have c4b0 : (a0.toList == ([100, 114, 111, 112] : List UInt8)) = true := beq_iff_eq.mpr c4
        have c4b1 : (a0.toList != ([100, 114, 111, 112] : List UInt8)) = false := bne_eq_false_iff_eq.mpr c4
        clear c4
        obtain rfl := Option.some.inj H
        go_enter Tryz.func324, Tryz.ntmps324
        go_wp2
        go_ret
        exact ⟨by first | rfl | (simp; done) | (simp [*]; done), by repeat (first | exact Drawn0.refl _ | apply Drawn0.step)⟩
      · rw [if_neg c4] at H
        have c4b0 : (a0.toList == ([100, 114, 111, 112] : List UInt8)) = false := beq_eq_false_iff_ne.mpr c4
        have c4b1 : (a0.toList != ([100, 114, 111, 112] : List UInt8)) = true := bne_iff_ne.mpr c4
        by_cases c5 : a0.toList = ([105, 110, 115, 101, 114, 116] : List UInt8)
        · rw [if_pos c5] at H
          have c5b0 : (a0.toList == ([105, 110, 115, 101, 114, 116] : List UInt8)) = true := beq_iff_eq.mpr c5
          have c5b1 : (a0.toList != ([105, 110, 115, 101, 114, 116] : List UInt8)) = false := bne_eq_false_iff_eq.mpr c5
          clear c5
          obtain rfl := Option.some.inj H
          go_enter Tryz.func324, Tryz.ntmps324
          go_wp2
          go_ret
          exact ⟨by first | rfl | (simp; done) | (simp [*]; done), by repeat (first | exact Drawn0.refl _ | apply Drawn0.step)⟩
        · rw [if_neg c5] at H
          have c5b0 : (a0.toList == ([105, 110, 115, 101, 114, 116] : List UInt8)) = false := beq_eq_false_iff_ne.mpr c5
          have c5b1 : (a0.toList != ([105, 110, 115, 101, 114, 116] : List UInt8)) = true := bne_iff_ne.mpr c5
          by_cases c6 : a0.toList = ([105, 110, 116, 111] : List UInt8)
          · rw [if_pos c6] at H
            have c6b0 : (a0.toList == ([105, 110, 116, 111] : List UInt8)) = true := beq_iff_eq.mpr c6
            have c6b1 : (a0.toList != ([105, 110, 116, 111] : List UInt8)) = false := bne_eq_false_iff_eq.mpr c6
            clear c6
            obtain rfl := Option.some.inj H
            go_enter Tryz.func324, Tryz.ntmps324
            go_wp2
            go_ret
            exact ⟨by first | rfl | (simp; done) | (simp [*]; done), by repeat (first | exact Drawn0.refl _ | apply Drawn0.step)⟩
          · rw [if_neg c6] at H
            have c6b0 : (a0.toList == ([105, 110, 116, 111] : List UInt8)) = false := beq_eq_false_iff_ne.mpr c6
            have c6b1 : (a0.toList != ([105, 110, 116, 111] : List UInt8)) = true := bne_iff_ne.mpr c6
            by_cases c7 : a0.toList = ([118, 97, 108, 117, 101, 115] : List UInt8)
            · rw [if_pos c7] at H
              have c7b0 : (a0.toList == ([118, 97, 108, 117, 101, 115] : List UInt8)) = true := beq_iff_eq.mpr c7
              have c7b1 : (a0.toList != ([118, 97, 108, 117, 101, 115] : List UInt8)) = false := bne_eq_false_iff_eq.mpr c7
              clear c7
              obtain rfl := Option.some.inj H
              go_enter Tryz.func324, Tryz.ntmps324
              go_wp2
              go_ret
              exact ⟨by first | rfl | (simp; done) | (simp [*]; done), by repeat (first | exact Drawn0.refl _ | apply Drawn0.step)⟩
            · rw [if_neg c7] at H
              have c7b0 : (a0.toList == ([118, 97, 108, 117, 101, 115] : List UInt8)) = false := beq_eq_false_iff_ne.mpr c7
              have c7b1 : (a0.toList != ([118, 97, 108, 117, 101, 115] : List UInt8)) = true := bne_iff_ne.mpr c7
              by_cases c8 : a0.toList = ([115, 101, 108, 101, 99, 116] : List UInt8)
              · rw [if_pos c8] at H
                have c8b0 : (a0.toList == ([115, 101, 108, 101, 99, 116] : List UInt8)) = true := beq_iff_eq.mpr c8
                have c8b1 : (a0.toList != ([115, 101, 108, 101, 99, 116] : List UInt8)) = false := bne_eq_false_iff_eq.mpr c8
                clear c8
                obtain rfl := Option.some.inj H
                go_enter Tryz.func324, Tryz.ntmps324
                go_wp2
                go_ret
                exact ⟨by first | rfl | (simp; done) | (simp [*]; done), by repeat (first | exact Drawn0.refl _ | apply Drawn0.step)⟩
              · rw [if_neg c8] at H
                have c8b0 : (a0.toList == ([115, 101, 108, 101, 99, 116] : List UInt8)) = false := beq_eq_false_iff_ne.mpr c8
                have c8b1 : (a0.toList != ([115, 101, 108, 101, 99, 116] : List UInt8)) = true := bne_iff_ne.mpr c8
                by_cases c9 : a0.toList = ([102, 114, 111, 109] : List UInt8)
                · rw [if_pos c9] at H
                  have c9b0 : (a0.toList == ([102, 114, 111, 109] : List UInt8)) = true := beq_iff_eq.mpr c9
                  have c9b1 : (a0.toList != ([102, 114, 111, 109] : List UInt8)) = false := bne_eq_false_iff_eq.mpr c9
                  clear c9
                  obtain rfl := Option.some.inj H
                  go_enter Tryz.func324, Tryz.ntmps324
                  go_wp2
                  go_ret
                  exact ⟨by first | rfl | (simp; done) | (simp [*]; done), by repeat (first | exact Drawn0.refl _ | apply Drawn0.step)⟩
                · rw [if_neg c9] at H
                  have c9b0 : (a0.toList == ([102, 114, 111, 109] : List UInt8)) = false := beq_eq_false_iff_ne.mpr c9
                  have c9b1 : (a0.toList != ([102, 114, 111, 109] : List UInt8)) = true := bne_iff_ne.mpr c9
                  by_cases c10 : a0.toList = ([119, 104, 101, 114, 101] : List UInt8)
                  · rw [if_pos c10] at H
                    have c10b0 : (a0.toList == ([119, 104, 101, 114, 101] : List UInt8)) = true := beq_iff_eq.mpr c10
                    have c10b1 : (a0.toList != ([119, 104, 101, 114, 101] : List UInt8)) = false := bne_eq_false_iff_eq.mpr c10
                    clear c10
                    obtain rfl := Option.some.inj H
                    go_enter Tryz.func324, Tryz.ntmps324
                    go_wp2
                    go_ret
                    exact ⟨by first | rfl | (simp; done) | (simp [*]; done), by repeat (first | exact Drawn0.refl _ | apply Drawn0.step)⟩
                  · rw [if_neg c10] at H
                    have c10b0 : (a0.toList == ([119, 104, 101, 114, 101] : List UInt8)) = false := beq_eq_false_iff_ne.mpr c10
                    have c10b1 : (a0.toList != ([119, 104, 101, 114, 101] : List UInt8)) = true := bne_iff_ne.mpr c10
                    by_cases c11 : a0.toList = ([111, 114, 100, 101, 114] : List UInt8)
                    · rw [if_pos c11] at H
                      have c11b0 : (a0.toList == ([111, 114, 100, 101, 114] : List UInt8)) = true := beq_iff_eq.mpr c11
                      have c11b1 : (a0.toList != ([111, 114, 100, 101, 114] : List UInt8)) = false := bne_eq_false_iff_eq.mpr c11
                      clear c11
                      obtain rfl := Option.some.inj H
                      go_enter Tryz.func324, Tryz.ntmps324
                      go_wp2
                      go_ret
                      exact ⟨by first | rfl | (simp; done) | (simp [*]; done), by repeat (first | exact Drawn0.refl _ | apply Drawn0.step)⟩
                    · rw [if_neg c11] at H
                      have c11b0 : (a0.toList == ([111, 114, 100, 101, 114] : List UInt8)) = false := beq_eq_false_iff_ne.mpr c11
                      have c11b1 : (a0.toList != ([111, 114, 100, 101, 114] : List UInt8)) = true := bne_iff_ne.mpr c11
                      by_cases c12 : a0.toList = ([98, 121] : List UInt8)
                      · rw [if_pos c12] at H
                        have c12b0 : (a0.toList == ([98, 121] : List UInt8)) = true := beq_iff_eq.mpr c12
                        have c12b1 : (a0.toList != ([98, 121] : List UInt8)) = false := bne_eq_false_iff_eq.mpr c12
                        clear c12
                        obtain rfl := Option.some.inj H
                        go_enter Tryz.func324, Tryz.ntmps324
                        go_wp2
                        go_ret
                        exact ⟨by first | rfl | (simp; done) | (simp [*]; done), by repeat (first | exact Drawn0.refl _ | apply Drawn0.step)⟩
                      · rw [if_neg c12] at H
                        have c12b0 : (a0.toList == ([98, 121] : List UInt8)) = false := beq_eq_false_iff_ne.mpr c12
                        have c12b1 : (a0.toList != ([98, 121] : List UInt8)) = true := bne_iff_ne.mpr c12
                        by_cases c13 : a0.toList = ([100, 101, 115, 99] : List UInt8)
                        · rw [if_pos c13] at H
                          have c13b0 : (a0.toList == ([100, 101, 115, 99] : List UInt8)) = true := beq_iff_eq.mpr c13
                          have c13b1 : (a0.toList != ([100, 101, 115, 99] : List UInt8)) = false := bne_eq_false_iff_eq.mpr c13
                          clear c13
                          obtain rfl := Option.some.inj H
                          go_enter Tryz.func324, Tryz.ntmps324
                          go_wp2
                          go_ret
                          exact ⟨by first | rfl | (simp; done) | (simp [*]; done), by repeat (first | exact Drawn0.refl _ | apply Drawn0.step)⟩
                        · rw [if_neg c13] at H
                          have c13b0 : (a0.toList == ([100, 101, 115, 99] : List UInt8)) = false := beq_eq_false_iff_ne.mpr c13
                          have c13b1 : (a0.toList != ([100, 101, 115, 99] : List UInt8)) = true := bne_iff_ne.mpr c13
                          by_cases c14 : a0.toList = ([108, 105, 109, 105, 116] : List UInt8)
                          · rw [if_pos c14] at H
                            have c14b0 : (a0.toList == ([108, 105, 109, 105, 116] : List UInt8)) = true := beq_iff_eq.mpr c14
                            have c14b1 : (a0.toList != ([108, 105, 109, 105, 116] : List UInt8)) = false := bne_eq_false_iff_eq.mpr c14
                            clear c14
                            obtain rfl := Option.some.inj H
                            go_enter Tryz.func324, Tryz.ntmps324
                            go_wp2
                            go_ret
                            exact ⟨by first | rfl | (simp; done) | (simp [*]; done), by repeat (first | exact Drawn0.refl _ | apply Drawn0.step)⟩
                          · rw [if_neg c14] at H
                            have c14b0 : (a0.toList == ([108, 105, 109, 105, 116] : List UInt8)) = false := beq_eq_false_iff_ne.mpr c14
                            have c14b1 : (a0.toList != ([108, 105, 109, 105, 116] : List UInt8)) = true := bne_iff_ne.mpr c14
                            by_cases c15 : a0.toList = ([117, 112, 100, 97, 116, 101] : List UInt8)
                            · rw [if_pos c15] at H
                              have c15b0 : (a0.toList == ([117, 112, 100, 97, 116, 101] : List UInt8)) = true := beq_iff_eq.mpr c15
                              have c15b1 : (a0.toList != ([117, 112, 100, 97, 116, 101] : List UInt8)) = false := bne_eq_false_iff_eq.mpr c15
                              clear c15
                              obtain rfl := Option.some.inj H
                              go_enter Tryz.func324, Tryz.ntmps324
                              go_wp2
                              go_ret
                              exact ⟨by first | rfl | (simp; done) | (simp [*]; done), by repeat (first | exact Drawn0.refl _ | apply Drawn0.step)⟩
                            · rw [if_neg c15] at H
                              have c15b0 : (a0.toList == ([117, 112, 100, 97, 116, 101] : List UInt8)) = false := beq_eq_false_iff_ne.mpr c15
                              have c15b1 : (a0.toList != ([117, 112, 100, 97, 116, 101] : List UInt8)) = true := bne_iff_ne.mpr c15
                              by_cases c16 : a0.toList = ([115, 101, 116] : List UInt8)
                              · rw [if_pos c16] at H
                                have c16b0 : (a0.toList == ([115, 101, 116] : List UInt8)) = true := beq_iff_eq.mpr c16
                                have c16b1 : (a0.toList != ([115, 101, 116] : List UInt8)) = false := bne_eq_false_iff_eq.mpr c16
                                clear c16
                                obtain rfl := Option.some.inj H
                                go_enter Tryz.func324, Tryz.ntmps324
                                go_wp2
                                go_ret
                                exact ⟨by first | rfl | (simp; done) | (simp [*]; done), by repeat (first | exact Drawn0.refl _ | apply Drawn0.step)⟩
                              · rw [if_neg c16] at H
                                have c16b0 : (a0.toList == ([115, 101, 116] : List UInt8)) = false := beq_eq_false_iff_ne.mpr c16
                                have c16b1 : (a0.toList != ([115, 101, 116] : List UInt8)) = true := bne_iff_ne.mpr c16
                                by_cases c17 : a0.toList = ([100, 101, 108, 101, 116, 101] : List UInt8)
                                · rw [if_pos c17] at H
                                  have c17b0 : (a0.toList == ([100, 101, 108, 101, 116, 101] : List UInt8)) = true := beq_iff_eq.mpr c17
                                  have c17b1 : (a0.toList != ([100, 101, 108, 101, 116, 101] : List UInt8)) = false := bne_eq_false_iff_eq.mpr c17
                                  clear c17
                                  obtain rfl := Option.some.inj H
                                  go_enter Tryz.func324, Tryz.ntmps324
                                  go_wp2
                                  go_ret
                                  exact ⟨by first | rfl | (simp; done) | (simp [*]; done), by repeat (first | exact Drawn0.refl _ | apply Drawn0.step)⟩
                                · rw [if_neg c17] at H
                                  have c17b0 : (a0.toList == ([100, 101, 108, 101, 116, 101] : List UInt8)) = false := beq_eq_false_iff_ne.mpr c17
                                  have c17b1 : (a0.toList != ([100, 101, 108, 101, 116, 101] : List UInt8)) = true := bne_iff_ne.mpr c17
                                  by_cases c18 : a0.toList = ([97, 110, 100] : List UInt8)
                                  · rw [if_pos c18] at H
                                    have c18b0 : (a0.toList == ([97, 110, 100] : List UInt8)) = true := beq_iff_eq.mpr c18
                                    have c18b1 : (a0.toList != ([97, 110, 100] : List UInt8)) = false := bne_eq_false_iff_eq.mpr c18
                                    clear c18
                                    obtain rfl := Option.some.inj H
                                    go_enter Tryz.func324, Tryz.ntmps324
                                    go_wp2
                                    go_ret
                                    exact ⟨by first | rfl | (simp; done) | (simp [*]; done), by repeat (first | exact Drawn0.refl _ | apply Drawn0.step)⟩
                                  · rw [if_neg c18] at H
                                    have c18b0 : (a0.toList == ([97, 110, 100] : List UInt8)) = false := beq_eq_false_iff_ne.mpr c18
                                    have c18b1 : (a0.toList != ([97, 110, 100] : List UInt8)) = true := bne_iff_ne.mpr c18
                                    by_cases c19 : a0.toList = ([111, 114] : List UInt8)
                                    · rw [if_pos c19] at H
                                      have c19b0 : (a0.toList == ([111, 114] : List UInt8)) = true := beq_iff_eq.mpr c19
                                      have c19b1 : (a0.toList != ([111, 114] : List UInt8)) = false := bne_eq_false_iff_eq.mpr c19
                                      clear c19
                                      obtain rfl := Option.some.inj H
                                      go_enter Tryz.func324, Tryz.ntmps324
                                      go_wp2
                                      go_ret
                                      exact ⟨by first | rfl | (simp; done) | (simp [*]; done), by repeat (first | exact Drawn0.refl _ | apply Drawn0.step)⟩
                                    · rw [if_neg c19] at H
                                      have c19b0 : (a0.toList == ([111, 114] : List UInt8)) = false := beq_eq_false_iff_ne.mpr c19
                                      have c19b1 : (a0.toList != ([111, 114] : List UInt8)) = true := bne_iff_ne.mpr c19
                                      by_cases c20 : a0.toList = ([110, 111, 116] : List UInt8)
                                      · rw [if_pos c20] at H
                                        have c20b0 : (a0.toList == ([110, 111, 116] : List UInt8)) = true := beq_iff_eq.mpr c20
                                        have c20b1 : (a0.toList != ([110, 111, 116] : List UInt8)) = false := bne_eq_false_iff_eq.mpr c20
                                        clear c20
                                        obtain rfl := Option.some.inj H
                                        go_enter Tryz.func324, Tryz.ntmps324
                                        go_wp2
                                        go_ret
                                        exact ⟨by first | rfl | (simp; done) | (simp [*]; done), by repeat (first | exact Drawn0.refl _ | apply Drawn0.step)⟩
                                      · rw [if_neg c20] at H
                                        have c20b0 : (a0.toList == ([110, 111, 116] : List UInt8)) = false := beq_eq_false_iff_ne.mpr c20
                                        have c20b1 : (a0.toList != ([110, 111, 116] : List UInt8)) = true := bne_iff_ne.mpr c20
                                        by_cases c21 : a0.toList = ([105, 115] : List UInt8)
                                        · rw [if_pos c21] at H
                                          have c21b0 : (a0.toList == ([105, 115] : List UInt8)) = true := beq_iff_eq.mpr c21
                                          have c21b1 : (a0.toList != ([105, 115] : List UInt8)) = false := bne_eq_false_iff_eq.mpr c21
                                          clear c21
                                          obtain rfl := Option.some.inj H
                                          go_enter Tryz.func324, Tryz.ntmps324
                                          go_wp2
                                          go_ret
                                          exact ⟨by first | rfl | (simp; done) | (simp [*]; done), by repeat (first | exact Drawn0.refl _ | apply Drawn0.step)⟩
                                        · rw [if_neg c21] at H
                                          have c21b0 : (a0.toList == ([105, 115] : List UInt8)) = false := beq_eq_false_iff_ne.mpr c21
                                          have c21b1 : (a0.toList != ([105, 115] : List UInt8)) = true := bne_iff_ne.mpr c21
                                          by_cases c22 : a0.toList = ([110, 117, 108, 108] : List UInt8)
                                          · rw [if_pos c22] at H
                                            have c22b0 : (a0.toList == ([110, 117, 108, 108] : List UInt8)) = true := beq_iff_eq.mpr c22
                                            have c22b1 : (a0.toList != ([110, 117, 108, 108] : List UInt8)) = false := bne_eq_false_iff_eq.mpr c22
                                            clear c22
                                            obtain rfl := Option.some.inj H
                                            go_enter Tryz.func324, Tryz.ntmps324
                                            go_wp2
                                            go_ret
                                            exact ⟨by first | rfl | (simp; done) | (simp [*]; done), by repeat (first | exact Drawn0.refl _ | apply Drawn0.step)⟩
                                          · rw [if_neg c22] at H
                                            have c22b0 : (a0.toList == ([110, 117, 108, 108] : List UInt8)) = false := beq_eq_false_iff_ne.mpr c22
                                            have c22b1 : (a0.toList != ([110, 117, 108, 108] : List UInt8)) = true := bne_iff_ne.mpr c22
                                            by_cases c23 : a0.toList = ([105, 110, 116] : List UInt8)
                                            · rw [if_pos c23] at H
                                              have c23b0 : (a0.toList == ([105, 110, 116] : List UInt8)) = true := beq_iff_eq.mpr c23
                                              have c23b1 : (a0.toList != ([105, 110, 116] : List UInt8)) = false := bne_eq_false_iff_eq.mpr c23
                                              clear c23
                                              obtain rfl := Option.some.inj H
                                              go_enter Tryz.func324, Tryz.ntmps324
                                              go_wp2
                                              go_ret
                                              exact ⟨by first | rfl | (simp; done) | (simp [*]; done), by repeat (first | exact Drawn0.refl _ | apply Drawn0.step)⟩
                                            · rw [if_neg c23] at H
                                              have c23b0 : (a0.toList == ([105, 110, 116] : List UInt8)) = false := beq_eq_false_iff_ne.mpr c23
                                              have c23b1 : (a0.toList != ([105, 110, 116] : List UInt8)) = true := bne_iff_ne.mpr c23
                                              by_cases c24 : a0.toList = ([116, 101, 120, 116] : List UInt8)
                                              · rw [if_pos c24] at H
                                                have c24b0 : (a0.toList == ([116, 101, 120, 116] : List UInt8)) = true := beq_iff_eq.mpr c24
                                                have c24b1 : (a0.toList != ([116, 101, 120, 116] : List UInt8)) = false := bne_eq_false_iff_eq.mpr c24
                                                clear c24
                                                obtain rfl := Option.some.inj H
                                                go_enter Tryz.func324, Tryz.ntmps324
                                                go_wp2
                                                go_ret
                                                exact ⟨by first | rfl | (simp; done) | (simp [*]; done), by repeat (first | exact Drawn0.refl _ | apply Drawn0.step)⟩
                                              · rw [if_neg c24] at H
                                                have c24b0 : (a0.toList == ([116, 101, 120, 116] : List UInt8)) = false := beq_eq_false_iff_ne.mpr c24
                                                have c24b1 : (a0.toList != ([116, 101, 120, 116] : List UInt8)) = true := bne_iff_ne.mpr c24
                                                by_cases c25 : a0.toList = ([100, 101, 116] : List UInt8)
                                                · rw [if_pos c25] at H
                                                  have c25b0 : (a0.toList == ([100, 101, 116] : List UInt8)) = true := beq_iff_eq.mpr c25
                                                  have c25b1 : (a0.toList != ([100, 101, 116] : List UInt8)) = false := bne_eq_false_iff_eq.mpr c25
                                                  clear c25
                                                  obtain rfl := Option.some.inj H
                                                  go_enter Tryz.func324, Tryz.ntmps324
                                                  go_wp2
                                                  go_ret
                                                  exact ⟨by first | rfl | (simp; done) | (simp [*]; done), by repeat (first | exact Drawn0.refl _ | apply Drawn0.step)⟩
                                                · rw [if_neg c25] at H
                                                  have c25b0 : (a0.toList == ([100, 101, 116] : List UInt8)) = false := beq_eq_false_iff_ne.mpr c25
                                                  have c25b1 : (a0.toList != ([100, 101, 116] : List UInt8)) = true := bne_iff_ne.mpr c25
                                                  by_cases c26 : a0.toList = ([107, 101, 121] : List UInt8)
                                                  · rw [if_pos c26] at H
                                                    have c26b0 : (a0.toList == ([107, 101, 121] : List UInt8)) = true := beq_iff_eq.mpr c26
                                                    have c26b1 : (a0.toList != ([107, 101, 121] : List UInt8)) = false := bne_eq_false_iff_eq.mpr c26
                                                    clear c26
                                                    obtain rfl := Option.some.inj H
                                                    go_enter Tryz.func324, Tryz.ntmps324
                                                    go_wp2
                                                    go_ret
                                                    exact ⟨by first | rfl | (simp; done) | (simp [*]; done), by repeat (first | exact Drawn0.refl _ | apply Drawn0.step)⟩
                                                  · rw [if_neg c26] at H
                                                    have c26b0 : (a0.toList == ([107, 101, 121] : List UInt8)) = false := beq_eq_false_iff_ne.mpr c26
                                                    have c26b1 : (a0.toList != ([107, 101, 121] : List UInt8)) = true := bne_iff_ne.mpr c26
                                                    by_cases c27 : a0.toList = ([99, 111, 117, 110, 116] : List UInt8)
                                                    · rw [if_pos c27] at H
                                                      have c27b0 : (a0.toList == ([99, 111, 117, 110, 116] : List UInt8)) = true := beq_iff_eq.mpr c27
                                                      have c27b1 : (a0.toList != ([99, 111, 117, 110, 116] : List UInt8)) = false := bne_eq_false_iff_eq.mpr c27
                                                      clear c27
                                                      obtain rfl := Option.some.inj H
                                                      go_enter Tryz.func324, Tryz.ntmps324
                                                      go_wp2
                                                      go_ret
                                                      exact ⟨by first | rfl | (simp; done) | (simp [*]; done), by repeat (first | exact Drawn0.refl _ | apply Drawn0.step)⟩
                                                    · rw [if_neg c27] at H
                                                      have c27b0 : (a0.toList == ([99, 111, 117, 110, 116] : List UInt8)) = false := beq_eq_false_iff_ne.mpr c27
                                                      have c27b1 : (a0.toList != ([99, 111, 117, 110, 116] : List UInt8)) = true := bne_iff_ne.mpr c27
                                                      by_cases c28 : a0.toList = ([115, 117, 109] : List UInt8)
                                                      · rw [if_pos c28] at H
                                                        have c28b0 : (a0.toList == ([115, 117, 109] : List UInt8)) = true := beq_iff_eq.mpr c28
                                                        have c28b1 : (a0.toList != ([115, 117, 109] : List UInt8)) = false := bne_eq_false_iff_eq.mpr c28
                                                        clear c28
                                                        obtain rfl := Option.some.inj H
                                                        go_enter Tryz.func324, Tryz.ntmps324
                                                        go_wp2
                                                        go_ret
                                                        exact ⟨by first | rfl | (simp; done) | (simp [*]; done), by repeat (first | exact Drawn0.refl _ | apply Drawn0.step)⟩
                                                      · rw [if_neg c28] at H
                                                        have c28b0 : (a0.toList == ([115, 117, 109] : List UInt8)) = false := beq_eq_false_iff_ne.mpr c28
                                                        have c28b1 : (a0.toList != ([115, 117, 109] : List UInt8)) = true := bne_iff_ne.mpr c28
                                                        by_cases c29 : a0.toList = ([109, 105, 110] : List UInt8)
                                                        · rw [if_pos c29] at H
                                                          have c29b0 : (a0.toList == ([109, 105, 110] : List UInt8)) = true := beq_iff_eq.mpr c29
                                                          have c29b1 : (a0.toList != ([109, 105, 110] : List UInt8)) = false := bne_eq_false_iff_eq.mpr c29
                                                          clear c29
                                                          obtain rfl := Option.some.inj H
                                                          go_enter Tryz.func324, Tryz.ntmps324
                                                          go_wp2
                                                          go_ret
                                                          exact ⟨by first | rfl | (simp; done) | (simp [*]; done), by repeat (first | exact Drawn0.refl _ | apply Drawn0.step)⟩
                                                        · rw [if_neg c29] at H
                                                          have c29b0 : (a0.toList == ([109, 105, 110] : List UInt8)) = false := beq_eq_false_iff_ne.mpr c29
                                                          have c29b1 : (a0.toList != ([109, 105, 110] : List UInt8)) = true := bne_iff_ne.mpr c29
                                                          by_cases c30 : a0.toList = ([109, 97, 120] : List UInt8)
                                                          · rw [if_pos c30] at H
                                                            have c30b0 : (a0.toList == ([109, 97, 120] : List UInt8)) = true := beq_iff_eq.mpr c30
                                                            have c30b1 : (a0.toList != ([109, 97, 120] : List UInt8)) = false := bne_eq_false_iff_eq.mpr c30
                                                            clear c30
                                                            obtain rfl := Option.some.inj H
                                                            go_enter Tryz.func324, Tryz.ntmps324
                                                            go_wp2
                                                            go_ret
                                                            exact ⟨by first | rfl | (simp; done) | (simp [*]; done), by repeat (first | exact Drawn0.refl _ | apply Drawn0.step)⟩
                                                          · rw [if_neg c30] at H
                                                            have c30b0 : (a0.toList == ([109, 97, 120] : List UInt8)) = false := beq_eq_false_iff_ne.mpr c30
                                                            have c30b1 : (a0.toList != ([109, 97, 120] : List UInt8)) = true := bne_iff_ne.mpr c30
                                                            obtain rfl := Option.some.inj H
                                                            go_enter Tryz.func324, Tryz.ntmps324
                                                            go_wp2
                                                            go_ret
                                                            exact ⟨by first | rfl | (simp; done) | (simp [*]; done), by repeat (first | exact Drawn0.refl _ | apply Drawn0.step)⟩
/-! ### parse_binds: function 102 -/
set_option maxHeartbeats 8000000 in
set_option maxRecDepth 100000 in
theorem parse_binds.calls (k : Nat) (a0 : ByteArray) (r : Int) (w : World) (h : parse_binds.f k a0 = some r) :
    Calls Tryz.prog 102 #[.string a0] w fun e w' => e = .returned (.int .i64 r) ∧ Drawn0 w w' := by
  have H : (if a0.toList = ([111, 114] : List UInt8) then (some 1) else (if a0.toList = ([97, 110, 100] : List UInt8) then (some 2) else (if a0.toList = ([61] : List UInt8) then (parse_binds.j0 k a0 (a0.toList == ([61] : List UInt8))) else (if a0.toList = ([60, 62] : List UInt8) then (parse_binds.j0 k a0 (a0.toList == ([60, 62] : List UInt8))) else (if a0.toList = ([60] : List UInt8) then (parse_binds.j0 k a0 (a0.toList == ([60] : List UInt8))) else (if a0.toList = ([60, 61] : List UInt8) then (parse_binds.j0 k a0 (a0.toList == ([60, 61] : List UInt8))) else (if a0.toList = ([62] : List UInt8) then (parse_binds.j0 k a0 (a0.toList == ([62] : List UInt8))) else (if a0.toList = ([62, 61] : List UInt8) then (parse_binds.j0 k a0 (a0.toList == ([62, 61] : List UInt8))) else (parse_binds.j0 k a0 (a0.toList == ([105, 115] : List UInt8))))))))))) = some r := h
  clear h
  by_cases c2 : a0.toList = ([111, 114] : List UInt8)
  · rw [if_pos c2] at H
    have c2b0 : (a0.toList == ([111, 114] : List UInt8)) = true := beq_iff_eq.mpr c2
    have c2b1 : (a0.toList != ([111, 114] : List UInt8)) = false := bne_eq_false_iff_eq.mpr c2
    clear c2
    obtain rfl := Option.some.inj H
    go_enter Tryz.func102, Tryz.ntmps102
    go_wp2
    go_ret
    exact ⟨by first | rfl | (simp; done) | (simp [*]; done), by repeat (first | exact Drawn0.refl _ | apply Drawn0.step)⟩
  · rw [if_neg c2] at H
    have c2b0 : (a0.toList == ([111, 114] : List UInt8)) = false := beq_eq_false_iff_ne.mpr c2
    have c2b1 : (a0.toList != ([111, 114] : List UInt8)) = true := bne_iff_ne.mpr c2
    by_cases c3 : a0.toList = ([97, 110, 100] : List UInt8)
    · rw [if_pos c3] at H
      have c3b0 : (a0.toList == ([97, 110, 100] : List UInt8)) = true := beq_iff_eq.mpr c3
      have c3b1 : (a0.toList != ([97, 110, 100] : List UInt8)) = false := bne_eq_false_iff_eq.mpr c3
      clear c3
      obtain rfl := Option.some.inj H
      go_enter Tryz.func102, Tryz.ntmps102
      go_wp2
      go_ret
      exact ⟨by first | rfl | (simp; done) | (simp [*]; done), by repeat (first | exact Drawn0.refl _ | apply Drawn0.step)⟩
    · rw [if_neg c3] at H
      have c3b0 : (a0.toList == ([97, 110, 100] : List UInt8)) = false := beq_eq_false_iff_ne.mpr c3
      have c3b1 : (a0.toList != ([97, 110, 100] : List UInt8)) = true := bne_iff_ne.mpr c3
      have HC4 := Aside0.mk H
      clear H
      go_enter Tryz.func102, Tryz.ntmps102
      go_upto_if 8 with (fail)
      go_cut [8] (fun v8 wc => ∃ (kq : Nat) (x8_3 : Bool), v8 = .bool x8_3 ∧ Aside0 (parse_binds.j0 kq a0 x8_3 = some r) ∧ Aside0 (kq ≤ k) ∧ Drawn0 w wc)
      case first =>
        have H := HC4.out
        clear HC4
        by_cases c5 : a0.toList = ([61] : List UInt8)
        · rw [if_pos c5] at H
          have c5b0 : (a0.toList == ([61] : List UInt8)) = true := beq_iff_eq.mpr c5
          have c5b1 : (a0.toList != ([61] : List UInt8)) = false := bne_eq_false_iff_eq.mpr c5
          clear c5
          (first | rw [c5b0] | (simp only [i64_w, i32_w]; rw [c5b0]) | skip)
          have H' := Aside0.mk H
          clear H
          go_wp2
          go_meet
          case rel => exact ⟨_, ((a0.toList == ([61] : List UInt8))), (by first | rfl | (simp; done) | (simp [*]; done)), H', ⟨by first | omega | exact Nat.le_refl _⟩, by repeat (first | exact Drawn0.refl _ | apply Drawn0.step)⟩
        · rw [if_neg c5] at H
          have c5b0 : (a0.toList == ([61] : List UInt8)) = false := beq_eq_false_iff_ne.mpr c5
          have c5b1 : (a0.toList != ([61] : List UInt8)) = true := bne_iff_ne.mpr c5
          (first | rw [c5b0] | (simp only [i64_w, i32_w]; rw [c5b0]) | skip)
          by_cases c6 : a0.toList = ([60, 62] : List UInt8)
          · rw [if_pos c6] at H
            have c6b0 : (a0.toList == ([60, 62] : List UInt8)) = true := beq_iff_eq.mpr c6
            have c6b1 : (a0.toList != ([60, 62] : List UInt8)) = false := bne_eq_false_iff_eq.mpr c6
            clear c6
            have H' := Aside0.mk H
            clear H
            go_wp2
            go_meet
            case rel => exact ⟨_, ((a0.toList == ([60, 62] : List UInt8))), (by first | rfl | (simp; done) | (simp [*]; done)), H', ⟨by first | omega | exact Nat.le_refl _⟩, by repeat (first | exact Drawn0.refl _ | apply Drawn0.step)⟩
          · rw [if_neg c6] at H
            have c6b0 : (a0.toList == ([60, 62] : List UInt8)) = false := beq_eq_false_iff_ne.mpr c6
            have c6b1 : (a0.toList != ([60, 62] : List UInt8)) = true := bne_iff_ne.mpr c6
            by_cases c7 : a0.toList = ([60] : List UInt8)
            · rw [if_pos c7] at H
              have c7b0 : (a0.toList == ([60] : List UInt8)) = true := beq_iff_eq.mpr c7
              have c7b1 : (a0.toList != ([60] : List UInt8)) = false := bne_eq_false_iff_eq.mpr c7
              clear c7
              have H' := Aside0.mk H
              clear H
              go_wp2
              go_meet
              case rel => exact ⟨_, ((a0.toList == ([60] : List UInt8))), (by first | rfl | (simp; done) | (simp [*]; done)), H', ⟨by first | omega | exact Nat.le_refl _⟩, by repeat (first | exact Drawn0.refl _ | apply Drawn0.step)⟩
            · rw [if_neg c7] at H
              have c7b0 : (a0.toList == ([60] : List UInt8)) = false := beq_eq_false_iff_ne.mpr c7
              have c7b1 : (a0.toList != ([60] : List UInt8)) = true := bne_iff_ne.mpr c7
              by_cases c8 : a0.toList = ([60, 61] : List UInt8)
              · rw [if_pos c8] at H
                have c8b0 : (a0.toList == ([60, 61] : List UInt8)) = true := beq_iff_eq.mpr c8
                have c8b1 : (a0.toList != ([60, 61] : List UInt8)) = false := bne_eq_false_iff_eq.mpr c8
                clear c8
                have H' := Aside0.mk H
                clear H
                go_wp2
                go_meet
                case rel => exact ⟨_, ((a0.toList == ([60, 61] : List UInt8))), (by first | rfl | (simp; done) | (simp [*]; done)), H', ⟨by first | omega | exact Nat.le_refl _⟩, by repeat (first | exact Drawn0.refl _ | apply Drawn0.step)⟩
              · rw [if_neg c8] at H
                have c8b0 : (a0.toList == ([60, 61] : List UInt8)) = false := beq_eq_false_iff_ne.mpr c8
                have c8b1 : (a0.toList != ([60, 61] : List UInt8)) = true := bne_iff_ne.mpr c8
                by_cases c9 : a0.toList = ([62] : List UInt8)
                · rw [if_pos c9] at H
                  have c9b0 : (a0.toList == ([62] : List UInt8)) = true := beq_iff_eq.mpr c9
                  have c9b1 : (a0.toList != ([62] : List UInt8)) = false := bne_eq_false_iff_eq.mpr c9
                  clear c9
                  have H' := Aside0.mk H
                  clear H
                  go_wp2
                  go_meet
                  case rel => exact ⟨_, ((a0.toList == ([62] : List UInt8))), (by first | rfl | (simp; done) | (simp [*]; done)), H', ⟨by first | omega | exact Nat.le_refl _⟩, by repeat (first | exact Drawn0.refl _ | apply Drawn0.step)⟩
                · rw [if_neg c9] at H
                  have c9b0 : (a0.toList == ([62] : List UInt8)) = false := beq_eq_false_iff_ne.mpr c9
                  have c9b1 : (a0.toList != ([62] : List UInt8)) = true := bne_iff_ne.mpr c9
                  by_cases c10 : a0.toList = ([62, 61] : List UInt8)
                  · rw [if_pos c10] at H
                    have c10b0 : (a0.toList == ([62, 61] : List UInt8)) = true := beq_iff_eq.mpr c10
                    have c10b1 : (a0.toList != ([62, 61] : List UInt8)) = false := bne_eq_false_iff_eq.mpr c10
                    clear c10
                    have H' := Aside0.mk H
                    clear H
                    go_wp2
                    go_meet
                    case rel => exact ⟨_, ((a0.toList == ([62, 61] : List UInt8))), (by first | rfl | (simp; done) | (simp [*]; done)), H', ⟨by first | omega | exact Nat.le_refl _⟩, by repeat (first | exact Drawn0.refl _ | apply Drawn0.step)⟩
                  · rw [if_neg c10] at H
                    have c10b0 : (a0.toList == ([62, 61] : List UInt8)) = false := beq_eq_false_iff_ne.mpr c10
                    have c10b1 : (a0.toList != ([62, 61] : List UInt8)) = true := bne_iff_ne.mpr c10
                    have H' := Aside0.mk H
                    clear H
                    go_wp2
                    go_meet
                    case rel => exact ⟨_, ((a0.toList == ([105, 115] : List UInt8))), (by first | rfl | (simp; done) | (simp [*]; done)), H', ⟨by first | omega | exact Nat.le_refl _⟩, by repeat (first | exact Drawn0.refl _ | apply Drawn0.step)⟩
      case rest =>
        clear HC4
        try clear c1
        try clear c2
        try clear c2b0
        try clear c2b1
        try clear p2
        try clear c3
        try clear c3b0
        try clear c3b1
        try clear c5
        try clear c5b0
        try clear c5b1
        try clear c6
        try clear c6b0
        try clear c6b1
        try clear c7
        try clear c7b0
        try clear c7b1
        try clear c8
        try clear c8b0
        try clear c8b1
        try clear c9
        try clear c9b0
        try clear c9b1
        try clear c10
        try clear c10b0
        try clear c10b1
        obtain ⟨kq, x8_3, rfl, HA, HJ3, ⟨mc3, rfl⟩⟩ := hcut
        cases kq with
        | zero => exact absurd HA.out (by simp [parse_binds.j0])
        | succ kj3 =>
          have H := HA.out
          clear HA
          simp only [parse_binds.j0] at H
          by_cases c11 : x8_3 = true
          · subst c11
            have H1 : (some 4) = some r := by rw [if_pos rfl] at H; exact H
            clear H
            have H := H1
            clear H1
            obtain rfl := Option.some.inj H
            go_wp2
            go_ret
            exact ⟨by first | rfl | (simp; done) | (simp [*]; done), by repeat (first | exact Drawn0.refl _ | apply Drawn0.step)⟩
          · replace c11 := Bool.eq_false_iff.mpr c11
            subst c11
            have H1 : (if a0.toList = ([43] : List UInt8) then (parse_binds.j1 kj3 a0 (a0.toList == ([43] : List UInt8))) else (if a0.toList = ([45] : List UInt8) then (parse_binds.j1 kj3 a0 (a0.toList == ([45] : List UInt8))) else (parse_binds.j1 kj3 a0 (a0.toList == ([124, 124] : List UInt8))))) = some r := by rw [if_neg (show ¬ (false = true) by decide)] at H; exact H
            clear H
            have H := H1
            clear H1
            have HC12 := Aside0.mk H
            clear H
            go_upto_if 16 with (fail)
            go_cut [16] (fun v16 wc => ∃ (kq : Nat) (x16_11 : Bool), v16 = .bool x16_11 ∧ Aside0 (parse_binds.j1 kq a0 x16_11 = some r) ∧ Aside0 (kq ≤ kj3) ∧ Drawn0 w wc)
            case first =>
              have H := HC12.out
              clear HC12
              by_cases c13 : a0.toList = ([43] : List UInt8)
              · rw [if_pos c13] at H
                have c13b0 : (a0.toList == ([43] : List UInt8)) = true := beq_iff_eq.mpr c13
                have c13b1 : (a0.toList != ([43] : List UInt8)) = false := bne_eq_false_iff_eq.mpr c13
                clear c13
                (first | rw [c13b0] | (simp only [i64_w, i32_w]; rw [c13b0]) | skip)
                have H' := Aside0.mk H
                clear H
                go_wp2
                go_meet
                case rel => exact ⟨_, ((a0.toList == ([43] : List UInt8))), (by first | rfl | (simp; done) | (simp [*]; done)), H', ⟨by have := HJ3.out; first | omega | exact Nat.le_refl _⟩, by repeat (first | exact Drawn0.refl _ | apply Drawn0.step)⟩
              · rw [if_neg c13] at H
                have c13b0 : (a0.toList == ([43] : List UInt8)) = false := beq_eq_false_iff_ne.mpr c13
                have c13b1 : (a0.toList != ([43] : List UInt8)) = true := bne_iff_ne.mpr c13
                (first | rw [c13b0] | (simp only [i64_w, i32_w]; rw [c13b0]) | skip)
                by_cases c14 : a0.toList = ([45] : List UInt8)
                · rw [if_pos c14] at H
                  have c14b0 : (a0.toList == ([45] : List UInt8)) = true := beq_iff_eq.mpr c14
                  have c14b1 : (a0.toList != ([45] : List UInt8)) = false := bne_eq_false_iff_eq.mpr c14
                  clear c14
                  have H' := Aside0.mk H
                  clear H
                  go_wp2
                  go_meet
                  case rel => exact ⟨_, ((a0.toList == ([45] : List UInt8))), (by first | rfl | (simp; done) | (simp [*]; done)), H', ⟨by have := HJ3.out; first | omega | exact Nat.le_refl _⟩, by repeat (first | exact Drawn0.refl _ | apply Drawn0.step)⟩
                · rw [if_neg c14] at H
                  have c14b0 : (a0.toList == ([45] : List UInt8)) = false := beq_eq_false_iff_ne.mpr c14
                  have c14b1 : (a0.toList != ([45] : List UInt8)) = true := bne_iff_ne.mpr c14
                  have H' := Aside0.mk H
                  clear H
                  go_wp2
                  go_meet
                  case rel => exact ⟨_, ((a0.toList == ([124, 124] : List UInt8))), (by first | rfl | (simp; done) | (simp [*]; done)), H', ⟨by have := HJ3.out; first | omega | exact Nat.le_refl _⟩, by repeat (first | exact Drawn0.refl _ | apply Drawn0.step)⟩
            case rest =>
              clear HC12
              try clear c1
              try clear c2
              try clear c2b0
              try clear c2b1
              try clear p2
              try clear c3
              try clear c3b0
              try clear c3b1
              try clear c5
              try clear c5b0
              try clear c5b1
              try clear c6
              try clear c6b0
              try clear c6b1
              try clear c7
              try clear c7b0
              try clear c7b1
              try clear c8
              try clear c8b0
              try clear c8b1
              try clear c9
              try clear c9b0
              try clear c9b1
              try clear c10
              try clear c10b0
              try clear c10b1
              try clear c11
              try clear c13
              try clear c13b0
              try clear c13b1
              try clear c14
              try clear c14b0
              try clear c14b1
              try clear p2
              obtain ⟨kq, x16_11, rfl, HA, HJ11, ⟨mc11, rfl⟩⟩ := hcut
              cases kq with
              | zero => exact absurd HA.out (by simp [parse_binds.j1])
              | succ kj11 =>
                have H := HA.out
                clear HA
                simp only [parse_binds.j1] at H
                by_cases c15 : x16_11 = true
                · subst c15
                  have H1 : (some 5) = some r := by rw [if_pos rfl] at H; exact H
                  clear H
                  have H := H1
                  clear H1
                  obtain rfl := Option.some.inj H
                  go_wp2
                  go_ret
                  exact ⟨by first | rfl | (simp; done) | (simp [*]; done), by repeat (first | exact Drawn0.refl _ | apply Drawn0.step)⟩
                · replace c15 := Bool.eq_false_iff.mpr c15
                  subst c15
                  have H1 : (if a0.toList = ([42] : List UInt8) then (some 6) else (if a0.toList = ([47] : List UInt8) then (some 6) else (if a0.toList = ([37] : List UInt8) then (some 6) else (some 0)))) = some r := by rw [if_neg (show ¬ (false = true) by decide)] at H; exact H
                  clear H
                  have H := H1
                  clear H1
                  by_cases c16 : a0.toList = ([42] : List UInt8)
                  · rw [if_pos c16] at H
                    have c16b0 : (a0.toList == ([42] : List UInt8)) = true := beq_iff_eq.mpr c16
                    have c16b1 : (a0.toList != ([42] : List UInt8)) = false := bne_eq_false_iff_eq.mpr c16
                    clear c16
                    obtain rfl := Option.some.inj H
                    go_wp2
                    go_ret
                    exact ⟨by first | rfl | (simp; done) | (simp [*]; done), by repeat (first | exact Drawn0.refl _ | apply Drawn0.step)⟩
                  · rw [if_neg c16] at H
                    have c16b0 : (a0.toList == ([42] : List UInt8)) = false := beq_eq_false_iff_ne.mpr c16
                    have c16b1 : (a0.toList != ([42] : List UInt8)) = true := bne_iff_ne.mpr c16
                    by_cases c17 : a0.toList = ([47] : List UInt8)
                    · rw [if_pos c17] at H
                      have c17b0 : (a0.toList == ([47] : List UInt8)) = true := beq_iff_eq.mpr c17
                      have c17b1 : (a0.toList != ([47] : List UInt8)) = false := bne_eq_false_iff_eq.mpr c17
                      clear c17
                      obtain rfl := Option.some.inj H
                      go_wp2
                      go_ret
                      exact ⟨by first | rfl | (simp; done) | (simp [*]; done), by repeat (first | exact Drawn0.refl _ | apply Drawn0.step)⟩
                    · rw [if_neg c17] at H
                      have c17b0 : (a0.toList == ([47] : List UInt8)) = false := beq_eq_false_iff_ne.mpr c17
                      have c17b1 : (a0.toList != ([47] : List UInt8)) = true := bne_iff_ne.mpr c17
                      by_cases c18 : a0.toList = ([37] : List UInt8)
                      · rw [if_pos c18] at H
                        have c18b0 : (a0.toList == ([37] : List UInt8)) = true := beq_iff_eq.mpr c18
                        have c18b1 : (a0.toList != ([37] : List UInt8)) = false := bne_eq_false_iff_eq.mpr c18
                        clear c18
                        obtain rfl := Option.some.inj H
                        go_wp2
                        go_ret
                        exact ⟨by first | rfl | (simp; done) | (simp [*]; done), by repeat (first | exact Drawn0.refl _ | apply Drawn0.step)⟩
                      · rw [if_neg c18] at H
                        have c18b0 : (a0.toList == ([37] : List UInt8)) = false := beq_eq_false_iff_ne.mpr c18
                        have c18b1 : (a0.toList != ([37] : List UInt8)) = true := bne_iff_ne.mpr c18
                        obtain rfl := Option.some.inj H
                        go_wp2
                        go_ret
                        exact ⟨by first | rfl | (simp; done) | (simp [*]; done), by repeat (first | exact Drawn0.refl _ | apply Drawn0.step)⟩
/-! ### parse_digits: function 177 -/
set_option maxHeartbeats 8000000 in
set_option maxRecDepth 100000 in
theorem parse_digits.calls (k : Nat) : ∀ (a0 : Int) (r : ByteArray) (w : World) (h : parse_digits.f k a0 = some r),
    Calls Tryz.prog 177 #[.int .u64 a0] w fun e w' => e = .returned (.string r) ∧ Below w.heap.size w w' := by
  induction k using Nat.strongRecOn with
  | _ k ih =>
  intro a0 r w h
  cases k with
  | zero => exact absurd h (by simp [parse_digits.f])
  | succ k =>
  simp only [parse_digits.f] at h
  have HB := Aside0.mk (Below.refl w.heap.size w)
  have H : (if a0 < 10 then (some (strOfNums (([(48 + ((a0) % 256)) % 256] : List Int)))) else ((parse_digits.f k (IntKind.u64.wrap (Int.tdiv a0 10))).bind fun t104 => ((parse_digits.f k (Int.tmod a0 10)).bind fun t105 => (if t104.size + t105.size ≤ 9223372036854775807 then (some (t104 ++ t105)) else (none))))) = some r := h
  clear h
  by_cases c2 : a0 < 10
  · rw [if_pos c2] at H
    have c2b0 : decide (a0 < 10) = true := decide_eq_true c2
    clear c2
    obtain ⟨y101, hy101⟩ : ∃ y_ : List Int, y_ = (([(48 + ((a0) % 256)) % 256] : List Int)) := ⟨_, rfl⟩
    replace H : (some (strOfNums y101)) = some r := by first | (rw [hy101]; with_reducible exact H) | (have H2_ := (Option.bind_some _ _).symm.trans H; rw [hy101]; with_reducible exact H2_) | (have H2_ := (Option.bind_some _ _).symm.trans H; with_reducible exact H2_) | with_reducible exact H | (rw [hy101]; exact H) | exact H
    have Ny101 := Aside0.mk hy101
    clear hy101
    obtain rfl := Option.some.inj H
    go_enter Tryz.func177, Tryz.ntmps177
    go_wp2_with (first | ((with_reducible refine gate_dst (N := 8) rfl ?_); refine Kd.R_lit (Kd.int .u8) _ 5 ?hg (N := 8) ?hd (xs := ([(48 + ((a0) % 256)) % 256] : List Int)) (inner := [.int .u8 ((48 + ((a0) % 256)) % 256)]) (ok := fun _ => True) (okp := fun _ => True) ?hr ?hp (fun _ hk => hk) trivial (Below.refl _ _) (Nat.le_refl _) (by simp) ?_; (case hd => rfl); (case hg => rfl); (case hr => first | (go_simp; done) | (go_simp; rfl)); (case hp => exact (Reps.one (show Kd.M (Kd.int .u8) _ _ _ ((48 + ((a0) % 256)) % 256) [.int .u8 ((48 + ((a0) % 256)) % 256)] from rfl) (Reps.none _ _))); intro v102 w3 ho4 hb hg_ hnew_; clear hg_ hnew_; (first | rw [← Ny101.out] at ho4 | (simp only [Int.reduceToNat] at ho4; rw [← Ny101.out] at ho4)); have n0_ := Aside0.mk (Kd.R_lower ho4 (below_size (by repeat (first | (with_reducible first | exact HB.out | apply below_alloc | apply pw_below_drewN | apply below_drew1) | exact HB.out)))); have n1_ := Aside0.mk (below_step (by repeat (first | (with_reducible first | exact HB.out | apply below_alloc | apply pw_below_drewN | apply below_drew1) | exact HB.out)) hb); clear HB; have HO103 := n0_; have HB := n1_; clear n0_ n1_; clear hb ho4; have hcv5 := own_string (P := Tryz.prog) Tryz.underlying36 Tryz.underlying5 Tryz.underlying9 (Kd.own_of_R HO103.out)))
    go_ret
    exact ⟨by first | rfl | (simp [errW_none, errW_some] <;> rfl) | (simp [*, errW_none, errW_some] <;> rfl), by repeat (first | (with_reducible first | exact HB.out | apply below_alloc | apply pw_below_drewN | apply below_drew1) | exact HB.out)⟩
  · rw [if_neg c2] at H
    have c2b0 : decide (a0 < 10) = false := decide_eq_false c2
    clear c2
    replace H := Option.bind_eq_some_iff.mp H
    obtain ⟨t104, A60, H⟩ := H
    replace H : ((parse_digits.f k (Int.tmod a0 10)).bind fun t105 => (if t104.size + t105.size ≤ 9223372036854775807 then (some (t104 ++ t105)) else (none))) = some r := H
    have A6 := Aside0.mk A60
    clear A60
    replace H := Option.bind_eq_some_iff.mp H
    obtain ⟨t105, A70, H⟩ := H
    replace H : (if t104.size + t105.size ≤ 9223372036854775807 then (some (t104 ++ t105)) else (none)) = some r := H
    have A7 := Aside0.mk A70
    clear A70
    by_cases c8 : t104.size + t105.size ≤ 9223372036854775807
    · rw [if_pos c8] at H
      have c8b0 := eq_true c8
      have c8b1 : decide (t104.size + t105.size ≤ 9223372036854775807) = true := decide_eq_true c8
      try have c8b2 : (9223372036854775807 < t104.size + t105.size) = False := eq_false (Nat.not_lt.2 c8)
      obtain rfl := Option.some.inj H
      go_enter Tryz.func177, Tryz.ntmps177
      go_wp2_with (first | ((with_reducible refine gate_callee (f := 177) rfl ?_); refine goesL_ (some 12) rfl rfl Tryz.func177 (by kernel_rfl) rfl #[.int .u64 (IntKind.u64.wrap (Int.tdiv a0 10))] rfl (by (try simp only [List.map_toArray, List.map_cons, List.map_nil]); first | done | rfl | (simp only [List.length_drop, List.length_take]; rfl)) ?_; (with_reducible refine (ih k (by omega) (IntKind.u64.wrap (Int.tdiv a0 10)) t104 _ A6.out).mono ?_); rintro e w9 ⟨rfl, hb⟩; refine ⟨_, rfl, ?_⟩; have n0_ := Aside0.mk (below_step (by repeat (first | (with_reducible first | exact HB.out | apply below_alloc | apply pw_below_drewN | apply below_drew1) | exact HB.out)) hb); clear HB; have HB := n0_; clear n0_; (try clear hb); (try clear hb2); (try clear hk); (try clear hi)) | ((with_reducible refine gate_callee (f := 177) rfl ?_); refine goesL_ (some 15) rfl rfl Tryz.func177 (by kernel_rfl) rfl #[.int .u64 (Int.tmod a0 10)] rfl (by (try simp only [List.map_toArray, List.map_cons, List.map_nil]); first | done | rfl | (simp only [List.length_drop, List.length_take]; rfl)) ?_; (with_reducible refine (ih k (by omega) (Int.tmod a0 10) t105 _ A7.out).mono ?_); rintro e w10 ⟨rfl, hb⟩; refine ⟨_, rfl, ?_⟩; have n0_ := Aside0.mk (below_step (by repeat (first | (with_reducible first | exact HB.out | apply below_alloc | apply pw_below_drewN | apply below_drew1) | exact HB.out)) hb); clear HB; have HB := n0_; clear n0_; (try clear hb); (try clear hb2); (try clear hk); (try clear hi)))
      go_ret
      exact ⟨by first | rfl | (simp [errW_none, errW_some] <;> rfl) | (simp [*, errW_none, errW_some] <;> rfl), by repeat (first | (with_reducible first | exact HB.out | apply below_alloc | apply pw_below_drewN | apply below_drew1) | exact HB.out)⟩
    · rw [if_neg c8] at H
      exact absurd H (by simp)
/-! ### parse_literal: function 101 -/
set_option maxHeartbeats 8000000 in
set_option maxRecDepth 100000 in
theorem parse_literal.calls (k : Nat) (a0_0 : Int) (a0_1 : Int) (a0_2 : ByteArray) (r : ByteArray) (w : World) (h : parse_literal.f k a0_0 a0_1 a0_2 = some r) (hG : GV w) :
    Calls Tryz.prog 101 #[.agg #[.int .i64 a0_0, .int .i64 a0_1, .string a0_2]] w fun e w' => e = .returned (.string r) ∧ Below w.heap.size w w' := by
  have hu40 := Tryz.underlying40
  have HB := Aside0.mk (Below.refl w.heap.size w)
  have H : (if a0_0 = 0 then (some (⟨#[110, 117, 108, 108]⟩ : ByteArray)) else (if a0_0 = 2 then (parse_literal.j0 k true a0_0 a0_1 a0_2) else (parse_literal.j0 k (a0_0 != 1) a0_0 a0_1 a0_2))) = some r := h
  clear h
  by_cases c2 : a0_0 = 0
  · rw [if_pos c2] at H
    have c2b0 : (a0_0 == 0) = true := beq_iff_eq.mpr c2
    have c2b1 : (a0_0 != 0) = false := bne_eq_false_iff_eq.mpr c2
    clear c2
    obtain rfl := Option.some.inj H
    go_enter Tryz.func101, Tryz.ntmps101
    go_wp2_with (first | ((with_reducible refine gate_dst (N := 1) rfl ?_); refine box_event ?hg (N := 1) ?hd (cs := #[.int .i64 a0_0, .int .i64 a0_1, .string a0_2]) (t := 40) ?hr ?_; (case hd => rfl); (case hg => rfl); (case hr => first | (go_simp; done) | (go_simp; rfl)); intro gb106 hg w3 hbox hb; have n0_ := Aside0.mk (below_step (by repeat (first | (with_reducible first | exact HB.out | apply below_alloc | apply pw_below_drewN | apply below_drew1) | exact HB.out)) hb); have n1_ := Aside0.mk (hbox); have n2_ := Aside0.mk ((by rw [hg]; exact (below_size (by repeat (first | (with_reducible first | exact HB.out | apply below_alloc | apply pw_below_drewN | apply below_drew1) | exact HB.out))) : w.heap.size ≤ gb106)); have n3_ := Aside0.mk ((by rw [hg]; exact (below_size (by repeat (first | (with_reducible first | exact HB.out | apply below_alloc | apply pw_below_drewN | apply below_drew1) | exact HB.out))) : w.heap.size ≤ gb106)); clear HB; have HB := n0_; have BK106 := n1_; have GW106 := n2_; have GE106 := n3_; clear n0_ n1_ n2_ n3_; clear hb hbox hg; have hcz4_0 : w3.cell? ⟨gb106, 0, none⟩ = some (.int .i64 a0_0) := (blk_cell BK106.out 0).trans rfl; have hcz4_1 : w3.cell? ⟨gb106, 1, none⟩ = some (.int .i64 a0_1) := (blk_cell BK106.out 1).trans rfl; have hcz4_2 : w3.cell? ⟨gb106, 2, none⟩ = some (.string a0_2) := (blk_cell BK106.out 2).trans rfl; have hfz4_0 := blk_frozen BK106.out 0; have hfz4_1 := blk_frozen BK106.out 1; have hfz4_2 := blk_frozen BK106.out 2))
    go_ret
    exact ⟨by first | rfl | (simp [errW_none, errW_some] <;> rfl) | (simp [*, errW_none, errW_some] <;> rfl), by repeat (first | (with_reducible first | exact HB.out | apply below_alloc | apply pw_below_drewN | apply below_drew1 | refine below_set ?_ GE106.out) | exact HB.out)⟩
  · rw [if_neg c2] at H
    have c2b0 : (a0_0 == 0) = false := beq_eq_false_iff_ne.mpr c2
    have c2b1 : (a0_0 != 0) = true := bne_iff_ne.mpr c2
    have HC5 := Aside0.mk H
    clear H
    go_enter Tryz.func101, Tryz.ntmps101
    go_upto_region 3 with (first | ((with_reducible refine gate_dst (N := 1) rfl ?_); refine box_event ?hg (N := 1) ?hd (cs := #[.int .i64 a0_0, .int .i64 a0_1, .string a0_2]) (t := 40) ?hr ?_; (case hd => rfl); (case hg => rfl); (case hr => first | (go_simp; done) | (go_simp; rfl)); intro gb106 hg w6 hbox hb; have n0_ := Aside0.mk (below_step (by repeat (first | (with_reducible first | exact HB.out | apply below_alloc | apply pw_below_drewN | apply below_drew1) | exact HB.out)) hb); have n1_ := Aside0.mk (hbox); have n2_ := Aside0.mk ((by rw [hg]; exact (below_size (by repeat (first | (with_reducible first | exact HB.out | apply below_alloc | apply pw_below_drewN | apply below_drew1) | exact HB.out))) : w.heap.size ≤ gb106)); have n3_ := Aside0.mk ((by rw [hg]; exact (below_size (by repeat (first | (with_reducible first | exact HB.out | apply below_alloc | apply pw_below_drewN | apply below_drew1) | exact HB.out))) : w.heap.size ≤ gb106)); clear HB; have HB := n0_; have BK106 := n1_; have GW106 := n2_; have GE106 := n3_; clear n0_ n1_ n2_ n3_; clear hb hbox hg; have hcz7_0 : w6.cell? ⟨gb106, 0, none⟩ = some (.int .i64 a0_0) := (blk_cell BK106.out 0).trans rfl; have hcz7_1 : w6.cell? ⟨gb106, 1, none⟩ = some (.int .i64 a0_1) := (blk_cell BK106.out 1).trans rfl; have hcz7_2 : w6.cell? ⟨gb106, 2, none⟩ = some (.string a0_2) := (blk_cell BK106.out 2).trans rfl; have hfz7_0 := blk_frozen BK106.out 0; have hfz7_1 := blk_frozen BK106.out 1; have hfz7_2 := blk_frozen BK106.out 2))
    (try simp only [Act.put, List.setIfInBounds_toArray, List.set_cons_zero, List.set_cons_succ])
    go_cut [7] (fun v7 wc => ∃ (kq : Nat) (x7_4 : Bool), v7 = .bool x7_4 ∧ Aside0 (parse_literal.j0 kq x7_4 a0_0 a0_1 a0_2 = some r) ∧ Aside0 (kq ≤ k) ∧ Aside0 (wc.heap[gb106]? = some (.cells #[.int .i64 a0_0, .int .i64 a0_1, .string a0_2] 40 (0, 0))) ∧ Aside0 (Below w.heap.size w wc))
    case first =>
      have H := HC5.out
      clear HC5
      by_cases c8 : a0_0 = 2
      · rw [if_pos c8] at H
        have c8b0 : (a0_0 == 2) = true := beq_iff_eq.mpr c8
        have c8b1 : (a0_0 != 2) = false := bne_eq_false_iff_eq.mpr c8
        clear c8
        (first | rw [c8b0] | (simp only [i64_w, i32_w]; rw [c8b0]) | skip)
        have H' := Aside0.mk H
        clear H
        have hcz9_0 : w6.cell? ⟨gb106, 0, none⟩ = some (.int .i64 a0_0) := (blk_cell BK106.out 0).trans rfl
        have hcz9_1 : w6.cell? ⟨gb106, 1, none⟩ = some (.int .i64 a0_1) := (blk_cell BK106.out 1).trans rfl
        have hcz9_2 : w6.cell? ⟨gb106, 2, none⟩ = some (.string a0_2) := (blk_cell BK106.out 2).trans rfl
        have hfz9_0 := blk_frozen BK106.out 0
        have hfz9_1 := blk_frozen BK106.out 1
        have hfz9_2 := blk_frozen BK106.out 2
        go_wp2
        go_meet
        case rel => exact ⟨_, (true), (by first | rfl | (simp; done) | (simp [*]; done)), H', ⟨by first | omega | exact Nat.le_refl _⟩, ⟨by (with_reducible repeat (first | refine blk_drewN ?_ _ | refine blk_drew ?_ | refine blk_alloc ?_ _)); exact BK106.out⟩, ⟨by repeat (first | (with_reducible first | exact HB.out | apply below_alloc | apply pw_below_drewN | apply below_drew1 | refine below_set ?_ GE106.out) | exact HB.out)⟩⟩
      · rw [if_neg c8] at H
        have c8b0 : (a0_0 == 2) = false := beq_eq_false_iff_ne.mpr c8
        have c8b1 : (a0_0 != 2) = true := bne_iff_ne.mpr c8
        (first | rw [c8b0] | (simp only [i64_w, i32_w]; rw [c8b0]) | skip)
        have H' := Aside0.mk H
        clear H
        have hcz10_0 : w6.cell? ⟨gb106, 0, none⟩ = some (.int .i64 a0_0) := (blk_cell BK106.out 0).trans rfl
        have hcz10_1 : w6.cell? ⟨gb106, 1, none⟩ = some (.int .i64 a0_1) := (blk_cell BK106.out 1).trans rfl
        have hcz10_2 : w6.cell? ⟨gb106, 2, none⟩ = some (.string a0_2) := (blk_cell BK106.out 2).trans rfl
        have hfz10_0 := blk_frozen BK106.out 0
        have hfz10_1 := blk_frozen BK106.out 1
        have hfz10_2 := blk_frozen BK106.out 2
        go_wp2
        go_meet
        case rel => exact ⟨_, ((a0_0 != 1)), (by first | rfl | (simp; done) | (simp [*]; done)), H', ⟨by first | omega | exact Nat.le_refl _⟩, ⟨by (with_reducible repeat (first | refine blk_drewN ?_ _ | refine blk_drew ?_ | refine blk_alloc ?_ _)); exact BK106.out⟩, ⟨by repeat (first | (with_reducible first | exact HB.out | apply below_alloc | apply pw_below_drewN | apply below_drew1 | refine below_set ?_ GE106.out) | exact HB.out)⟩⟩
    case rest =>
      clear HC5
      try clear c1
      try clear c2
      try clear c2b0
      try clear c2b1
      try clear p2
      try clear c8
      try clear c8b0
      try clear c8b1
      try clear c10
      try clear hcz10_0
      try clear hcz10_1
      try clear hcz10_2
      try clear hcz4_0
      try clear hcz4_1
      try clear hcz4_2
      try clear hcz7_0
      try clear hcz7_1
      try clear hcz7_2
      try clear hcz9_0
      try clear hcz9_1
      try clear hcz9_2
      try clear hfz10_0
      try clear hfz10_1
      try clear hfz10_2
      try clear hfz4_0
      try clear hfz4_1
      try clear hfz4_2
      try clear hfz7_0
      try clear hfz7_1
      try clear hfz7_2
      try clear hfz9_0
      try clear hfz9_1
      try clear hfz9_2
      obtain ⟨kq, x7_4, rfl, HA, HJ4, BK106, HB⟩ := hcut
      cases kq with
      | zero => exact absurd HA.out (by simp [parse_literal.j0])
      | succ kj4 =>
        have H := HA.out
        clear HA
        simp only [parse_literal.j0] at H
        by_cases c11 : x7_4 = true
        · subst c11
          have H1 : ((strings_ReplaceAll.f a0_2 (⟨#[39]⟩ : ByteArray) (⟨#[39, 39]⟩ : ByteArray)).bind fun t107 => (if 1 + t107.size ≤ 9223372036854775807 then (if ((⟨#[39]⟩ : ByteArray) ++ t107).size + 1 ≤ 9223372036854775807 then (some (((⟨#[39]⟩ : ByteArray) ++ t107) ++ (⟨#[39]⟩ : ByteArray))) else (none)) else (none))) = some r := by rw [if_pos rfl] at H; exact H
          clear H
          have H := H1
          clear H1
          replace H := Option.bind_eq_some_iff.mp H
          obtain ⟨t107, A120, H⟩ := H
          replace H : (if 1 + t107.size ≤ 9223372036854775807 then (if ((⟨#[39]⟩ : ByteArray) ++ t107).size + 1 ≤ 9223372036854775807 then (some (((⟨#[39]⟩ : ByteArray) ++ t107) ++ (⟨#[39]⟩ : ByteArray))) else (none)) else (none)) = some r := H
          have A12 := Aside0.mk A120
          clear A120
          by_cases c13 : 1 + t107.size ≤ 9223372036854775807
          · rw [if_pos c13] at H
            have c13b0 := eq_true c13
            have c13b1 : decide (1 + t107.size ≤ 9223372036854775807) = true := decide_eq_true c13
            try have c13b2 : (9223372036854775807 < 1 + t107.size) = False := eq_false (Nat.not_lt.2 c13)
            by_cases c14 : ((⟨#[39]⟩ : ByteArray) ++ t107).size + 1 ≤ 9223372036854775807
            · rw [if_pos c14] at H
              have c14b0 := eq_true c14
              have c14s : (1 + t107.size) + 1 ≤ 9223372036854775807 := by have z_ := c14; rw [ByteArray.size_append] at z_; exact z_
              have c14s1 := eq_true c14s
              have c14s2 : decide ((1 + t107.size) + 1 ≤ 9223372036854775807) = true := decide_eq_true c14s
              have c14b1 : decide (((⟨#[39]⟩ : ByteArray) ++ t107).size + 1 ≤ 9223372036854775807) = true := decide_eq_true c14
              try have c14b2 : (9223372036854775807 < ((⟨#[39]⟩ : ByteArray) ++ t107).size + 1) = False := eq_false (Nat.not_lt.2 c14)
              obtain rfl := Option.some.inj H
              have hcz15_0 : wc.cell? ⟨gb106, 0, none⟩ = some (.int .i64 a0_0) := (blk_cell BK106.out 0).trans rfl
              have hcz15_1 : wc.cell? ⟨gb106, 1, none⟩ = some (.int .i64 a0_1) := (blk_cell BK106.out 1).trans rfl
              have hcz15_2 : wc.cell? ⟨gb106, 2, none⟩ = some (.string a0_2) := (blk_cell BK106.out 2).trans rfl
              have hfz15_0 := blk_frozen BK106.out 0
              have hfz15_1 := blk_frozen BK106.out 1
              have hfz15_2 := blk_frozen BK106.out 2
              go_wp2_with (first | ((with_reducible refine gate_callee (f := 65) rfl ?_); refine goesL_ (some 18) rfl rfl Tryz.func65 (by kernel_rfl) rfl #[.string a0_2, .string (⟨#[39]⟩ : ByteArray), .string (⟨#[39, 39]⟩ : ByteArray)] rfl (by (try simp only [List.map_toArray, List.map_cons, List.map_nil]); first | done | rfl | (simp only [List.length_drop, List.length_take]; rfl)) ?_; (with_reducible refine (strings_ReplaceAll.calls a0_2 (⟨#[39]⟩ : ByteArray) (⟨#[39, 39]⟩ : ByteArray) t107 _ A12.out (GV.below hG (by repeat (first | (with_reducible first | exact HB.out | apply below_alloc | apply pw_below_drewN | apply below_drew1 | refine below_set ?_ GE106.out) | exact HB.out)))).mono ?_); rintro e w16 ⟨rfl, hb⟩; refine ⟨_, rfl, ?_⟩; have n0_ := Aside0.mk (blk_below (g := gb106) (o := .cells #[.int .i64 a0_0, .int .i64 a0_1, .string a0_2] 40 (0, 0)) (by (with_reducible repeat (first | refine blk_drewN ?_ _ | refine blk_drew ?_ | refine blk_alloc ?_ _)); exact BK106.out) hb); have n1_ := Aside0.mk (below_step (by repeat (first | (with_reducible first | exact HB.out | apply below_alloc | apply pw_below_drewN | apply below_drew1 | refine below_set ?_ GE106.out) | exact HB.out)) hb); clear BK106; clear HB; have BK106 := n0_; have HB := n1_; clear n0_ n1_; (try clear hb); (try clear hb2); (try clear hk); (try clear hi)))
              go_ret
              exact ⟨by first | rfl | (simp [errW_none, errW_some] <;> rfl) | (simp [*, errW_none, errW_some] <;> rfl), by repeat (first | (with_reducible first | exact HB.out | apply below_alloc | apply pw_below_drewN | apply below_drew1 | refine below_set ?_ GE106.out) | exact HB.out)⟩
            · rw [if_neg c14] at H
              exact absurd H (by simp)
          · rw [if_neg c13] at H
            exact absurd H (by simp)
        · replace c11 := Bool.eq_false_iff.mpr c11
          subst c11
          have H1 : (if a0_1 < 0 then ((parse_digits.f kj4 (IntKind.u64.wrap (wrap64 (-a0_1)))).bind fun t108 => (if 1 + t108.size ≤ 9223372036854775807 then (some ((⟨#[45]⟩ : ByteArray) ++ t108)) else (none))) else ((parse_digits.f kj4 (IntKind.u64.wrap (a0_1))).bind fun t109 => (some t109))) = some r := by rw [if_neg (show ¬ (false = true) by decide)] at H; exact H
          clear H
          have H := H1
          clear H1
          by_cases c17 : a0_1 < 0
          · rw [if_pos c17] at H
            have c17b0 : decide (a0_1 < 0) = true := decide_eq_true c17
            clear c17
            replace H := Option.bind_eq_some_iff.mp H
            obtain ⟨t108, A180, H⟩ := H
            replace H : (if 1 + t108.size ≤ 9223372036854775807 then (some ((⟨#[45]⟩ : ByteArray) ++ t108)) else (none)) = some r := H
            have A18 := Aside0.mk A180
            clear A180
            by_cases c19 : 1 + t108.size ≤ 9223372036854775807
            · rw [if_pos c19] at H
              have c19b0 := eq_true c19
              have c19b1 : decide (1 + t108.size ≤ 9223372036854775807) = true := decide_eq_true c19
              try have c19b2 : (9223372036854775807 < 1 + t108.size) = False := eq_false (Nat.not_lt.2 c19)
              obtain rfl := Option.some.inj H
              have hcz20_0 : wc.cell? ⟨gb106, 0, none⟩ = some (.int .i64 a0_0) := (blk_cell BK106.out 0).trans rfl
              have hcz20_1 : wc.cell? ⟨gb106, 1, none⟩ = some (.int .i64 a0_1) := (blk_cell BK106.out 1).trans rfl
              have hcz20_2 : wc.cell? ⟨gb106, 2, none⟩ = some (.string a0_2) := (blk_cell BK106.out 2).trans rfl
              have hfz20_0 := blk_frozen BK106.out 0
              have hfz20_1 := blk_frozen BK106.out 1
              have hfz20_2 := blk_frozen BK106.out 2
              go_wp2_with (first | ((with_reducible refine gate_callee (f := 177) rfl ?_); refine goesL_ (some 29) rfl rfl Tryz.func177 (by kernel_rfl) rfl #[.int .u64 (IntKind.u64.wrap (wrap64 (-a0_1)))] rfl (by (try simp only [List.map_toArray, List.map_cons, List.map_nil]); first | done | rfl | (simp only [List.length_drop, List.length_take]; rfl)) ?_; (with_reducible refine (parse_digits.calls kj4 (IntKind.u64.wrap (wrap64 (-a0_1))) t108 _ A18.out).mono ?_); rintro e w21 ⟨rfl, hb⟩; refine ⟨_, rfl, ?_⟩; have n0_ := Aside0.mk (blk_below (g := gb106) (o := .cells #[.int .i64 a0_0, .int .i64 a0_1, .string a0_2] 40 (0, 0)) (by (with_reducible repeat (first | refine blk_drewN ?_ _ | refine blk_drew ?_ | refine blk_alloc ?_ _)); exact BK106.out) hb); have n1_ := Aside0.mk (below_step (by repeat (first | (with_reducible first | exact HB.out | apply below_alloc | apply pw_below_drewN | apply below_drew1 | refine below_set ?_ GE106.out) | exact HB.out)) hb); clear BK106; clear HB; have BK106 := n0_; have HB := n1_; clear n0_ n1_; (try clear hb); (try clear hb2); (try clear hk); (try clear hi)))
              go_ret
              exact ⟨by first | rfl | (simp [errW_none, errW_some] <;> rfl) | (simp [*, errW_none, errW_some] <;> rfl), by repeat (first | (with_reducible first | exact HB.out | apply below_alloc | apply pw_below_drewN | apply below_drew1 | refine below_set ?_ GE106.out) | exact HB.out)⟩
            · rw [if_neg c19] at H
              exact absurd H (by simp)
          · rw [if_neg c17] at H
            have c17b0 : decide (a0_1 < 0) = false := decide_eq_false c17
            clear c17
            replace H := Option.bind_eq_some_iff.mp H
            obtain ⟨t109, A220, H⟩ := H
            replace H : (some t109) = some r := H
            have A22 := Aside0.mk A220
            clear A220
            obtain rfl := Option.some.inj H
            have hcz23_0 : wc.cell? ⟨gb106, 0, none⟩ = some (.int .i64 a0_0) := (blk_cell BK106.out 0).trans rfl
            have hcz23_1 : wc.cell? ⟨gb106, 1, none⟩ = some (.int .i64 a0_1) := (blk_cell BK106.out 1).trans rfl
            have hcz23_2 : wc.cell? ⟨gb106, 2, none⟩ = some (.string a0_2) := (blk_cell BK106.out 2).trans rfl
            have hfz23_0 := blk_frozen BK106.out 0
            have hfz23_1 := blk_frozen BK106.out 1
            have hfz23_2 := blk_frozen BK106.out 2
            go_wp2_with (first | ((with_reducible refine gate_callee (f := 177) rfl ?_); refine goesL_ (some 34) rfl rfl Tryz.func177 (by kernel_rfl) rfl #[.int .u64 (IntKind.u64.wrap (a0_1))] rfl (by (try simp only [List.map_toArray, List.map_cons, List.map_nil]); first | done | rfl | (simp only [List.length_drop, List.length_take]; rfl)) ?_; (with_reducible refine (parse_digits.calls kj4 (IntKind.u64.wrap (a0_1)) t109 _ A22.out).mono ?_); rintro e w24 ⟨rfl, hb⟩; refine ⟨_, rfl, ?_⟩; have n0_ := Aside0.mk (blk_below (g := gb106) (o := .cells #[.int .i64 a0_0, .int .i64 a0_1, .string a0_2] 40 (0, 0)) (by (with_reducible repeat (first | refine blk_drewN ?_ _ | refine blk_drew ?_ | refine blk_alloc ?_ _)); exact BK106.out) hb); have n1_ := Aside0.mk (below_step (by repeat (first | (with_reducible first | exact HB.out | apply below_alloc | apply pw_below_drewN | apply below_drew1 | refine below_set ?_ GE106.out) | exact HB.out)) hb); clear BK106; clear HB; have BK106 := n0_; have HB := n1_; clear n0_ n1_; (try clear hb); (try clear hb2); (try clear hk); (try clear hi)))
            go_ret
            exact ⟨by first | rfl | (simp [errW_none, errW_some] <;> rfl) | (simp [*, errW_none, errW_some] <;> rfl), by repeat (first | (with_reducible first | exact HB.out | apply below_alloc | apply pw_below_drewN | apply below_drew1 | refine below_set ?_ GE106.out) | exact HB.out)⟩
/-! ### parse_Depth: function 43 -/
set_option maxHeartbeats 8000000 in
set_option maxRecDepth 100000 in
theorem parse_Depth.calls (k : Nat) : ∀ (a0_0 : ByteArray) (a0_1 : Int) (a0_2 : Int) (a0_3 : ByteArray) (a0_4 : ByteArray) (A0_5 : Option Addr) (c0_5 : Nat) (l0_5 : List (S43)) (r : Int) (w : World) (hr0_5 : Kd.C k43 w A0_5 l0_5.length l0_5) (hc0_5 : l0_5.length ≤ c0_5) (h : parse_Depth.f k a0_0 a0_1 a0_2 a0_3 a0_4 l0_5 = some r),
    Calls Tryz.prog 43 #[.agg #[.string a0_0, .int .i64 a0_1, .int .i64 a0_2, .string a0_3, .string a0_4, .slice A0_5 l0_5.length c0_5]] w fun e w' => e = .returned (.int .i64 r) ∧ Below w.heap.size w w' := by
  induction k using Nat.strongRecOn with
  | _ k ih =>
  intro a0_0 a0_1 a0_2 a0_3 a0_4 A0_5 c0_5 l0_5 r w hr0_5 hc0_5 h
  cases k with
  | zero => exact absurd h (by simp [parse_Depth.f])
  | succ k =>
  simp only [parse_Depth.f] at h
  have hu43 := Tryz.underlying43
  have HR0_5 := Aside0.mk hr0_5
  have HC0_5 := Aside0.mk hc0_5
  clear hr0_5 hc0_5
  have HB := Aside0.mk (Below.refl w.heap.size w)
  have H : (parse_Depth.l0 k 0 l0_5 (l0_5.length : Int) 0) = some r := h
  clear h
  have H' := Aside0.mk H
  clear H
  go_enter Tryz.func43, Tryz.ntmps43
  go_wp2_with (first | ((with_reducible refine gate_dst (N := 1) rfl ?_); refine box_event ?hg (N := 1) ?hd (cs := #[.string a0_0, .int .i64 a0_1, .int .i64 a0_2, .string a0_3, .string a0_4, .slice A0_5 l0_5.length c0_5]) (t := 43) ?hr ?_; (case hd => rfl); (case hg => rfl); (case hr => first | (go_simp; done) | (go_simp; rfl)); intro gb110 hg w2 hbox hb; have n0_ := Aside0.mk (below_step (by repeat (first | (with_reducible first | exact HB.out | apply below_alloc | apply pw_below_drewN | apply below_drew1) | exact HB.out)) hb); have n1_ := Aside0.mk (hbox); have n2_ := Aside0.mk ((by rw [hg]; exact (below_size (by repeat (first | (with_reducible first | exact HB.out | apply below_alloc | apply pw_below_drewN | apply below_drew1) | exact HB.out))) : w.heap.size ≤ gb110)); have n3_ := Aside0.mk ((by rw [hg]; exact (below_size (by repeat (first | (with_reducible first | exact HB.out | apply below_alloc | apply pw_below_drewN | apply below_drew1) | exact HB.out))) : w.heap.size ≤ gb110)); clear HB; have HB := n0_; have BK110 := n1_; have GW110 := n2_; have GE110 := n3_; clear n0_ n1_ n2_ n3_; clear hb hbox hg; have hcz3_0 : w2.cell? ⟨gb110, 0, none⟩ = some (.string a0_0) := (blk_cell BK110.out 0).trans rfl; have hcz3_1 : w2.cell? ⟨gb110, 1, none⟩ = some (.int .i64 a0_1) := (blk_cell BK110.out 1).trans rfl; have hcz3_2 : w2.cell? ⟨gb110, 2, none⟩ = some (.int .i64 a0_2) := (blk_cell BK110.out 2).trans rfl; have hcz3_3 : w2.cell? ⟨gb110, 3, none⟩ = some (.string a0_3) := (blk_cell BK110.out 3).trans rfl; have hcz3_4 : w2.cell? ⟨gb110, 4, none⟩ = some (.string a0_4) := (blk_cell BK110.out 4).trans rfl; have hcz3_5 : w2.cell? ⟨gb110, 5, none⟩ = some (.slice A0_5 l0_5.length c0_5) := (blk_cell BK110.out 5).trans rfl; have hfz3_0 := blk_frozen BK110.out 0; have hfz3_1 := blk_frozen BK110.out 1; have hfz3_2 := blk_frozen BK110.out 2; have hfz3_3 := blk_frozen BK110.out 3; have hfz3_4 := blk_frozen BK110.out 4; have hfz3_5 := blk_frozen BK110.out 5))
  go_loopg [3, 9] k (fun kq v3 v9 w' => ∃ (x3_1 : Int) (x9_1 : Int), v3 = .int .i64 x3_1 ∧ v9 = .int .i64 x9_1 ∧ Aside0 (parse_Depth.l0 kq x3_1 l0_5 (l0_5.length : Int) x9_1 = some r) ∧ Aside0 (kq ≤ k) ∧ Aside0 (w'.heap[gb110]? = some (.cells #[.string a0_0, .int .i64 a0_1, .int .i64 a0_2, .string a0_3, .string a0_4, (.slice A0_5 l0_5.length c0_5)] 43 (0, 0))) ∧ Aside0 (Below w.heap.size w w'))
  case atStart => exact ⟨(0), (0), (by first | rfl | (simp; done) | (simp [*]; done)), (by first | rfl | (simp; done) | (simp [*]; done)), H', ⟨Nat.le_refl _⟩, ⟨by (with_reducible repeat (first | refine blk_drewN ?_ _ | refine blk_drew ?_ | refine blk_alloc ?_ _)); exact BK110.out⟩, ⟨by repeat (first | (with_reducible first | exact HB.out | apply below_alloc | apply pw_below_drewN | apply below_drew1 | refine below_set ?_ GE110.out) | exact HB.out)⟩⟩
  case round =>
    clear H'
    try clear p2
    try clear hcz3_0
    try clear hcz3_1
    try clear hcz3_2
    try clear hcz3_3
    try clear hcz3_4
    try clear hcz3_5
    try clear hfz3_0
    try clear hfz3_1
    try clear hfz3_2
    try clear hfz3_3
    try clear hfz3_4
    try clear hfz3_5
    obtain ⟨x3_1, x9_1, rfl, rfl, HA, HK1, BK110, HB⟩ := hrel
    cases gk with
    | zero => exact absurd HA.out (by simp [parse_Depth.l0])
    | succ k1 =>
      have H := HA.out
      clear HA
      simp only [parse_Depth.l0] at H
      by_cases c4 : x9_1 < (l0_5.length : Int)
      · rw [if_pos c4] at H
        have c4b0 : decide (x9_1 < (l0_5.length : Int)) = true := decide_eq_true c4
        clear c4
        by_cases c5 : 0 ≤ x9_1
        · rw [if_pos c5] at H
          have c5b0 : decide (0 ≤ x9_1) = true := decide_eq_true c5
          clear c5
          by_cases c6 : x9_1 < (l0_5.length : Int)
          · rw [if_pos c6] at H
            have c6b0 : decide (x9_1 < (l0_5.length : Int)) = true := decide_eq_true c6
            clear c6
            replace H := Option.bind_eq_some_iff.mp H
            obtain ⟨t113, A70, H⟩ := H
            replace H : (parse_Depth.l0 k1 (mx x3_1 t113) l0_5 (l0_5.length : Int) (wrap64 (x9_1 + 1))) = some r := H
            have A7 := Aside0.mk A70
            clear A70
            obtain ⟨ji8, hji8⟩ : ∃ j_ : Int, (mx x3_1 t113) = j_ := ⟨_, rfl⟩
            replace H : (parse_Depth.l0 k1 ji8 l0_5 (l0_5.length : Int) (wrap64 (x9_1 + 1))) = some r := by first | (rw [hji8] at H; exact H) | (simp only [hji8] at H ⊢; exact H)
            (try rw [hji8] at A7)
            have hji8_ : (if x3_1 < t113 then t113 else x3_1) = ji8 := hji8
            have H' := Aside0.mk H
            clear H
            have p111 : 0 ≤ (x9_1 : Int) := of_decide_eq_true (by first | (with_reducible assumption) | assumption)
            have q111 : x9_1 < (l0_5.length : Int) := of_decide_eq_true (by first | (with_reducible assumption) | assumption)
            obtain ⟨ad111, A111_5, c111_5, e111, hx111_0, hx111_1, hx111_2, hx111_3, hx111_4, hx111_5, hl111_5, hi111_5⟩ := at_T43 HR0_5.out x9_1 p111 q111
            cases e111
            replace hx111_0 := (HB.out.cell (World.block_lt_of_cell? w _ hx111_0)).trans hx111_0
            replace hx111_1 := (HB.out.cell (World.block_lt_of_cell? w _ hx111_1)).trans hx111_1
            replace hx111_2 := (HB.out.cell (World.block_lt_of_cell? w _ hx111_2)).trans hx111_2
            replace hx111_3 := (HB.out.cell (World.block_lt_of_cell? w _ hx111_3)).trans hx111_3
            replace hx111_4 := (HB.out.cell (World.block_lt_of_cell? w _ hx111_4)).trans hx111_4
            replace hx111_5 := (HB.out.cell (World.block_lt_of_cell? w _ hx111_5)).trans hx111_5
            have HR111_5 := Aside0.mk hi111_5
            have HC111_5 := Aside0.mk hl111_5
            clear hi111_5 hl111_5
            replace p111 := eq_true p111
            replace q111 := eq_true q111
            go_wp2_with (first | ((with_reducible refine gate_dst (N := 5) rfl ?_); refine box_event ?hg (N := 5) ?hd (cs := #[.string (⟨#[]⟩ : ByteArray), .int .i64 0, .int .i64 0, .string (⟨#[]⟩ : ByteArray), .string (⟨#[]⟩ : ByteArray), .slice none 0 0]) (t := 43) ?hr ?_; (case hd => rfl); (case hg => rfl); (case hr => first | (go_simp; done) | (go_simp; rfl)); intro gb112 hg w9 hbox hb; have n0_ := Aside0.mk (blk_below (g := gb110) (o := .cells #[.string a0_0, .int .i64 a0_1, .int .i64 a0_2, .string a0_3, .string a0_4, .slice (some ad111) l0_5.length c0_5] 43 (0, 0)) (by (with_reducible repeat (first | refine blk_drewN ?_ _ | refine blk_drew ?_ | refine blk_alloc ?_ _)); exact BK110.out) hb); have n1_ := Aside0.mk (below_step (by repeat (first | (with_reducible first | exact HB.out | apply below_alloc | apply pw_below_drewN | apply below_drew1 | refine below_set ?_ GE110.out) | exact HB.out)) hb); have n2_ := Aside0.mk (hbox); have n3_ := Aside0.mk ((by rw [hg]; exact (below_size (by repeat (first | (with_reducible first | exact HB.out | apply below_alloc | apply pw_below_drewN | apply below_drew1 | refine below_set ?_ GE110.out) | exact HB.out))) : w.heap.size ≤ gb112)); have n4_ := Aside0.mk ((by rw [hg]; exact (below_size (by repeat (first | (with_reducible first | exact HB.out | apply below_alloc | apply pw_below_drewN | apply below_drew1 | refine below_set ?_ GE110.out) | exact HB.out))) : w.heap.size ≤ gb112)); have n5_ := Aside0.mk ((by rw [hg]; exact Nat.ne_of_lt (blk_lt (g := gb110) (o := .cells #[.string a0_0, .int .i64 a0_1, .int .i64 a0_2, .string a0_3, .string a0_4, .slice (some ad111) l0_5.length c0_5] 43 (0, 0)) (by (with_reducible repeat (first | refine blk_drewN ?_ _ | refine blk_drew ?_ | refine blk_alloc ?_ _)); exact BK110.out)) : gb110 ≠ gb112)); have n6_ := Aside0.mk ((by rw [hg]; exact Nat.ne_of_gt (blk_lt (g := gb110) (o := .cells #[.string a0_0, .int .i64 a0_1, .int .i64 a0_2, .string a0_3, .string a0_4, .slice (some ad111) l0_5.length c0_5] 43 (0, 0)) (by (with_reducible repeat (first | refine blk_drewN ?_ _ | refine blk_drew ?_ | refine blk_alloc ?_ _)); exact BK110.out)) : gb112 ≠ gb110)); clear BK110; clear HB; have BK110 := n0_; have HB := n1_; have BK112 := n2_; have GW112 := n3_; have GE112 := n4_; have NB110_112 := n5_; have NB112_110 := n6_; clear n0_ n1_ n2_ n3_ n4_ n5_ n6_; clear hb hbox hg; have hnb10 := NB112_110.out; have hnc10 := NB110_112.out; have hcz11_0 : w9.cell? ⟨gb112, 0, none⟩ = some (.string (⟨#[]⟩ : ByteArray)) := (blk_cell BK112.out 0).trans rfl; have hcz11_1 : w9.cell? ⟨gb112, 1, none⟩ = some (.int .i64 0) := (blk_cell BK112.out 1).trans rfl; have hcz11_2 : w9.cell? ⟨gb112, 2, none⟩ = some (.int .i64 0) := (blk_cell BK112.out 2).trans rfl; have hcz11_3 : w9.cell? ⟨gb112, 3, none⟩ = some (.string (⟨#[]⟩ : ByteArray)) := (blk_cell BK112.out 3).trans rfl; have hcz11_4 : w9.cell? ⟨gb112, 4, none⟩ = some (.string (⟨#[]⟩ : ByteArray)) := (blk_cell BK112.out 4).trans rfl; have hcz11_5 : w9.cell? ⟨gb112, 5, none⟩ = some (.slice none 0 0) := (blk_cell BK112.out 5).trans rfl; have hfz11_0 := blk_frozen BK112.out 0; have hfz11_1 := blk_frozen BK112.out 1; have hfz11_2 := blk_frozen BK112.out 2; have hfz11_3 := blk_frozen BK112.out 3; have hfz11_4 := blk_frozen BK112.out 4; have hfz11_5 := blk_frozen BK112.out 5) | ((with_reducible refine gate_callee (f := 43) rfl ?_); refine goesL_ (some 15) rfl rfl Tryz.func43 (by kernel_rfl) rfl #[.agg #[.string ((rd_T43 l0_5 x9_1).f0), .int .i64 ((rd_T43 l0_5 x9_1).f1.f0), .int .i64 ((rd_T43 l0_5 x9_1).f1.f1), .string ((rd_T43 l0_5 x9_1).f1.f2), .string ((rd_T43 l0_5 x9_1).f2), .slice A111_5 ((rd_T43 l0_5 x9_1).f3).length c111_5]] rfl (by (try simp only [List.map_toArray, List.map_cons, List.map_nil]); first | done | rfl | (simp only [List.length_drop, List.length_take]; rfl)) ?_; (with_reducible refine (ih k1 (by have := HK1.out; omega) ((rd_T43 l0_5 x9_1).f0) ((rd_T43 l0_5 x9_1).f1.f0) ((rd_T43 l0_5 x9_1).f1.f1) ((rd_T43 l0_5 x9_1).f1.f2) ((rd_T43 l0_5 x9_1).f2) _ _ ((rd_T43 l0_5 x9_1).f3) t113 _ ?side1 ?side2 A7.out).mono ?_); (case side1 => exact Kd.C_below HR111_5.out (by repeat (first | (with_reducible first | exact HB.out | apply below_alloc | apply pw_below_drewN | apply below_drew1 | refine below_set ?_ GE110.out | refine below_set ?_ GE112.out) | exact HB.out))); (case side2 => exact HC111_5.out); rintro e w12 ⟨rfl, hb⟩; refine ⟨_, rfl, ?_⟩; have n0_ := Aside0.mk (blk_below (g := gb110) (o := .cells #[.string a0_0, .int .i64 a0_1, .int .i64 a0_2, .string a0_3, .string a0_4, .slice (some ad111) l0_5.length c0_5] 43 (0, 0)) (by (with_reducible repeat (first | refine blk_drewN ?_ _ | refine blk_drew ?_ | refine blk_alloc ?_ _)); refine blk_far ?_ NB110_112.out _; (with_reducible repeat (first | refine blk_drewN ?_ _ | refine blk_drew ?_ | refine blk_alloc ?_ _)); refine blk_far ?_ NB110_112.out _; (with_reducible repeat (first | refine blk_drewN ?_ _ | refine blk_drew ?_ | refine blk_alloc ?_ _)); refine blk_far ?_ NB110_112.out _; (with_reducible repeat (first | refine blk_drewN ?_ _ | refine blk_drew ?_ | refine blk_alloc ?_ _)); refine blk_far ?_ NB110_112.out _; (with_reducible repeat (first | refine blk_drewN ?_ _ | refine blk_drew ?_ | refine blk_alloc ?_ _)); refine blk_far ?_ NB110_112.out _; (with_reducible repeat (first | refine blk_drewN ?_ _ | refine blk_drew ?_ | refine blk_alloc ?_ _)); refine blk_far ?_ NB110_112.out _; (with_reducible repeat (first | refine blk_drewN ?_ _ | refine blk_drew ?_ | refine blk_alloc ?_ _)); exact BK110.out) hb); have n1_ := Aside0.mk (blk_below (g := gb112) (o := .cells #[.string ((rd_T43 l0_5 x9_1).f0), .int .i64 ((rd_T43 l0_5 x9_1).f1.f0), .int .i64 ((rd_T43 l0_5 x9_1).f1.f1), .string ((rd_T43 l0_5 x9_1).f1.f2), .string ((rd_T43 l0_5 x9_1).f2), .slice A111_5 ((rd_T43 l0_5 x9_1).f3).length c111_5] 43 (0, 0)) (by (with_reducible repeat (first | refine blk_drewN ?_ _ | refine blk_drew ?_ | refine blk_alloc ?_ _)); refine blk_put (cs := #[.string ((rd_T43 l0_5 x9_1).f0), .int .i64 ((rd_T43 l0_5 x9_1).f1.f0), .int .i64 ((rd_T43 l0_5 x9_1).f1.f1), .string ((rd_T43 l0_5 x9_1).f1.f2), .string ((rd_T43 l0_5 x9_1).f2), .slice none 0 0]) ?_ 5 _ rfl; (with_reducible repeat (first | refine blk_drewN ?_ _ | refine blk_drew ?_ | refine blk_alloc ?_ _)); refine blk_put (cs := #[.string ((rd_T43 l0_5 x9_1).f0), .int .i64 ((rd_T43 l0_5 x9_1).f1.f0), .int .i64 ((rd_T43 l0_5 x9_1).f1.f1), .string ((rd_T43 l0_5 x9_1).f1.f2), .string (⟨#[]⟩ : ByteArray), .slice none 0 0]) ?_ 4 _ rfl; (with_reducible repeat (first | refine blk_drewN ?_ _ | refine blk_drew ?_ | refine blk_alloc ?_ _)); refine blk_put (cs := #[.string ((rd_T43 l0_5 x9_1).f0), .int .i64 ((rd_T43 l0_5 x9_1).f1.f0), .int .i64 ((rd_T43 l0_5 x9_1).f1.f1), .string (⟨#[]⟩ : ByteArray), .string (⟨#[]⟩ : ByteArray), .slice none 0 0]) ?_ 3 _ rfl; (with_reducible repeat (first | refine blk_drewN ?_ _ | refine blk_drew ?_ | refine blk_alloc ?_ _)); refine blk_put (cs := #[.string ((rd_T43 l0_5 x9_1).f0), .int .i64 ((rd_T43 l0_5 x9_1).f1.f0), .int .i64 0, .string (⟨#[]⟩ : ByteArray), .string (⟨#[]⟩ : ByteArray), .slice none 0 0]) ?_ 2 _ rfl; (with_reducible repeat (first | refine blk_drewN ?_ _ | refine blk_drew ?_ | refine blk_alloc ?_ _)); refine blk_put (cs := #[.string ((rd_T43 l0_5 x9_1).f0), .int .i64 0, .int .i64 0, .string (⟨#[]⟩ : ByteArray), .string (⟨#[]⟩ : ByteArray), .slice none 0 0]) ?_ 1 _ rfl; (with_reducible repeat (first | refine blk_drewN ?_ _ | refine blk_drew ?_ | refine blk_alloc ?_ _)); refine blk_put (cs := #[.string (⟨#[]⟩ : ByteArray), .int .i64 0, .int .i64 0, .string (⟨#[]⟩ : ByteArray), .string (⟨#[]⟩ : ByteArray), .slice none 0 0]) ?_ 0 _ rfl; (with_reducible repeat (first | refine blk_drewN ?_ _ | refine blk_drew ?_ | refine blk_alloc ?_ _)); exact BK112.out) hb); have n2_ := Aside0.mk (below_step (by repeat (first | (with_reducible first | exact HB.out | apply below_alloc | apply pw_below_drewN | apply below_drew1 | refine below_set ?_ GE110.out | refine below_set ?_ GE112.out) | exact HB.out)) hb); clear BK110; clear BK112; clear HB; have BK110 := n0_; have BK112 := n1_; have HB := n2_; clear n0_ n1_ n2_; (try clear hb); (try clear hb2); (try clear hk); (try clear hi)))
            go_roundg k1
            case measure => have := HK1.out; omega
            case rel => exact ⟨(ji8), (wrap64 (x9_1 + 1)), (by first | rfl | (simp; done) | (simp only [← hji8] <;> (first | rfl | simp)) | (simp [*]; done)), (by first | rfl | (simp; done) | (simp [*]; done)), H', ⟨by have := HK1.out; omega⟩, ⟨by (with_reducible repeat (first | refine blk_drewN ?_ _ | refine blk_drew ?_ | refine blk_alloc ?_ _)); exact BK110.out⟩, ⟨by repeat (first | (with_reducible first | exact HB.out | apply below_alloc | apply pw_below_drewN | apply below_drew1 | refine below_set ?_ GE110.out | refine below_set ?_ GE112.out) | exact HB.out)⟩⟩
          · rw [if_neg c6] at H
            exact absurd H (by simp)
        · rw [if_neg c5] at H
          exact absurd H (by simp)
      · rw [if_neg c4] at H
        have c4b0 : decide (x9_1 < (l0_5.length : Int)) = false := decide_eq_false c4
        clear c4
        obtain rfl := Option.some.inj H
        go_wp2
        go_ret
        exact ⟨by first | rfl | (simp [errW_none, errW_some] <;> rfl) | (simp [*, errW_none, errW_some] <;> rfl), by repeat (first | (with_reducible first | exact HB.out | apply below_alloc | apply pw_below_drewN | apply below_drew1 | refine below_set ?_ GE110.out) | exact HB.out)⟩
end Go.Proofs.YtcgdncpioafbdaaGreatDoor.Q
-- Written by a program of this seat (wip/pr.py, by way of the kit's print) out of the translation; Lean checks it.
namespace Go.Proofs.YtcgdncpioafbdaaGreatDoor.Q
open Go.RowKit Go.Proofs.YtcgdncpioafbdaaGreatDoorW.PrintWords Go.Proofs.YtcgdncpioafbdaaGreatDoorW.PrintLast Go.Proofs.YtcgdncpioafbdaaGreatDoorW.PrintMore
attribute [local go_sem] max2_int min2_int max_two min_two max_three min_three max_four min_four   -- for this text's walks alone
set_option linter.unusedVariables false
set_option linter.unusedSimpArgs false
theorem eqA32 (d : Nat) (w : World) (x0 y0 : Int) (x1 y1 : ByteArray) (x2 y2 : Int) :
    (Op.equalIn (d + 2) 32 (.agg #[.int .i64 x0, .string x1, .int .i64 x2]) (.agg #[.int .i64 y0, .string y1, .int .i64 y2])).run Tryz.prog w = .ok (x0 == y0 && (x1.toList == y1.toList && (x2 == y2))) w := by
  refine eqA_of Tryz.underlying32 (by kernel_rfl) ?_
  refine eqf_cons (by rfl) (by go_simp; rfl) (by go_simp; rfl) (by go_simp) ?_
  refine eqf_cons (by rfl) (by go_simp; rfl) (by go_simp; rfl) (by go_simp) ?_
  exact eqf_last (by rfl) (by go_simp; rfl) (by go_simp; rfl) (by go_simp)
end Go.Proofs.YtcgdncpioafbdaaGreatDoor.Q
-- Written by a program of this seat (wip/pr.py, by way of the kit's print) out of the translation; Lean checks it.
namespace Go.Proofs.YtcgdncpioafbdaaGreatDoor.Q
open Go.RowKit Go.Proofs.YtcgdncpioafbdaaGreatDoorW.PrintWords Go.Proofs.YtcgdncpioafbdaaGreatDoorW.PrintLast Go.Proofs.YtcgdncpioafbdaaGreatDoorW.PrintMore
attribute [local go_sem] max2_int min2_int max_two min_two max_three min_three max_four min_four   -- for this text's walks alone
set_option linter.unusedVariables false
set_option linter.unusedSimpArgs false
attribute [local go_sem high] eqA32
/-! ### vidimusref16_Same: function 18 -/
def vidimusref16_Same.l0 : Nat → List (S32) → List (S32) → Int → Option (Bool)
  | 0, _, _, _ => none
  | k + 1, x0, x1, x5 => if x5 < (x0.length : Int) then (if 0 ≤ x5 then (if x5 < (x1.length : Int) then (if (!(((rd_T32 x0 x5).f0) == ((rd_T32 x1 x5).f0)) || (!((((rd_T32 x0 x5).f1).toList) == (((rd_T32 x1 x5).f1).toList)) || (!(((rd_T32 x0 x5).f2) == ((rd_T32 x1 x5).f2))))) = true then (some false) else (vidimusref16_Same.l0 k x0 x1 (wrap64 (x5 + 1)))) else (none)) else (none)) else (some true)
def vidimusref16_Same.f (k : Nat) (l0 : List (S32)) (l1 : List (S32)) : Option (Bool) := if (l0.length : Int) = (l1.length : Int) then (vidimusref16_Same.l0 k l0 l1 0) else (some false)
/-! ### vidimusref16_Digits: function 67 -/
def vidimusref16_Digits.f : Nat → Int → Option (ByteArray)
  | 0, _ => none
  | k + 1, a0 => if a0 < 10 then (some (strOfNums (([(wrap64 (48 + a0)) % 256] : List Int)))) else ((vidimusref16_Digits.f k (wrap64 (Int.tdiv a0 10))).bind fun t156 => ((some (([(wrap64 (48 + (Int.tmod a0 10))) % 256] : List Int) : List Int)).bind fun y157 => (if t156.size + (strOfNums y157).size ≤ 9223372036854775807 then (some (t156 ++ (strOfNums y157))) else (none))))
/-! ### vidimusref16_Quoted: function 68 -/
def vidimusref16_Quoted.l0 : Nat → ByteArray → ByteArray → Int → Option (ByteArray)
  | 0, _, _, _ => none
  | k + 1, x0, x3, x4 => if x4 < (x0.size : Int) then (if 0 ≤ x4 then (if (bt x0 x4) = 39 then (if x3.size + 1 ≤ 9223372036854775807 then (if x4 ≤ (wrap64 (x4 + 1)) then (if (wrap64 (x4 + 1)) ≤ (x0.size : Int) then (if (x3 ++ (⟨#[39]⟩ : ByteArray)).size + (x0.extract (x4 : Int).toNat ((wrap64 (x4 + 1)) : Int).toNat).size ≤ 9223372036854775807 then (vidimusref16_Quoted.l0 k x0 ((x3 ++ (⟨#[39]⟩ : ByteArray)) ++ (x0.extract (x4 : Int).toNat ((wrap64 (x4 + 1)) : Int).toNat)) (wrap64 (x4 + 1))) else (none)) else (none)) else (none)) else (none)) else (if x4 ≤ (wrap64 (x4 + 1)) then (if (wrap64 (x4 + 1)) ≤ (x0.size : Int) then (if x3.size + (x0.extract (x4 : Int).toNat ((wrap64 (x4 + 1)) : Int).toNat).size ≤ 9223372036854775807 then (vidimusref16_Quoted.l0 k x0 (x3 ++ (x0.extract (x4 : Int).toNat ((wrap64 (x4 + 1)) : Int).toNat)) (wrap64 (x4 + 1))) else (none)) else (none)) else (none))) else (none)) else (if x3.size + 1 ≤ 9223372036854775807 then (some (x3 ++ (⟨#[39]⟩ : ByteArray))) else (none))
def vidimusref16_Quoted.f (k : Nat) (a0 : ByteArray) : Option (ByteArray) := vidimusref16_Quoted.l0 k a0 (⟨#[39]⟩ : ByteArray) 0
/-! ### vidimusref16_Text: function 20 -/
mutual
def vidimusref16_Text.l0 : Nat → List (S32) → ByteArray → Int → Option (ByteArray)
  | 0, _, _, _ => none
  | k + 1, x0, x3, x4 => if x4 < (x0.length : Int) then (if 0 ≤ x4 then (vidimusref16_Text.j1 k x0 x3 x4 (((rd_T32 x0 x4).f0) != 0)) else (none)) else (vidimusref16_Text.j1 k x0 x3 x4 false)
def vidimusref16_Text.j1 : Nat → List (S32) → ByteArray → Int → Bool → Option (ByteArray)
  | 0, _, _, _, _ => none
  | k + 1, x0, x3, x4, x16 => if x16 = true then (if x4 > 0 then (if x3.size + 1 ≤ 9223372036854775807 then (vidimusref16_Text.j2 k x0 (x3 ++ (⟨#[32]⟩ : ByteArray)) x4) else (none)) else (vidimusref16_Text.j2 k x0 x3 x4)) else (some x3)
def vidimusref16_Text.j2 : Nat → List (S32) → ByteArray → Int → Option (ByteArray)
  | 0, _, _, _ => none
  | k + 1, x0, x3, x4 => if 0 ≤ x4 then (if x4 < (x0.length : Int) then (if ((rd_T32 x0 x4).f0) = 2 then ((vidimusref16_Digits.f k (mx ((rd_T32 x0 x4).f2) 0)).bind fun t163 => (if x3.size + t163.size ≤ 9223372036854775807 then (vidimusref16_Text.l0 k x0 (x3 ++ t163) (wrap64 (x4 + 1))) else (none))) else (if ((rd_T32 x0 x4).f0) = 3 then ((vidimusref16_Quoted.f k ((rd_T32 x0 x4).f1)).bind fun t165 => (if x3.size + t165.size ≤ 9223372036854775807 then (vidimusref16_Text.l0 k x0 (x3 ++ t165) (wrap64 (x4 + 1))) else (none))) else (if x3.size + ((rd_T32 x0 x4).f1).size ≤ 9223372036854775807 then (vidimusref16_Text.l0 k x0 (x3 ++ ((rd_T32 x0 x4).f1)) (wrap64 (x4 + 1))) else (none)))) else (none)) else (none)
end
def vidimusref16_Text.f (k : Nat) (l0 : List (S32)) : Option (ByteArray) := vidimusref16_Text.l0 k l0 (⟨#[]⟩ : ByteArray) 0
end Go.Proofs.YtcgdncpioafbdaaGreatDoor.Q
-- Written by a program of this seat (wip/pr.py, by way of the kit's print) out of the translation; Lean checks it.
namespace Go.Proofs.YtcgdncpioafbdaaGreatDoor.Q
open Go.RowKit Go.Proofs.YtcgdncpioafbdaaGreatDoorW.PrintWords Go.Proofs.YtcgdncpioafbdaaGreatDoorW.PrintLast Go.Proofs.YtcgdncpioafbdaaGreatDoorW.PrintMore
attribute [local go_sem] max2_int min2_int max_two min_two max_three min_three max_four min_four   -- for this text's walks alone
set_option linter.unusedVariables false
set_option linter.unusedSimpArgs false
attribute [local go_sem high] eqA32
/-! ### vidimusref16_Same: function 18 -/
/-! ### vidimusref16_Digits: function 67 -/
/-! ### vidimusref16_Quoted: function 68 -/
/-! ### vidimusref16_Text: function 20 -/
end Go.Proofs.YtcgdncpioafbdaaGreatDoor.Q
-- Written by a program of this seat (wip/pr.py, by way of the kit's print) out of the translation; Lean checks it.
namespace Go.Proofs.YtcgdncpioafbdaaGreatDoor.Q
open Go.RowKit Go.Proofs.YtcgdncpioafbdaaGreatDoorW.PrintWords Go.Proofs.YtcgdncpioafbdaaGreatDoorW.PrintLast Go.Proofs.YtcgdncpioafbdaaGreatDoorW.PrintMore
attribute [local go_sem] max2_int min2_int max_two min_two max_three min_three max_four min_four   -- for this text's walks alone
set_option linter.unusedVariables false
set_option linter.unusedSimpArgs false
/-! ### vidimusref17_Reserved: function 50 -/
def vidimusref17_Reserved.l0 : Nat → ByteArray → List ByteArray → Int → Int → Option (Bool)
  | 0, _, _, _, _ => none
  | k + 1, x0, x5, x6, x7 => if x7 < x6 then (if 0 ≤ x7 then (if x7 < (x5.length : Int) then (if (rdOf ByteArray.empty x5 x7).toList = x0.toList then (some true) else (vidimusref17_Reserved.l0 k x0 x5 x6 (wrap64 (x7 + 1)))) else (none)) else (none)) else (some false)
def vidimusref17_Reserved.f (k : Nat) (a0 : ByteArray) : Option (Bool) := (some (([(⟨#[99, 114, 101, 97, 116, 101]⟩ : ByteArray), (⟨#[116, 97, 98, 108, 101]⟩ : ByteArray), (⟨#[100, 114, 111, 112]⟩ : ByteArray), (⟨#[105, 110, 115, 101, 114, 116]⟩ : ByteArray), (⟨#[105, 110, 116, 111]⟩ : ByteArray), (⟨#[118, 97, 108, 117, 101, 115]⟩ : ByteArray), (⟨#[115, 101, 108, 101, 99, 116]⟩ : ByteArray), (⟨#[102, 114, 111, 109]⟩ : ByteArray), (⟨#[119, 104, 101, 114, 101]⟩ : ByteArray), (⟨#[111, 114, 100, 101, 114]⟩ : ByteArray), (⟨#[98, 121]⟩ : ByteArray), (⟨#[100, 101, 115, 99]⟩ : ByteArray), (⟨#[108, 105, 109, 105, 116]⟩ : ByteArray), (⟨#[117, 112, 100, 97, 116, 101]⟩ : ByteArray), (⟨#[115, 101, 116]⟩ : ByteArray), (⟨#[100, 101, 108, 101, 116, 101]⟩ : ByteArray), (⟨#[97, 110, 100]⟩ : ByteArray), (⟨#[111, 114]⟩ : ByteArray), (⟨#[110, 111, 116]⟩ : ByteArray), (⟨#[105, 115]⟩ : ByteArray), (⟨#[110, 117, 108, 108]⟩ : ByteArray), (⟨#[105, 110, 116]⟩ : ByteArray), (⟨#[116, 101, 120, 116]⟩ : ByteArray), (⟨#[100, 101, 116]⟩ : ByteArray), (⟨#[107, 101, 121]⟩ : ByteArray), (⟨#[99, 111, 117, 110, 116]⟩ : ByteArray), (⟨#[115, 117, 109]⟩ : ByteArray), (⟨#[109, 105, 110]⟩ : ByteArray), (⟨#[109, 97, 120]⟩ : ByteArray)] : List ByteArray) : List ByteArray)).bind fun y118 => (vidimusref17_Reserved.l0 k a0 y118 (y118.length : Int) 0)
/-! ### vidimusref17_Depth: function 44 -/
mutual
def vidimusref17_Depth.l0 : Nat → Int → Int → ByteArray → Int → Int → ByteArray → ByteArray → List (S43) → Option (Int)
  | 0, _, _, _, _, _, _, _, _ => none
  | k + 1, x3, x4, x127000, x127001, x127002, x127003, x127004, x127005 => if x4 < (x127005.length : Int) then (if 0 ≤ x4 then ((vidimusref17_Depth.f k ((rd_T43 x127005 x4).f0) ((rd_T43 x127005 x4).f1.f0) ((rd_T43 x127005 x4).f1.f1) ((rd_T43 x127005 x4).f1.f2) ((rd_T43 x127005 x4).f2) ((rd_T43 x127005 x4).f3)).bind fun t128 => (vidimusref17_Depth.l0 k (mx x3 t128) (wrap64 (x4 + 1)) x127000 x127001 x127002 x127003 x127004 x127005)) else (none)) else (some (wrap64 (x3 + 1)))
def vidimusref17_Depth.f : Nat → ByteArray → Int → Int → ByteArray → ByteArray → List (S43) → Option (Int)
  | 0, _, _, _, _, _, _ => none
  | k + 1, a0_0, a0_1, a0_2, a0_3, a0_4, l0_5 => vidimusref17_Depth.l0 k 0 0 a0_0 a0_1 a0_2 a0_3 a0_4 l0_5
end
/-! ### vidimusref17_number: function 103 -/
def vidimusref17_number.f (k : Nat) (a0 : Int) : Option (ByteArray) := if a0 ≥ 0 then ((vidimusref16_Digits.f k a0).bind fun t129 => (some t129)) else (if a0 = (-9223372036854775808) then (some (⟨#[45, 57, 50, 50, 51, 51, 55, 50, 48, 51, 54, 56, 53, 52, 55, 55, 53, 56, 48, 56]⟩ : ByteArray)) else ((vidimusref16_Digits.f k (wrap64 (-a0))).bind fun t130 => (if 1 + t130.size ≤ 9223372036854775807 then (some ((⟨#[45]⟩ : ByteArray) ++ t130)) else (none))))
end Go.Proofs.YtcgdncpioafbdaaGreatDoor.Q
-- Written by a program of this seat (wip/pr.py, by way of the kit's print) out of the translation; Lean checks it.
namespace Go.Proofs.YtcgdncpioafbdaaGreatDoor.Q
open Go.RowKit Go.Proofs.YtcgdncpioafbdaaGreatDoorW.PrintWords Go.Proofs.YtcgdncpioafbdaaGreatDoorW.PrintLast Go.Proofs.YtcgdncpioafbdaaGreatDoorW.PrintMore
attribute [local go_sem] max2_int min2_int max_two min_two max_three min_three max_four min_four   -- for this text's walks alone
set_option linter.unusedVariables false
set_option linter.unusedSimpArgs false
/-! ### vidimusref17_Reserved: function 50 -/
/-! ### vidimusref17_Depth: function 44 -/
/-! ### vidimusref17_number: function 103 -/
end Go.Proofs.YtcgdncpioafbdaaGreatDoor.Q
/- How deep an expression is; the printed Depth says so. What the parser reads is not too deep to be reckoned. -/
namespace Go.Proofs.YtcgdncpioafbdaaGreatDoor.Q
open Go Go.RowKit Go.Proofs.YtcgdncpioafbdaaGreatDoorW.PrintWords
mutual
def dep : S43 → Nat
  | ⟨_, _, _, l⟩ => deps l + 1
def deps : List S43 → Nat
  | [] => 0
  | x :: l => max (dep x) (deps l)
end
mutual
def fu : S43 → Nat
  | ⟨_, _, _, l⟩ => fus l + 1
def fus : List S43 → Nat
  | [] => 1
  | x :: l => max (fu x) (fus l) + 1
end
theorem deps_cons (x : S43) (l : List S43) : deps (x :: l) = max (dep x) (deps l) := by rw [deps]
mutual
theorem dep_fu : ∀ x : S43, dep x ≤ fu x
  | ⟨_, _, _, l⟩ => by
    unfold dep fu
    have := deps_fus l
    omega
theorem deps_fus : ∀ l : List S43, deps l ≤ fus l
  | [] => by unfold deps fus; omega
  | x :: l => by
    unfold deps fus
    have := dep_fu x
    have := deps_fus l
    omega
end
theorem dep_eq (x : S43) : dep x = deps x.f3 + 1 := by cases x; rfl
theorem fu_eq (x : S43) : fu x = fus x.f3 + 1 := by cases x; rfl
theorem Depth_loop {n : Nat} (ih : ∀ x : S43, fu x < n → fu x < 4611686018427387904 → ∀ k, fu x ≤ k → parse_Depth.f k x.f0 x.f1.f0 x.f1.f1 x.f1.f2 x.f2 x.f3 = some (dep x : Int)) :
    ∀ (l pre : List S43), fus l ≤ n → pre.length + fus l < 4611686018427387904 → ∀ (k m : Nat), m < 4611686018427387904 → fus l ≤ k → parse_Depth.l0 k (m : Int) (pre ++ l) ((pre ++ l).length : Int) (pre.length : Int) = some ((max m (deps l) + 1 : Nat) : Int)
  | [], pre, h1, h2, k, m, hm, hk => by
    cases k with
    | zero => simp [fus] at hk
    | succ k =>
      unfold parse_Depth.l0
      rw [if_neg (by simp)]
      unfold deps
      congr 1
      unfold wrap64
      omega
  | x :: l, pre, h1, h2, k, m, hm, hk => by
    unfold fus at h1 h2 hk
    cases k with
    | zero => omega
    | succ k =>
      have hx : rd_T43 (pre ++ x :: l) (pre.length : Int) = x := by
        unfold rd_T43
        rw [Int.toNat_natCast, List.getD_eq_getElem?_getD, List.getElem?_append_right (Nat.le_refl _), Nat.sub_self]
        rfl
      unfold parse_Depth.l0
      rw [if_pos (by simp; omega), if_pos (by omega), if_pos (by simp; omega), hx, ih x (by omega) (by omega) k (by omega)]
      simp only [Option.bind_some]
      have hd := dep_fu x
      have hmx : mx (m : Int) (dep x : Int) = ((max m (dep x) : Nat) : Int) := by
        unfold mx
        split <;> omega
      have hw : wrap64 ((pre.length : Int) + 1) = ((pre ++ [x]).length : Int) := by
        rw [List.length_append]
        simp only [List.length_cons, List.length_nil]
        unfold wrap64
        omega
      rw [hmx, hw, show pre ++ x :: l = (pre ++ [x]) ++ l by simp]
      have h := Depth_loop ih l (pre ++ [x]) (by omega) (by simp; omega) k (max m (dep x)) (by omega) (by omega)
      rw [h, deps_cons]
      congr 2
      omega
theorem Depth_is (x : S43) (hx : fu x < 4611686018427387904) : ∀ k, fu x ≤ k → parse_Depth.f k x.f0 x.f1.f0 x.f1.f1 x.f1.f2 x.f2 x.f3 = some (dep x : Int) := by
  have key : ∀ n, ∀ x : S43, fu x < n → fu x < 4611686018427387904 → ∀ k, fu x ≤ k → parse_Depth.f k x.f0 x.f1.f0 x.f1.f1 x.f1.f2 x.f2 x.f3 = some (dep x : Int) := by
    intro n
    induction n with
    | zero => intro x h; omega
    | succ n ih =>
      intro x h1 h2 k hk
      have he := fu_eq x
      cases k with
      | zero => omega
      | succ k =>
        unfold parse_Depth.f
        have h := Depth_loop (n := n) ih x.f3 [] (by omega) (by simp; omega) k 0 (by omega) (by omega)
        simp only [List.nil_append, List.length_nil] at h
        rw [dep_eq]
        have h0 : ((0 : Nat) : Int) = 0 := rfl
        rw [h0] at h
        rw [h]
        congr 2
        first | done | omega
  exact key (fu x + 1) x (by omega) hx
/-! What the parser reads. -/
theorem fu_op1 (s : ByteArray) (e : S43) : fu (Ps.op s [e]) ≤ fu e + 3 := by
  have := fu_eq (Ps.op s [e])
  have h2 : fus [e] = max (fu e) 1 + 1 := by simp [fus]
  have : fu (Ps.op s [e]) = fus [e] + 1 := this
  have := fu_eq e
  omega
theorem fu_op2 (s : ByteArray) (e x : S43) : fu (Ps.op s [e, x]) ≤ max (fu e) (fu x) + 4 := by
  have h1 : fu (Ps.op s [e, x]) = fus [e, x] + 1 := fu_eq _
  have h2 : fus [e, x] = max (fu e) (max (fu x) 1 + 1) + 1 := by simp [fus]
  omega
theorem fu_val (v : S40) : fu (Ps.val v) = 2 := rfl
def BB (k : Nat) : Nat := 4 * k * k + 2
theorem BB_succ (k : Nat) : BB (k + 1) = BB k + 8 * k + 4 := by
  have h : (k + 1) * (k + 1) = k * k + 2 * k + 1 := by rw [Nat.add_mul, Nat.mul_add]; omega
  unfold BB
  rw [Nat.mul_assoc, Nat.mul_assoc, h]
  omega
theorem fu_all : ∀ k, (∀ least ts e r, Ps.expr k least ts = some (e, r) → fu e ≤ BB k) ∧ (∀ least e ts x r, Ps.more k least e ts = some (x, r) → fu x ≤ max (fu e) (BB k) + 4 * k) ∧ (∀ ts e r, Ps.first k ts = some (e, r) → fu e ≤ BB k)
  | 0 => ⟨fun _ _ _ _ h => by simp [Ps.expr] at h, fun _ _ _ _ _ h => by simp [Ps.more] at h, fun _ _ _ h => by simp [Ps.first] at h⟩
  | k + 1 => by
    obtain ⟨h1, h2, h3⟩ := fu_all k
    have hB := BB_succ k
    have hB2 : 2 ≤ BB k := by unfold BB; omega
    refine ⟨fun least ts e r h => ?_, fun least e ts x r h => ?_, fun ts e r h => ?_⟩
    · unfold Ps.expr at h
      split at h
      · cases h
      · split at h
        · cases h
        · rename_i e1 r1 hf
          have a := h3 _ _ _ hf
          have b := h2 _ _ _ _ _ h
          omega
    · unfold Ps.more at h
      split at h
      · cases h; omega
      · split at h
        · cases h; omega
        · split at h
          · cases h
          · split at h
            · split at h
              · cases h
              · rename_i no r1 ht
                split at h
                · cases h
                · have b := h2 _ _ _ _ _ h
                  have c1 := fu_op1 Ps.sIsnull e
                  have c2 := fu_op1 Ps.sNot (Ps.op Ps.sIsnull [e])
                  have c3 : fu (Ps.op Ps.sIsnull [e]) ≤ fu e + 2 := by
                    have e1 : fu (Ps.op Ps.sIsnull [e]) = fus [e] + 1 := fu_eq _
                    have e2 : fus [e] = max (fu e) 1 + 1 := by simp [fus]
                    have := fu_eq e
                    omega
                  have c4 : fu (Ps.op Ps.sNot [Ps.op Ps.sIsnull [e]]) ≤ fu e + 4 := by
                    have e1 : fu (Ps.op Ps.sNot [Ps.op Ps.sIsnull [e]]) = fus [Ps.op Ps.sIsnull [e]] + 1 := fu_eq _
                    have e2 : fus [Ps.op Ps.sIsnull [e]] = max (fu (Ps.op Ps.sIsnull [e])) 1 + 1 := by simp [fus]
                    omega
                  cases no
                  · rw [if_neg (by decide)] at b
                    omega
                  · rw [if_pos rfl] at b
                    omega
            · split at h
              · cases h
              · rename_i y r1 hx
                have a := h1 _ _ _ _ hx
                have b := h2 _ _ _ _ _ h
                have c := fu_op2 (Ps.pk ts) e y
                omega
    · unfold Ps.first at h
      have o1 : ∀ s e, fu (Ps.op s [e]) ≤ fu e + 3 := fu_op1
      repeat' (split at h)
      all_goals first
        | (cases h; done)
        | (cases h; first | (have := fu_val ⟨1, 0, ⟨#[]⟩⟩; simp only [fu_val]; omega) | (have a := h1 _ _ _ _ ‹Ps.expr k _ _ = some (_, _)›; first | omega | (refine Nat.le_trans (o1 _ _) ?_; omega)) | (rename_i hx hu; have a := h1 _ _ _ _ hx; first | omega | (refine Nat.le_trans (o1 _ _) ?_; omega)) | (show fu ⟨_, _, _, []⟩ ≤ _; simp only [fu, fus]; omega) | (refine Nat.le_trans (Nat.le_of_eq (fu_eq _)) ?_; simp only [Ps.op, fus]; omega))
theorem fu_expr {k : Nat} {least : Int} {ts r : List S32} {e : S43} (h : Ps.expr k least ts = some (e, r)) : fu e ≤ BB k := (fu_all k).1 _ _ _ _ h
end Go.Proofs.YtcgdncpioafbdaaGreatDoor.Q
-- Written by a program of this seat (wip/pr.py, by way of the kit's print) out of the translation; Lean checks it.
namespace Go.Proofs.YtcgdncpioafbdaaGreatDoor.Q
open Go.RowKit Go.Proofs.YtcgdncpioafbdaaGreatDoorW.PrintWords Go.Proofs.YtcgdncpioafbdaaGreatDoorW.PrintLast Go.Proofs.YtcgdncpioafbdaaGreatDoorW.PrintMore
attribute [local go_sem] max2_int min2_int max_two min_two max_three min_three max_four min_four   -- for this text's walks alone
set_option linter.unusedVariables false
set_option linter.unusedSimpArgs false
/-! ### lex_skip: function 55 -/
def lex_skip.l0 : Nat → ByteArray → Option (ByteArray)
  | 0, _ => none
  | k + 1, x0 => (strings_TrimLeft.f x0 (⟨#[32, 9, 10, 13]⟩ : ByteArray)).bind fun t101 => ((strings_HasPrefix.f t101 (⟨#[45, 45]⟩ : ByteArray)).bind fun t102 => (if t102 = true then ((strings_Cut.f t101 (⟨#[10]⟩ : ByteArray)).bind fun bt103 => (lex_skip.l0 k bt103.2.1)) else (some t101)))
def lex_skip.f (k : Nat) (a0 : ByteArray) : Option (ByteArray) := lex_skip.l0 k a0
/-! ### lex_run: function 121 -/
def lex_run.f (a0 : ByteArray) (a1 : ByteArray) : Option (Int) := (lex_cutLeft.f a0 a1).bind fun t106 => (some (wrap64 ((a0.size : Int) - (t106.size : Int))))
/-! ### lex_word: function 58 -/
def lex_word.f (a0 : ByteArray) : Option (Int × ByteArray × Int × Int × Int) := (lex_run.f a0 (⟨#[97, 98, 99, 100, 101, 102, 103, 104, 105, 106, 107, 108, 109, 110, 111, 112, 113, 114, 115, 116, 117, 118, 119, 120, 121, 122, 65, 66, 67, 68, 69, 70, 71, 72, 73, 74, 75, 76, 77, 78, 79, 80, 81, 82, 83, 84, 85, 86, 87, 88, 89, 90, 48, 49, 50, 51, 52, 53, 54, 55, 56, 57, 95]⟩ : ByteArray)).bind fun t108 => (if t108 > 30 then (some (0, (⟨#[]⟩ : ByteArray), 0, 0, 28)) else (if 0 ≤ t108 then (if t108 ≤ (a0.size : Int) then ((strings_ToLower.f (a0.extract 0 (t108 : Int).toNat)).bind fun t109 => (some (1, t109, 0, t108, 0))) else (none)) else (none)))
/-! ### lex_has: function 57 -/
def lex_has.f (a0 : ByteArray) (a1 : Int) : Option (Bool) := (strings_IndexByte.f a0 a1).bind fun t110 => (some (decide (t110 ≥ 0)))
/-! ### lex_sign: function 56 -/
def lex_sign.j0 : Nat → ByteArray → ByteArray → Bool → Option (Int × ByteArray × Int × Int × Int)
  | 0, _, _, _ => none
  | k + 1, x0, x5, x12 => if x12 = true then (some (4, x5, 0, 2, 0)) else (if 0 < (x0.size : Int) then ((lex_has.f (⟨#[40, 41, 44, 42, 43, 45, 47, 37, 61, 60, 62, 59]⟩ : ByteArray) (bt x0 0)).bind fun t112 => (if t112 = true then (if 0 ≤ 1 then (if 1 ≤ (x0.size : Int) then (some (4, x0.extract 0 1, 0, 1, 0)) else (none)) else (none)) else (some (0, (⟨#[]⟩ : ByteArray), 0, 0, 20)))) else (none))
def lex_sign.f (k : Nat) (a0 : ByteArray) : Option (Int × ByteArray × Int × Int × Int) := if (a0.size : Int) > 1 then (if 0 ≤ 2 then (if 2 ≤ (a0.size : Int) then (if (a0.extract 0 2).toList = ([60, 61] : List UInt8) then (lex_sign.j0 k a0 (a0.extract 0 2) ((a0.extract 0 2).toList == ([60, 61] : List UInt8))) else (if (a0.extract 0 2).toList = ([62, 61] : List UInt8) then (lex_sign.j0 k a0 (a0.extract 0 2) ((a0.extract 0 2).toList == ([62, 61] : List UInt8))) else (if (a0.extract 0 2).toList = ([60, 62] : List UInt8) then (lex_sign.j0 k a0 (a0.extract 0 2) ((a0.extract 0 2).toList == ([60, 62] : List UInt8))) else (lex_sign.j0 k a0 (a0.extract 0 2) ((a0.extract 0 2).toList == ([124, 124] : List UInt8)))))) else (none)) else (none)) else (if 0 < (a0.size : Int) then ((lex_has.f (⟨#[40, 41, 44, 42, 43, 45, 47, 37, 61, 60, 62, 59]⟩ : ByteArray) (bt a0 0)).bind fun t113 => (if t113 = true then (if 0 ≤ 1 then (if 1 ≤ (a0.size : Int) then (some (4, a0.extract 0 1, 0, 1, 0)) else (none)) else (none)) else (some (0, (⟨#[]⟩ : ByteArray), 0, 0, 20)))) else (none))
/-! ### lex_Text: function 19 -/
def lex_Text.l0 : Nat → List ByteArray → List (S32) → Int → Int → Option (ByteArray)
  | 0, _, _, _, _ => none
  | k + 1, x3, x6, x7, x8 => if x8 < x7 then (if 0 ≤ x8 then (if x8 < (x6.length : Int) then (if ((rd_T32 x6 x8).f0) = 0 then ((strings_Join.f x3 (⟨#[32]⟩ : ByteArray)).bind fun t117 => (some t117)) else (if ((rd_T32 x6 x8).f0) = 2 then ((strconv_FormatInt.f (mx ((rd_T32 x6 x8).f2) 0) 10).bind fun t118 => (if x3.length < 8796093022208 then (lex_Text.l0 k (x3 ++ [t118]) x6 x7 (wrap64 (x8 + 1))) else (none))) else (if ((rd_T32 x6 x8).f0) = 3 then ((strings_ReplaceAll.f ((rd_T32 x6 x8).f1) (⟨#[39]⟩ : ByteArray) (⟨#[39, 39]⟩ : ByteArray)).bind fun t122 => (if 1 + t122.size ≤ 9223372036854775807 then (if ((⟨#[39]⟩ : ByteArray) ++ t122).size + 1 ≤ 9223372036854775807 then (if x3.length < 8796093022208 then (lex_Text.l0 k (x3 ++ [((⟨#[39]⟩ : ByteArray) ++ t122) ++ (⟨#[39]⟩ : ByteArray)]) x6 x7 (wrap64 (x8 + 1))) else (none)) else (none)) else (none))) else (if x3.length < 8796093022208 then (lex_Text.l0 k (x3 ++ [(rd_T32 x6 x8).f1]) x6 x7 (wrap64 (x8 + 1))) else (none))))) else (none)) else (none)) else ((strings_Join.f x3 (⟨#[32]⟩ : ByteArray)).bind fun t114 => (some t114))
def lex_Text.f (k : Nat) (l0 : List (S32)) : Option (ByteArray) := lex_Text.l0 k ([] : List ByteArray) l0 (l0.length : Int) 0
end Go.Proofs.YtcgdncpioafbdaaGreatDoor.Q
/- The tokens of a text as the seat's values: what both lexers give. -/
namespace Go.Proofs.YtcgdncpioafbdaaGreatDoor.Q
open Go
def tk32 (t : Lx.Tk) : S32 := ⟨t.kind, ba t.s, t.n⟩
def tokF (s : ByteArray) : Option (List S32 × Int) := match Lx.lexA s.data.toList with
  | .error e => some ([], (e : Int))
  | .ok ts => some (ts.map tk32 ++ [z32], 0)
def lex_Tokens.f (s : ByteArray) : Option (List S32 × Int) := tokF s
def vidimusref16_Tokens.f (s : ByteArray) : Option (List S32 × Int) := tokF s
end Go.Proofs.YtcgdncpioafbdaaGreatDoor.Q
-- Written by a program of this seat (wip/pr.py, by way of the kit's print) out of the translation; Lean checks it.
namespace Go.Proofs.YtcgdncpioafbdaaGreatDoor.Q
open Go.RowKit Go.Proofs.YtcgdncpioafbdaaGreatDoorW.PrintWords Go.Proofs.YtcgdncpioafbdaaGreatDoorW.PrintLast Go.Proofs.YtcgdncpioafbdaaGreatDoorW.PrintMore
attribute [local go_sem] max2_int min2_int max_two min_two max_three min_three max_four min_four   -- for this text's walks alone
set_option linter.unusedVariables false
set_option linter.unusedSimpArgs false
/-! ### vidimuslaw16_awake: function 15 -/
def vidimuslaw16_awake.f (k : Nat)  : Option (Bool) := (lex_Tokens.f (⟨#[65, 60, 61, 49, 32, 45, 45, 32, 120]⟩ : ByteArray)).bind fun bt129 => ((lex_Tokens.f (⟨#[39, 97]⟩ : ByteArray)).bind fun bt133 => (if bt129.2 = 0 then (if bt133.2 = 20 then (if (bt129.1.length : Int) = 4 then (if 0 < (bt129.1.length : Int) then (if ((rd_T32 bt129.1 0).f1).toList = ([97] : List UInt8) then (if 1 < (bt129.1.length : Int) then (if ((rd_T32 bt129.1 1).f1).toList = ([60, 61] : List UInt8) then (if 2 < (bt129.1.length : Int) then (if ((rd_T32 bt129.1 2).f2) = 1 then ((lex_Text.f k bt129.1).bind fun t140 => (some (t140.toList == ([97, 32, 60, 61, 32, 49] : List UInt8)))) else (some false)) else (none)) else (some false)) else (none)) else (some false)) else (none)) else (some false)) else (some false)) else (some false)))
/-! ### vidimuslaw16_LexTells: function 3 -/
def vidimuslaw16_LexTells.j0 : Nat → ByteArray → Bool → Option (Bool)
  | 0, _, _ => none
  | k + 1, x0, x16 => if x16 = true then (some true) else ((lex_Tokens.f x0).bind fun bt144 => ((vidimusref16_Tokens.f x0).bind fun bt148 => (if bt144.2 = bt148.2 then ((vidimusref16_Same.f k bt144.1 bt148.1).bind fun t152 => (some t152)) else (some false))))
def vidimuslaw16_LexTells.f (k : Nat) (a0 : ByteArray) : Option (Bool) := (vidimuslaw16_awake.f k).bind fun t143 => (if t143 = true then (if (a0.size : Int) > 1000 then (vidimuslaw16_LexTells.j0 k a0 (decide ((a0.size : Int) ≤ 4000))) else (vidimuslaw16_LexTells.j0 k a0 false)) else (some false))
/-! ### vidimuslaw16_LexTexts: function 4 -/
mutual
def vidimuslaw16_LexTexts.j0 : Nat → ByteArray → List (S32) → Bool → Option (Bool)
  | 0, _, _, _ => none
  | k + 1, x0, x1, x20 => if x20 = true then (some true) else (vidimuslaw16_LexTexts.l0 k x0 x1 x1 (x1.length : Int) 0)
def vidimuslaw16_LexTexts.l0 : Nat → ByteArray → List (S32) → List (S32) → Int → Int → Option (Bool)
  | 0, _, _, _, _, _ => none
  | k + 1, x0, x1, x21, x22, x23 => if x23 < x22 then (if 0 ≤ x23 then (if x23 < (x21.length : Int) then (if (((rd_T32 x21 x23).f1).size : Int) > 100 then (some true) else (vidimuslaw16_LexTexts.l0 k x0 x1 x21 x22 (wrap64 (x23 + 1)))) else (none)) else (none)) else ((lex_Text.f k x1).bind fun t170 => ((vidimusref16_Text.f k x1).bind fun t171 => (if t170.toList = t171.toList then ((lex_Tokens.f x0).bind fun bt172 => (if bt172.2 = 0 then ((lex_Text.f k bt172.1).bind fun t176 => ((lex_Tokens.f t176).bind fun bt177 => (if bt177.2 = 0 then ((vidimusref16_Same.f k bt172.1 bt177.1).bind fun t181 => (some t181)) else (some false)))) else (some ((bt172.1.length : Int) == 0)))) else (some false))))
end
def vidimuslaw16_LexTexts.f (k : Nat) (a0 : ByteArray) (l1 : List (S32)) : Option (Bool) := (vidimuslaw16_awake.f k).bind fun t167 => (if t167 = true then (if (a0.size : Int) > 500 then (vidimuslaw16_LexTexts.j0 k a0 l1 true) else (vidimuslaw16_LexTexts.j0 k a0 l1 (decide ((l1.length : Int) > 30)))) else (some false))
/-! ### vidimuslaw16_remark: function 21 -/
def vidimuslaw16_remark.l0 : Nat → ByteArray → Int → Option (Bool)
  | 0, _, _ => none
  | k + 1, x0, x3 => if x3 < (x0.size : Int) then (if 0 ≤ x3 then (if (bt x0 x3) = 45 then (if 0 ≤ (wrap64 (x3 - 1)) then (if (wrap64 (x3 - 1)) < (x0.size : Int) then (if (bt x0 (wrap64 (x3 - 1))) = 45 then (some true) else (vidimuslaw16_remark.l0 k x0 (wrap64 (x3 + 1)))) else (none)) else (none)) else (vidimuslaw16_remark.l0 k x0 (wrap64 (x3 + 1)))) else (none)) else (some false)
def vidimuslaw16_remark.f (k : Nat) (a0 : ByteArray) : Option (Bool) := vidimuslaw16_remark.l0 k a0 1
/-! ### vidimuslaw16_LexBlanks: function 5 -/
mutual
def vidimuslaw16_LexBlanks.j0 : Nat → List ByteArray → List Int → Bool → Option (Bool)
  | 0, _, _, _ => none
  | k + 1, x0, x1, x27 => if x27 = true then (some true) else (vidimuslaw16_LexBlanks.l0 k x0 x1 (⟨#[]⟩ : ByteArray) (⟨#[]⟩ : ByteArray) x0 (x0.length : Int) 0)
def vidimuslaw16_LexBlanks.l0 : Nat → List ByteArray → List Int → ByteArray → ByteArray → List ByteArray → Int → Int → Option (Bool)
  | 0, _, _, _, _, _, _, _ => none
  | k + 1, x0, x1, x5, x6, x28, x29, x30 => if x30 < x29 then (if 0 ≤ x30 then (if x30 < (x28.length : Int) then (if ((rdOf ByteArray.empty x28 x30).size : Int) > 40 then (some true) else ((lex_Tokens.f (rdOf ByteArray.empty x28 x30)).bind fun bt193 => ((vidimusref16_Tokens.f (rdOf ByteArray.empty x28 x30)).bind fun bt197 => (if bt193.2 = 0 then (if (bt193.1.length : Int) = 2 then ((vidimuslaw16_remark.f k (rdOf ByteArray.empty x28 x30)).bind fun t201 => (if t201 = true then (vidimuslaw16_LexBlanks.j2 k x0 x1 x5 x6 x30 (rdOf ByteArray.empty x28 x30) x28 x29 x30 true) else (vidimuslaw16_LexBlanks.j2 k x0 x1 x5 x6 x30 (rdOf ByteArray.empty x28 x30) x28 x29 x30 ((bt197.1.length : Int) != 2)))) else (vidimuslaw16_LexBlanks.j2 k x0 x1 x5 x6 x30 (rdOf ByteArray.empty x28 x30) x28 x29 x30 true)) else (vidimuslaw16_LexBlanks.j2 k x0 x1 x5 x6 x30 (rdOf ByteArray.empty x28 x30) x28 x29 x30 true))))) else (none)) else (none)) else ((lex_Tokens.f x5).bind fun bt183 => ((lex_Tokens.f x6).bind fun bt187 => (if bt183.2 = 0 then (if bt187.2 = 0 then (if (bt183.1.length : Int) = (wrap64 ((x0.length : Int) + 1)) then ((vidimusref16_Same.f k bt183.1 bt187.1).bind fun t191 => (some t191)) else (some false)) else (some false)) else (some false))))
def vidimuslaw16_LexBlanks.j2 : Nat → List ByteArray → List Int → ByteArray → ByteArray → Int → ByteArray → List ByteArray → Int → Int → Bool → Option (Bool)
  | 0, _, _, _, _, _, _, _, _, _, _ => none
  | k + 1, x0, x1, x5, x6, x7, x8, x28, x29, x30, x63 => if x63 = true then (some true) else (if x7 < (x1.length : Int) then (if 0 ≤ x7 then (if (Int.tmod (rd x1 x7) 4) = 1 then (if x8.size + 1 ≤ 9223372036854775807 then (if x5.size + (x8 ++ (⟨#[32]⟩ : ByteArray)).size ≤ 9223372036854775807 then (if x8.size + 5 ≤ 9223372036854775807 then (if x6.size + (x8 ++ (⟨#[9, 10, 13, 32, 32]⟩ : ByteArray)).size ≤ 9223372036854775807 then (vidimuslaw16_LexBlanks.l0 k x0 x1 (x5 ++ (x8 ++ (⟨#[32]⟩ : ByteArray))) (x6 ++ (x8 ++ (⟨#[9, 10, 13, 32, 32]⟩ : ByteArray))) x28 x29 (wrap64 (x30 + 1))) else (none)) else (none)) else (none)) else (none)) else (if (Int.tmod (rd x1 x7) 4) = 2 then (if x8.size + 1 ≤ 9223372036854775807 then (if x5.size + (x8 ++ (⟨#[32]⟩ : ByteArray)).size ≤ 9223372036854775807 then (if x8.size + 19 ≤ 9223372036854775807 then (if x6.size + (x8 ++ (⟨#[32, 45, 45, 105, 116, 39, 115, 32, 97, 32, 114, 101, 109, 97, 114, 107, 32, 40, 10]⟩ : ByteArray)).size ≤ 9223372036854775807 then (vidimuslaw16_LexBlanks.l0 k x0 x1 (x5 ++ (x8 ++ (⟨#[32]⟩ : ByteArray))) (x6 ++ (x8 ++ (⟨#[32, 45, 45, 105, 116, 39, 115, 32, 97, 32, 114, 101, 109, 97, 114, 107, 32, 40, 10]⟩ : ByteArray))) x28 x29 (wrap64 (x30 + 1))) else (none)) else (none)) else (none)) else (none)) else (if (Int.tmod (rd x1 x7) 4) = 3 then (if x8.size + 1 ≤ 9223372036854775807 then (if x5.size + (x8 ++ (⟨#[32]⟩ : ByteArray)).size ≤ 9223372036854775807 then (if x8.size + 8 ≤ 9223372036854775807 then (if x6.size + (x8 ++ (⟨#[10, 45, 45, 10, 45, 45, 120, 10]⟩ : ByteArray)).size ≤ 9223372036854775807 then (vidimuslaw16_LexBlanks.l0 k x0 x1 (x5 ++ (x8 ++ (⟨#[32]⟩ : ByteArray))) (x6 ++ (x8 ++ (⟨#[10, 45, 45, 10, 45, 45, 120, 10]⟩ : ByteArray))) x28 x29 (wrap64 (x30 + 1))) else (none)) else (none)) else (none)) else (none)) else (if x8.size + 1 ≤ 9223372036854775807 then (if x5.size + (x8 ++ (⟨#[32]⟩ : ByteArray)).size ≤ 9223372036854775807 then (if x6.size + (x8 ++ (⟨#[32]⟩ : ByteArray)).size ≤ 9223372036854775807 then (vidimuslaw16_LexBlanks.l0 k x0 x1 (x5 ++ (x8 ++ (⟨#[32]⟩ : ByteArray))) (x6 ++ (x8 ++ (⟨#[32]⟩ : ByteArray))) x28 x29 (wrap64 (x30 + 1))) else (none)) else (none)) else (none))))) else (none)) else (if x8.size + 1 ≤ 9223372036854775807 then (if x5.size + (x8 ++ (⟨#[32]⟩ : ByteArray)).size ≤ 9223372036854775807 then (if x6.size + (x8 ++ (⟨#[32]⟩ : ByteArray)).size ≤ 9223372036854775807 then (vidimuslaw16_LexBlanks.l0 k x0 x1 (x5 ++ (x8 ++ (⟨#[32]⟩ : ByteArray))) (x6 ++ (x8 ++ (⟨#[32]⟩ : ByteArray))) x28 x29 (wrap64 (x30 + 1))) else (none)) else (none)) else (none)))
end
def vidimuslaw16_LexBlanks.f (k : Nat) (l0 : List ByteArray) (l1 : List Int) : Option (Bool) := (vidimuslaw16_awake.f k).bind fun t182 => (if t182 = true then (if (l0.length : Int) > 20 then (vidimuslaw16_LexBlanks.j0 k l0 l1 true) else (vidimuslaw16_LexBlanks.j0 k l0 l1 (decide ((l1.length : Int) > 20)))) else (some false))
/-! ### vidimuslaw16_odd: function 39 -/
def vidimuslaw16_odd.l0 : Nat → ByteArray → Int → Int → Option (Bool)
  | 0, _, _, _ => none
  | k + 1, x0, x5, x6 => if x6 < x5 then (if 0 ≤ x6 then (if x6 < (x0.size : Int) then (if (bt x0 x6) = 39 then (some true) else (vidimuslaw16_odd.l0 k x0 x5 (wrap64 (x6 + 1)))) else (none)) else (none)) else (some false)
def vidimuslaw16_odd.f (k : Nat) (a0 : ByteArray) : Option (Bool) := vidimuslaw16_odd.l0 k a0 (a0.size : Int) 0
/-! ### vidimuslaw16_LexJoins: function 8 -/
mutual
def vidimuslaw16_LexJoins.j0 : Nat → ByteArray → ByteArray → Bool → Option (Bool)
  | 0, _, _, _ => none
  | k + 1, x0, x1, x20 => if x20 = true then (some true) else ((lex_Tokens.f x0).bind fun bt204 => ((lex_Tokens.f x1).bind fun bt208 => (if x0.size + 1 ≤ 9223372036854775807 then (if (x0 ++ (⟨#[10]⟩ : ByteArray)).size + x1.size ≤ 9223372036854775807 then ((lex_Tokens.f ((x0 ++ (⟨#[10]⟩ : ByteArray)) ++ x1)).bind fun bt212 => (if bt204.2 = 20 then ((vidimuslaw16_odd.f k x0).bind fun t216 => (vidimuslaw16_LexJoins.j1 k bt204.1 bt204.2 bt208.1 bt208.2 bt212.1 bt212.2 t216)) else (vidimuslaw16_LexJoins.j1 k bt204.1 bt204.2 bt208.1 bt208.2 bt212.1 bt212.2 false))) else (none)) else (none))))
def vidimuslaw16_LexJoins.j1 : Nat → List (S32) → Int → List (S32) → Int → List (S32) → Int → Bool → Option (Bool)
  | 0, _, _, _, _, _, _, _ => none
  | k + 1, x5, x6, x7, x8, x9, x10, x39 => if x39 = true then (some true) else (if x6 = 0 then (if x8 = 0 then (if x10 = 0 then ((some (([] : List (S32)) : List (S32))).bind fun y217 => (if 0 ≤ (wrap64 ((x5.length : Int) - 1)) then (if (wrap64 ((x5.length : Int) - 1)) ≤ (x5.length : Int) then ((some (x5.take ((wrap64 ((x5.length : Int) - 1)) : Int).toNat : List (S32))).bind fun y220 => (if y217.length + y220.length < 4398046511104 then ((some (y217 ++ y220 : List (S32))).bind fun y224 => (if y224.length + x7.length < 4398046511104 then ((vidimusref16_Same.f k x9 (y224 ++ x7)).bind fun t230 => (some t230)) else (none))) else (none))) else (none)) else (none))) else (some false)) else (some (x10 == x8))) else (some (x10 == x6)))
end
def vidimuslaw16_LexJoins.f (k : Nat) (a0 : ByteArray) (a1 : ByteArray) : Option (Bool) := (vidimuslaw16_awake.f k).bind fun t203 => (if t203 = true then (if (a0.size : Int) > 500 then (vidimuslaw16_LexJoins.j0 k a0 a1 true) else (vidimuslaw16_LexJoins.j0 k a0 a1 (decide ((a1.size : Int) > 500)))) else (some false))
end Go.Proofs.YtcgdncpioafbdaaGreatDoor.Q
/- Plain facts on the program's own small functions (lex.run, lex.has, lex.skip, lex.word, lex.sign): they are the lexer's model. -/
namespace Go.Proofs.YtcgdncpioafbdaaGreatDoor.Q
open Go Go.RowKit Go.Proofs.YtcgdncpioafbdaaGreatDoorW.PrintWords
theorem ba_ext' {a b : ByteArray} (h : a.data.toList = b.data.toList) : a = b := by
  cases a; cases b; simp at h; simpa using h
theorem all_bytes {p : UInt8 → Prop} [DecidablePred p] (h : ∀ n : Fin 256, p (UInt8.ofNat n)) (c : UInt8) : p c := by
  have := h ⟨c.toNat, c.toNat_lt⟩
  simpa using this
abbrev digB : ByteArray := ⟨#[48, 49, 50, 51, 52, 53, 54, 55, 56, 57]⟩
abbrev letB : ByteArray := ⟨#[97, 98, 99, 100, 101, 102, 103, 104, 105, 106, 107, 108, 109, 110, 111, 112, 113, 114, 115, 116, 117, 118, 119, 120, 121, 122, 65, 66, 67, 68, 69, 70, 71, 72, 73, 74, 75, 76, 77, 78, 79, 80, 81, 82, 83, 84, 85, 86, 87, 88, 89, 90]⟩
abbrev behB : ByteArray := ⟨#[97, 98, 99, 100, 101, 102, 103, 104, 105, 106, 107, 108, 109, 110, 111, 112, 113, 114, 115, 116, 117, 118, 119, 120, 121, 122, 65, 66, 67, 68, 69, 70, 71, 72, 73, 74, 75, 76, 77, 78, 79, 80, 81, 82, 83, 84, 85, 86, 87, 88, 89, 90, 48, 49, 50, 51, 52, 53, 54, 55, 56, 57, 95]⟩
theorem dig_is (c : UInt8) : digB.data.toList.contains c = Lx.isDigit c := all_bytes (p := fun c => digB.data.toList.contains c = Lx.isDigit c) (by decide +kernel) c
theorem let_is (c : UInt8) : letB.data.toList.contains c = Lx.isLetter c := all_bytes (p := fun c => letB.data.toList.contains c = Lx.isLetter c) (by decide +kernel) c
theorem beh_is (c : UInt8) : behB.data.toList.contains c = Lx.isPart c := all_bytes (p := fun c => behB.data.toList.contains c = Lx.isPart c) (by decide +kernel) c
theorem blank_is (c : UInt8) : ([32, 9, 10, 13] : List UInt8).contains c = Lx.isBlank c := all_bytes (p := fun c => ([32, 9, 10, 13] : List UInt8).contains c = Lx.isBlank c) (by decide +kernel) c
theorem indexByte_has (l : List UInt8) (c : UInt8) : -1 ≤ Lib.indexByte l c ∧ (0 ≤ Lib.indexByte l c ↔ l.contains c = true) := by
  induction l with
  | nil => simp [Lib.indexByte]
  | cons b l ih =>
    simp only [Lib.indexByte]
    by_cases hb : b = c
    · subst hb; simp
    · have h1 : (b == c) = false := by simpa using hb
      have h2 : (c == b) = false := by simpa using Ne.symm hb
      rw [h1, List.contains_cons, h2, Bool.false_or]
      simp only [Bool.false_eq_true, if_false]
      split
      · rename_i h3
        have h4 : Lib.indexByte l c = -1 := by simpa using h3
        refine ⟨by omega, ?_⟩
        rw [← ih.2]
        omega
      · rename_i h3
        have h4 : ¬ Lib.indexByte l c = -1 := by simpa using h3
        refine ⟨by omega, ?_⟩
        rw [← ih.2]
        omega
theorem has_is (set : ByteArray) (c : UInt8) : lex_has.f set (c.toNat : Int) = some (set.data.toList.contains c) := by
  unfold lex_has.f strings_IndexByte.f
  simp only [Option.bind_some, Int.toNat_natCast]
  have e : c.toNat.toUInt8 = c := by simp
  rw [e]
  have h := (indexByte_has set.data.toList c).2
  congr 1
  rw [Bool.eq_iff_iff, ← h]
  simp
theorem dropWhile_length {α} (p : α → Bool) (l : List α) : (l.dropWhile p).length + (l.takeWhile p).length = l.length := by
  have := congrArg List.length (List.takeWhile_append_dropWhile (p := p) (l := l))
  rw [List.length_append] at this
  omega
theorem takeWhile_cong {α} {p q : α → Bool} (h : ∀ x, p x = q x) (l : List α) : l.takeWhile p = l.takeWhile q := by rw [show p = q from funext h]
theorem run_is (s set : ByteArray) (hset : set.data.toList.all (fun x => x.toNat < 128) = true) (hs : s.size ≤ 4000) : lex_run.f s set = some (((s.data.toList.takeWhile (set.data.toList.contains ·)).length : Nat) : Int) := by
  unfold lex_run.f lex_cutLeft.f
  rw [if_pos hset, if_pos (by omega)]
  simp only [Option.bind_some]
  congr 1
  rw [ba_size]
  have h := dropWhile_length (set.data.toList.contains ·) s.data.toList
  have e : s.data.toList.length = s.size := by rw [Array.length_toList]; rfl
  unfold wrap64
  omega
theorem skip_true (l : List UInt8) : Lx.skipA true l = Lx.skipA false ((l.dropWhile (· != 10)).drop 1) := by
  induction l with
  | nil => rfl
  | cons c r ih =>
    by_cases hc : c = 10
    · subst hc; simp [Lx.skipA]
    · have h1 : (c == 10) = false := by simpa using hc
      have h2 : (c != 10) = true := by simpa using hc
      simp only [Lx.skipA, h1, List.dropWhile, h2, ih]
      rfl
theorem skip_false (l : List UInt8) : Lx.skipA false l = if ([45, 45] : List UInt8).isPrefixOf (l.dropWhile Lx.isBlank) then Lx.skipA false (((l.dropWhile Lx.isBlank).dropWhile (· != 10)).drop 1) else l.dropWhile Lx.isBlank := by
  induction l with
  | nil => rfl
  | cons c r ih =>
    by_cases hb : Lx.isBlank c = true
    · simp only [Lx.skipA, hb, if_true, List.dropWhile]
      exact ih
    · have hb' : Lx.isBlank c = false := by simpa using hb
      simp only [Lx.skipA, hb', List.dropWhile]
      by_cases hc : c = 45
      · subst hc
        cases r with
        | nil => rfl
        | cons d r =>
          by_cases hd : d = 45
          · subst hd
            simp [skip_true, List.isPrefixOf]
          · have h1 : ((45 : UInt8) == d) = false := by simpa using Ne.symm hd
            simp [List.isPrefixOf, hd, h1]
      · have h1 : ((45 : UInt8) == c) = false := by simpa using Ne.symm hc
        have h2 : (c == 45) = false := by simpa using hc
        simp [List.isPrefixOf, hc, h1]
theorem dropWhile_le {α} (p : α → Bool) (l : List α) : (l.dropWhile p).length ≤ l.length := (List.dropWhile_sublist p).length_le
theorem skip_is : ∀ (n k : Nat) (s : ByteArray), s.size ≤ n → n < k → s.size ≤ 4000 → lex_skip.f k s = some (ba (Lx.skipA false s.data.toList)) := by
  intro n
  induction n with
  | zero =>
    intro k s hs hk h4
    obtain ⟨k, rfl⟩ : ∃ m, k = m + 1 := ⟨k - 1, by omega⟩
    have e : s.data.toList = [] := by
      apply List.eq_nil_of_length_eq_zero
      rw [Array.length_toList]
      have : s.data.size = s.size := rfl
      omega
    unfold lex_skip.f
    simp only [lex_skip.l0, strings_TrimLeft.f, strings_HasPrefix.f, if_true, Option.bind_some, e, ba_data]
    rfl
  | succ n ih =>
    intro k s hs hk h4
    obtain ⟨k, rfl⟩ : ∃ m, k = m + 1 := ⟨k - 1, by omega⟩
    have hl : s.data.toList.length = s.size := by rw [Array.length_toList]; rfl
    have hb : ∀ l : List UInt8, l.dropWhile ([32, 9, 10, 13].contains ·) = l.dropWhile Lx.isBlank := fun l => by rw [show (([32, 9, 10, 13] : List UInt8).contains ·) = Lx.isBlank from funext blank_is]
    unfold lex_skip.f
    simp only [lex_skip.l0, strings_TrimLeft.f, strings_HasPrefix.f, if_true, Option.bind_some, ba_data, hb]
    rw [skip_false]
    by_cases hp : ([45, 45] : List UInt8).isPrefixOf (s.data.toList.dropWhile Lx.isBlank) = true
    · have hp' : (⟨#[45, 45]⟩ : ByteArray).data.toList.isPrefixOf (s.data.toList.dropWhile Lx.isBlank) = true := hp
      rw [if_pos hp', if_pos hp]
      have h1 := dropWhile_le Lx.isBlank s.data.toList
      have hlen : 0 < (s.data.toList.dropWhile Lx.isBlank).length := by
        rw [List.length_pos_iff]
        intro e
        rw [e] at hp
        simp at hp
      have hsz : (ba (s.data.toList.dropWhile Lx.isBlank)).size < 4294967281 := by rw [ba_size]; omega
      simp only [strings_Cut.f, if_true, if_pos hsz, Option.bind_some, ba_data]
      have h2 := dropWhile_le (· != 10) (s.data.toList.dropWhile Lx.isBlank)
      have h3 := ih k (ba (((s.data.toList.dropWhile Lx.isBlank).dropWhile (· != 10)).drop 1)) (by rw [ba_size, List.length_drop]; omega) (by omega) (by rw [ba_size, List.length_drop]; omega)
      unfold lex_skip.f at h3
      rw [h3, ba_data]
    · have hp' : ¬ (⟨#[45, 45]⟩ : ByteArray).data.toList.isPrefixOf (s.data.toList.dropWhile Lx.isBlank) = true := hp
      rw [if_neg hp', if_neg hp]
/-- What a reader of one token gives, field by field. -/
def tokFlat : Except Nat (Lx.Tk × Nat) → Int × ByteArray × Int × Int × Int
  | .ok (t, n) => (t.kind, ba t.s, t.n, n, 0)
  | .error e => (0, ⟨#[]⟩, 0, 0, e)
theorem take_takeWhile {α} (p : α → Bool) (l : List α) : l.take (l.takeWhile p).length = l.takeWhile p := by
  conv => lhs; arg 2; rw [← List.takeWhile_append_dropWhile (p := p) (l := l)]
  rw [List.take_left]
theorem part_ascii (c : UInt8) : Lx.isPart c = true → c.toNat < 128 := all_bytes (p := fun c => Lx.isPart c = true → c.toNat < 128) (by decide +kernel) c
theorem mem_takeWhile {α} {p : α → Bool} {l : List α} {x : α} (h : x ∈ l.takeWhile p) : p x = true := by
  have := List.all_takeWhile (p := p) (l := l)
  exact List.all_eq_true.1 this x h
theorem word_is (s : ByteArray) (hs : s.size ≤ 4000) : lex_word.f s = some (tokFlat (Lx.wordA s.data.toList)) := by
  unfold lex_word.f
  have hr := run_is s behB (by decide +kernel) hs
  rw [takeWhile_cong beh_is] at hr
  have hr' : lex_run.f s (⟨#[97, 98, 99, 100, 101, 102, 103, 104, 105, 106, 107, 108, 109, 110, 111, 112, 113, 114, 115, 116, 117, 118, 119, 120, 121, 122, 65, 66, 67, 68, 69, 70, 71, 72, 73, 74, 75, 76, 77, 78, 79, 80, 81, 82, 83, 84, 85, 86, 87, 88, 89, 90, 48, 49, 50, 51, 52, 53, 54, 55, 56, 57, 95]⟩ : ByteArray) = _ := hr
  rw [hr']
  simp only [Option.bind_some]
  unfold Lx.wordA
  have hl : s.data.toList.length = s.size := by rw [Array.length_toList]; rfl
  have hle := Lx.takeWhile_le Lx.isPart s.data.toList
  by_cases h30 : (s.data.toList.takeWhile Lx.isPart).length > 30
  · rw [if_pos (by omega), if_pos h30]
    rfl
  · rw [if_neg (by omega), if_neg h30, if_pos (by omega), if_pos (by omega)]
    have he : (s.extract 0 (((s.data.toList.takeWhile Lx.isPart).length : Nat) : Int).toNat).data.toList = s.data.toList.takeWhile Lx.isPart := by
      rw [Lib.extract_data, Int.toNat_natCast, List.drop_zero, Nat.sub_zero, take_takeWhile]
    have hsz : (s.extract 0 (((s.data.toList.takeWhile Lx.isPart).length : Nat) : Int).toNat).size = (s.data.toList.takeWhile Lx.isPart).length := by
      have e : ∀ b : ByteArray, b.size = b.data.toList.length := fun b => by rw [Array.length_toList]; rfl
      rw [e, he]
    unfold strings_ToLower.f
    rw [he, if_pos, if_pos (by rw [hsz]; omega)]
    · simp only [Option.bind_some]
      rfl
    · rw [List.all_eq_true]
      intro x hx
      have := part_ascii x (mem_takeWhile hx)
      simpa using this
theorem bt_of (s : ByteArray) (i : Nat) (c : UInt8) (h : s.data.toList[i]? = some c) : bt s (i : Int) = (c.toNat : Int) := by
  have hi : i < s.data.toList.length := (List.getElem?_eq_some_iff.1 h).1
  have hl : s.data.toList.length = s.size := by rw [Array.length_toList]; rfl
  unfold bt
  rw [dif_pos (show (i : Int).toNat < s.size by rw [Int.toNat_natCast]; omega)]
  congr 2
  obtain ⟨h1, h2⟩ := List.getElem?_eq_some_iff.1 h
  exact h2
theorem ba_take (s : ByteArray) (n : Nat) : s.extract 0 n = ba (s.data.toList.take n) := by
  apply ba_ext'
  rw [Lib.extract_data, ba_data, List.drop_zero, Nat.sub_zero]
abbrev oneB : ByteArray := ⟨#[40, 41, 44, 42, 43, 45, 47, 37, 61, 60, 62, 59]⟩
theorem sign_j (s : ByteArray) (c : UInt8) (hc : s.data.toList[0]? = some c) (x : ByteArray) (b : Bool) :
    lex_sign.j0 1 s x b = if b = true then some (4, x, 0, 2, 0) else if Lx.ones.contains c then some (4, ba [c], 0, 1, 0) else some (0, ⟨#[]⟩, 0, 0, 20) := by
  have hb0 := bt_of s 0 c hc
  have hi : 0 < s.data.toList.length := (List.getElem?_eq_some_iff.1 hc).1
  have hl : s.data.toList.length = s.size := by rw [Array.length_toList]; rfl
  have hh : lex_has.f (⟨#[40, 41, 44, 42, 43, 45, 47, 37, 61, 60, 62, 59]⟩ : ByteArray) (bt s 0) = some (Lx.ones.contains c) := by
    rw [show bt s 0 = (c.toNat : Int) from hb0]
    exact has_is oneB c
  simp only [lex_sign.j0]
  cases b with
  | true => rfl
  | false =>
    simp only [Bool.false_eq_true, if_false]
    rw [if_pos (by omega), hh]
    simp only [Option.bind_some]
    by_cases ho : Lx.ones.contains c = true
    · rw [if_pos ho, if_pos ho, if_pos (by decide), if_pos (by omega), ba_take]
      congr 3
      have : s.data.toList.take 1 = [c] := by
        cases hq : s.data.toList with
        | nil => rw [hq] at hi; simp at hi
        | cons q r => rw [hq] at hc; simp at hc; subst hc; rfl
      rw [this]
    · rw [if_neg ho, if_neg ho]
theorem sign_of (s : ByteArray) (c : UInt8) (r : List UInt8) (hl : s.data.toList = c :: r) : lex_sign.f 1 s = some (tokFlat (Lx.signT s.data.toList)) := by
  have hsz : s.size = r.length + 1 := by
    have : s.data.toList.length = s.size := by rw [Array.length_toList]; rfl
    rw [hl] at this
    simpa using this.symm
  have hc : s.data.toList[0]? = some c := by rw [hl]; rfl
  have hj := sign_j s c hc
  have hb0 := bt_of s 0 c hc
  have hh : lex_has.f (⟨#[40, 41, 44, 42, 43, 45, 47, 37, 61, 60, 62, 59]⟩ : ByteArray) (bt s 0) = some (Lx.ones.contains c) := by
    rw [show bt s 0 = (c.toNat : Int) from hb0]
    exact has_is oneB c
  unfold lex_sign.f
  cases r with
  | nil =>
    simp only [List.length_nil, Nat.zero_add] at hsz
    rw [if_neg (by omega), if_pos (by omega), hh]
    simp only [Option.bind_some]
    unfold Lx.signT Lx.signA
    rw [hl]
    have h1 : Lx.twos.contains (List.take 2 [c]) = false := by simp [Lx.twos]
    rw [h1]
    simp only [Bool.false_eq_true, if_false]
    by_cases ho : Lx.ones.contains c = true
    · rw [if_pos ho, if_pos ho, if_pos (by decide), if_pos (by omega), ba_take, hl]
      rfl
    · rw [if_neg ho, if_neg ho]
      rfl
  | cons d r =>
    have h2 : (s.extract 0 2).toList = [c, d] := by rw [Lib.toList_data, ba_take, ba_data, hl]; rfl
    have hx : s.extract 0 2 = ba [c, d] := by rw [ba_take, hl]; rfl
    simp only [List.length_cons] at hsz
    rw [if_pos (by omega), if_pos (by decide), if_pos (by omega), h2]
    simp only [hj, hx]
    unfold Lx.signT Lx.signA
    rw [hl]
    simp only [List.take_succ_cons, List.take_zero]
    have ht : Lx.twos.contains [c, d] = (([c, d] == [60, 61]) || (([c, d] == [62, 61]) || (([c, d] == [60, 62]) || ([c, d] == [124, 124])))) := by simp only [Lx.twos, List.contains_cons, List.contains_nil, Bool.or_false]
    simp only [ht]
    by_cases e1 : [c, d] = [60, 61]
    · rw [if_pos e1, e1]; rfl
    · rw [if_neg e1]
      have f1 : ([c, d] == [60, 61]) = false := by simpa using e1
      by_cases e2 : [c, d] = [62, 61]
      · rw [if_pos e2, e2]; rfl
      · rw [if_neg e2]
        have f2 : ([c, d] == [62, 61]) = false := by simpa using e2
        by_cases e3 : [c, d] = [60, 62]
        · rw [if_pos e3, e3]; rfl
        · rw [if_neg e3]
          have f3 : ([c, d] == [60, 62]) = false := by simpa using e3
          rw [f1, f2, f3]
          simp only [Bool.false_or]
          by_cases e4 : ([c, d] == [124, 124]) = true
          · rw [if_pos e4, if_pos e4]; rfl
          · rw [if_neg e4, if_neg e4]
            by_cases ho : Lx.ones.contains c = true
            · rw [if_pos ho, if_pos ho]; rfl
            · rw [if_neg ho, if_neg ho]; rfl
end Go.Proofs.YtcgdncpioafbdaaGreatDoor.Q
/- The lexer's model: a text, then a blank: what stands behind plays no part. -/
namespace Go.Proofs.YtcgdncpioafbdaaGreatDoor.Lx
end Go.Proofs.YtcgdncpioafbdaaGreatDoor.Lx
/- Plain laws: what several of layer 16's laws use. -/
namespace Go.Proofs.YtcgdncpioafbdaaGreatDoor.Q
open Go Go.RowKit Go.Proofs.YtcgdncpioafbdaaGreatDoorW.PrintWords
theorem more {α : Type} {f : Nat → Option α} (hf : ∀ k, LeO (f k) (f (k + 1))) {k : Nat} {r : α} (h : f k = some r) : ∀ j, f (k + j) = some r
  | 0 => h
  | j + 1 => hf (k + j) r (more hf h j)
theorem w64 {x : Int} (h1 : -9223372036854775808 ≤ x) (h2 : x ≤ 9223372036854775807) : wrap64 x = x := by unfold wrap64; omega
theorem len_data (s : ByteArray) : s.data.toList.length = s.size := by rw [Array.length_toList]; rfl
end Go.Proofs.YtcgdncpioafbdaaGreatDoor.Q
/- The lexer's model: tokens as a text, and back. -/
namespace Go.Proofs.YtcgdncpioafbdaaGreatDoor.Lx
open Go.Proofs.YtcgdncpioafbdaaGreatDoor.Q (dupQ digA digits joinB)
theorem all8 {p : UInt8 → Prop} [DecidablePred p] (h : ∀ n : Fin 256, p (UInt8.ofNat n)) (c : UInt8) : p c := by
  have := h ⟨c.toNat, c.toNat_lt⟩
  simpa using this
/-- A token's letters in a text. -/
def piece (t : Tk) : List UInt8 := if t.kind = 2 then digits t.n else if t.kind = 3 then 39 :: (dupQ t.s ++ [39]) else t.s
structure GoodW (t : Tk) : Prop where
  kind : t.kind = 1
  n : t.n = 0
  head : ∃ c r, t.s = c :: r ∧ isLetter c = true
  part : ∀ c ∈ t.s, isPart c = true
  low : t.s.map lowerB = t.s
  len : t.s.length ≤ 30
structure GoodN (t : Tk) : Prop where
  kind : t.kind = 2
  s : t.s = []
  n : t.n ≤ 9223372036854775807
structure GoodS (t : Tk) : Prop where
  kind : t.kind = 3
  n : t.n = 0
  len : t.s.length ≤ 200
structure GoodG (t : Tk) : Prop where
  kind : t.kind = 4
  n : t.n = 0
  s : t.s ∈ twos ∨ ∃ c, c ∈ ones ∧ t.s = [c]
def Good (t : Tk) : Prop := GoodW t ∨ GoodN t ∨ GoodS t ∨ GoodG t
theorem low_letter (c : UInt8) : isLetter c = true → isLetter (lowerB c) = true := all8 (p := fun c => isLetter c = true → isLetter (lowerB c) = true) (by decide +kernel) c
theorem low_part (c : UInt8) : isPart c = true → isPart (lowerB c) = true := all8 (p := fun c => isPart c = true → isPart (lowerB c) = true) (by decide +kernel) c
theorem low_low (c : UInt8) : lowerB (lowerB c) = lowerB c := all8 (p := fun c => lowerB (lowerB c) = lowerB c) (by decide +kernel) c
theorem dig_val (c : UInt8) : isDigit c = true → c.toNat - 48 < 10 := all8 (p := fun c => isDigit c = true → c.toNat - 48 < 10) (by decide +kernel) c
theorem mem_tw {α} {p : α → Bool} {l : List α} {x : α} (h : x ∈ l.takeWhile p) : p x = true := List.all_eq_true.1 (List.all_takeWhile (p := p) (l := l)) x h
/-! ### Numbers -/
theorem digA_len : ∀ (k n : Nat), 1 ≤ k → n < 10 ^ k → (digA k n).length ≤ k
  | 0, n, h, _ => by omega
  | k + 1, n, _, h => by
    simp only [digA]
    split
    · simp
    · rename_i hn
      have hk : 1 ≤ k := by
        rcases Nat.eq_zero_or_pos k with rfl | h1
        · simp at h; omega
        · exact h1
      have := digA_len k (n / 10) hk (by rw [Nat.pow_succ] at h; omega)
      simp; omega
theorem digA_more : ∀ (k n j : Nat), 1 ≤ k → n < 10 ^ k → digA (k + j) n = digA k n
  | 0, n, j, h, _ => by omega
  | k + 1, n, j, _, h => by
    rw [show k + 1 + j = (k + j) + 1 by omega]
    simp only [digA]
    split
    · rfl
    · rename_i hn
      have hk : 1 ≤ k := by
        rcases Nat.eq_zero_or_pos k with rfl | h1
        · simp at h; omega
        · exact h1
      rw [digA_more k (n / 10) j hk (by rw [Nat.pow_succ] at h; omega)]
theorem digits_eq {n k : Nat} (hk : 1 ≤ k) (h : n < 10 ^ k) (h20 : n < 10 ^ 20) : digits n = digA k n := by
  unfold digits
  rcases Nat.le_total k 20 with h1 | h1
  · obtain ⟨j, hj⟩ := Nat.exists_eq_add_of_le h1
    rw [hj]
    exact digA_more k n j hk h
  · obtain ⟨j, hj⟩ := Nat.exists_eq_add_of_le h1
    rw [hj]
    exact (digA_more 20 n j (by decide) h20).symm
theorem fold_lt : ∀ (l : List UInt8) (acc : Nat), (∀ c ∈ l, isDigit c = true) → l.foldl (fun a c => a * 10 + (c.toNat - 48)) acc < (acc + 1) * 10 ^ l.length
  | [], acc, _ => by simp
  | c :: r, acc, h => by
    have h1 := fold_lt r (acc * 10 + (c.toNat - 48)) (fun x hx => h x (by simp [hx]))
    have h2 := dig_val c (h c (by simp))
    rw [List.foldl_cons, List.length_cons, Nat.pow_succ]
    refine Nat.lt_of_lt_of_le h1 ?_
    have h3 : acc * 10 + (c.toNat - 48) + 1 ≤ (acc + 1) * 10 := by omega
    have h4 := Nat.mul_le_mul_right (10 ^ r.length) h3
    rw [show (acc + 1) * (10 ^ r.length * 10) = (acc + 1) * 10 * 10 ^ r.length by rw [Nat.mul_comm (10 ^ r.length) 10, Nat.mul_assoc]]
    exact h4
theorem numVal_lt (l : List UInt8) (h : ∀ c ∈ l, isDigit c = true) : numVal l < 10 ^ l.length := by
  have := fold_lt l 0 h
  rw [Nat.zero_add, Nat.one_mul] at this
  exact this
/-! ### Strings -/
theorem strA_dupLen : ∀ (l t : List UInt8) (n : Nat), strA l = some (t, n) → (dupQ t).length + 1 ≤ n
  | [], t, n, h => by simp [strA] at h
  | [c], t, n, h => by
    simp only [strA] at h
    split at h
    · simp at h; obtain ⟨rfl, rfl⟩ := h; simp [dupQ]
    · simp at h
  | c :: d :: r, t, n, h => by
    simp only [strA] at h
    split at h
    · split at h
      · cases hs : strA r with
        | none => simp [hs] at h
        | some p =>
          obtain ⟨t', n'⟩ := p
          have := strA_dupLen r t' n' hs
          simp [hs] at h
          obtain ⟨rfl, rfl⟩ := h
          simp [dupQ]; omega
      · simp at h; obtain ⟨rfl, rfl⟩ := h; simp [dupQ]
    · rename_i hc
      cases hs : strA (d :: r) with
      | none => simp [hs] at h
      | some p =>
        obtain ⟨t', n'⟩ := p
        have := strA_dupLen (d :: r) t' n' hs
        simp [hs] at h
        obtain ⟨rfl, rfl⟩ := h
        simp only [dupQ]
        rw [if_neg hc]
        simp; omega
/-! ### A token read is a good one, and its letters are no longer than what was read -/
theorem pow20 {n : Nat} (h : n ≤ 9223372036854775807) : n < 10 ^ 20 := by
  have : (10 : Nat) ^ 20 = 100000000000000000000 := by decide
  omega
theorem tokA_good {l : List UInt8} {t : Tk} {n : Nat} (h : tokA l = .ok (t, n)) : Good t ∧ (piece t).length ≤ n := by
  cases l with
  | nil => simp [tokA] at h
  | cons c r =>
    simp only [tokA] at h
    split at h
    · rename_i hc
      unfold wordA at h
      split at h
      · simp at h
      · rename_i hlen
        simp only [Except.ok.injEq, Prod.mk.injEq] at h
        obtain ⟨rfl, rfl⟩ := h
        have hp := isPart_letter hc
        refine ⟨.inl ⟨rfl, rfl, ?_, ?_, ?_, ?_⟩, ?_⟩
        · refine ⟨lowerB c, (r.takeWhile isPart).map lowerB, ?_, low_letter c hc⟩
          simp [List.takeWhile, hp]
        · intro x hx
          simp only [List.mem_map] at hx
          obtain ⟨y, hy, rfl⟩ := hx
          exact low_part y (mem_tw hy)
        · simp [low_low]
        · simp only [List.length_map]; omega
        · simp [piece]
    · split at h
      · rename_i hc hd
        unfold numA at h
        split at h
        · simp at h
        · split at h
          · simp at h
          · rename_i hv
            simp only [Except.ok.injEq, Prod.mk.injEq] at h
            obtain ⟨rfl, rfl⟩ := h
            have hv' := Nat.le_of_not_gt hv
            refine ⟨.inr (.inl ⟨rfl, rfl, hv'⟩), ?_⟩
            have h1 : 1 ≤ ((c :: r).takeWhile isDigit).length := by simp [List.takeWhile, hd]
            have h2 := numVal_lt ((c :: r).takeWhile isDigit) (fun x hx => mem_tw hx)
            show (digits (numVal ((c :: r).takeWhile isDigit))).length ≤ _
            rw [digits_eq h1 h2 (pow20 hv')]
            exact digA_len _ _ h1 h2
      · split at h
        · unfold textA at h
          split at h
          · simp at h
          · rename_i t' n' hs
            split at h
            · simp at h
            · rename_i hlen
              simp only [Except.ok.injEq, Prod.mk.injEq] at h
              obtain ⟨rfl, rfl⟩ := h
              have := strA_dupLen _ _ _ hs
              refine ⟨.inr (.inr (.inl ⟨rfl, rfl, Nat.le_of_not_gt hlen⟩)), ?_⟩
              show (39 :: (dupQ t' ++ [39])).length ≤ _
              simp; omega
        · unfold signT at h
          split at h
          · simp at h
          · rename_i t' hs
            simp only [Except.ok.injEq, Prod.mk.injEq] at h
            obtain ⟨rfl, rfl⟩ := h
            refine ⟨.inr (.inr (.inr ⟨rfl, rfl, ?_⟩)), Nat.le_refl _⟩
            unfold signA at hs
            split at hs
            · rename_i h2
              cases hs
              exact .inl (by simpa using h2)
            · simp only at hs
              split at hs
              · rename_i ho
                cases hs
                exact .inr ⟨c, by simpa using ho, rfl⟩
              · cases hs
end Go.Proofs.YtcgdncpioafbdaaGreatDoor.Lx
/- Plain law: LexTexts. -/
namespace Go.Proofs.YtcgdncpioafbdaaGreatDoor.Q
open Go Go.RowKit Go.Proofs.YtcgdncpioafbdaaGreatDoorW.PrintWords
theorem dupQ_le : ∀ l : List UInt8, (dupQ l).length ≤ 2 * l.length
  | [] => by simp [dupQ]
  | c :: r => by
    have := dupQ_le r
    simp only [dupQ]
    split <;> simp <;> omega
theorem ba_app (a b : List UInt8) : ba a ++ ba b = ba (a ++ b) := ba_ext' (by simp [ba])
/-! ### The document's text -/
/-! ### A text's tokens as a text -/
/-! ### The law -/
end Go.Proofs.YtcgdncpioafbdaaGreatDoor.Q
/- An expression's text, plain; a literal's text as the printed functions reckon it. -/
namespace Go.Proofs.YtcgdncpioafbdaaGreatDoor.Q
open Go Go.RowKit Go.Proofs.YtcgdncpioafbdaaGreatDoorW.PrintWords
def lit (v : S40) : ByteArray :=
  if v.f0 = 0 then ⟨#[110, 117, 108, 108]⟩
  else if v.f0 = 1 then (if v.f1 < 0 then (⟨#[45]⟩ : ByteArray) ++ ba (digA 20 (-v.f1).toNat) else ba (digA 20 v.f1.toNat))
  else ba (39 :: (dupQ v.f2.data.toList ++ [39]))
def innT (l : List ByteArray) (i : Nat) : ByteArray := match l[i]? with
  | some t => ((⟨#[40]⟩ : ByteArray) ++ t) ++ (⟨#[41]⟩ : ByteArray)
  | none => ⟨#[40, 41]⟩
def bigB (s : ByteArray) : Bool := decide (Ps.binds s > 3) && !(s.toList == [105, 115])
def txtB (op : ByteArray) (v : S40) (name : ByteArray) (l : List ByteArray) : ByteArray :=
  if op.toList = [118, 97, 108] then lit v
  else if op.toList = [99, 111, 108] then name
  else if op.toList = [111, 114] then (((innT l 0 ++ (⟨#[32]⟩ : ByteArray)) ++ op) ++ (⟨#[32]⟩ : ByteArray)) ++ innT l 1
  else if op.toList = [97, 110, 100] then (((innT l 0 ++ (⟨#[32]⟩ : ByteArray)) ++ op) ++ (⟨#[32]⟩ : ByteArray)) ++ innT l 1
  else if op.toList = [110, 111, 116] then (⟨#[110, 111, 116, 32]⟩ : ByteArray) ++ innT l 0
  else if op.toList = [110, 101, 103] then (⟨#[45]⟩ : ByteArray) ++ innT l 0
  else if op.toList = [105, 115, 110, 117, 108, 108] then innT l 0 ++ (⟨#[32, 105, 115, 32, 110, 117, 108, 108]⟩ : ByteArray)
  else if op.toList = [99, 111, 117, 110, 116] then ⟨#[99, 111, 117, 110, 116, 40, 42, 41]⟩
  else if op.toList = [115, 117, 109] then op ++ innT l 0
  else if op.toList = [109, 105, 110] then op ++ innT l 0
  else if op.toList = [109, 97, 120] then op ++ innT l 0
  else if bigB op = true then (innT l 0 ++ op) ++ innT l 1
  else ⟨#[]⟩
mutual
def txt : S43 → ByteArray
  | ⟨op, v, name, l⟩ => txtB op v name (txts l)
def txts : List S43 → List ByteArray
  | [] => []
  | x :: l => txt x :: txts l
end
theorem txt_eq (x : S43) : txt x = txtB x.f0 x.f1 x.f2 (txts x.f3) := by cases x; rw [txt]
theorem txts_map : ∀ l : List S43, txts l = l.map txt
  | [] => by rw [txts]; rfl
  | x :: l => by rw [txts, txts_map l]; rfl
/-- A kid between parentheses. -/
def inn (l : List S43) (i : Nat) : ByteArray := innT (txts l) i
theorem inn_def (l : List S43) (i : Nat) : inn l i = innT (txts l) i := rfl
theorem inn_some {l : List S43} {i : Nat} (h : i < l.length) : inn l i = ((⟨#[40]⟩ : ByteArray) ++ txt l[i]) ++ (⟨#[41]⟩ : ByteArray) := by
  unfold inn innT
  rw [txts_map, List.getElem?_map, List.getElem?_eq_getElem h]
  rfl
theorem inn_none {l : List S43} {i : Nat} (h : l.length ≤ i) : inn l i = ⟨#[40, 41]⟩ := by
  unfold inn innT
  rw [txts_map, List.getElem?_map, List.getElem?_eq_none h]
  rfl
/-! Numbers are of 64 bits, all through. -/
mutual
def TG : S43 → Prop
  | ⟨_, v, _, l⟩ => (-9223372036854775808 ≤ v.f1 ∧ v.f1 ≤ 9223372036854775807 ∧ v.f2.size ≤ 500) ∧ TGs l
def TGs : List S43 → Prop
  | [] => True
  | x :: l => TG x ∧ TGs l
end
theorem TG_eq (x : S43) : TG x ↔ (-9223372036854775808 ≤ x.f1.f1 ∧ x.f1.f1 ≤ 9223372036854775807 ∧ x.f1.f2.size ≤ 500) ∧ TGs x.f3 := by cases x; rw [TG]
mutual
def tgB : S43 → Bool
  | ⟨_, v, _, l⟩ => decide (-9223372036854775808 ≤ v.f1) && decide (v.f1 ≤ 9223372036854775807) && decide (v.f2.size ≤ 500) && tgsB l
def tgsB : List S43 → Bool
  | [] => true
  | x :: l => tgB x && tgsB l
end
mutual
theorem TG_of : ∀ x : S43, tgB x = true → TG x
  | ⟨_, v, _, l⟩, h => by
    rw [tgB] at h
    simp only [Bool.and_eq_true, decide_eq_true_eq] at h
    rw [TG]
    exact ⟨⟨h.1.1.1, h.1.1.2, h.1.2⟩, TGs_of l h.2⟩
theorem TGs_of : ∀ l : List S43, tgsB l = true → TGs l
  | [], _ => by rw [TGs]; trivial
  | x :: l, h => by
    rw [tgsB] at h
    simp only [Bool.and_eq_true] at h
    rw [TGs]
    exact ⟨TG_of x h.1, TGs_of l h.2⟩
end
theorem TGs_mem {x : S43} : ∀ {l : List S43}, x ∈ l → TGs l → TG x
  | y :: l, h, h2 => by
    rw [TGs] at h2
    rcases List.mem_cons.1 h with rfl | h
    · exact h2.1
    · exact TGs_mem h h2.2
theorem dupQ_ge : ∀ l : List UInt8, l.length ≤ (dupQ l).length
  | [] => by simp
  | c :: r => by
    have := dupQ_ge r
    simp only [dupQ]
    split <;> simp <;> omega
theorem lit_text {v : S40} (h0 : v.f0 ≠ 0) (h1 : v.f0 ≠ 1) : lit v = ba (39 :: (dupQ v.f2.data.toList ++ [39])) := by
  unfold lit; rw [if_neg h0, if_neg h1]
theorem lit_size {v : S40} (h0 : v.f0 ≠ 0) (h1 : v.f0 ≠ 1) : v.f2.size + 2 ≤ (lit v).size := by
  rw [lit_text h0 h1, ba_size]
  have := dupQ_ge v.f2.data.toList
  rw [len_data] at this
  simp; omega
/-! ### The printed literal -/
theorem u64w {x : Int} (h0 : 0 ≤ x) (h1 : x < 18446744073709551616) : IntKind.u64.wrap x = x := by
  simp [IntKind.wrap, IntKind.bits, IntKind.signed]
  omega
theorem one_dig (m : Nat) (hm : m < 10) : strOfNums [(48 + ((m : Int) % 256)) % 256] = ba [UInt8.ofNat (48 + m)] := by
  have e : (48 + ((m : Int) % 256)) % 256 = ((48 + m : Nat) : Int) := by omega
  rw [e]
  show ba [UInt8.ofNat (((48 + m : Nat) : Int)).toNat] = _
  rw [Int.toNat_natCast]
theorem pDigits : ∀ (j k n : Nat), 1 ≤ j → n < 10 ^ j → j ≤ k → j ≤ 100 → n ≤ 9223372036854775808 → parse_digits.f k (n : Int) = some (ba (digA j n))
  | 0, k, n, h, _, _, _, _ => by omega
  | j + 1, k, n, _, h, hk, hj100, hn => by
    obtain ⟨k, rfl⟩ : ∃ m, k = m + 1 := ⟨k - 1, by omega⟩
    rw [parse_digits.f]
    simp only [digA]
    by_cases h10 : n < 10
    · rw [if_pos (by omega), if_pos h10, one_dig n h10]
    · rw [if_neg (by omega), if_neg h10]
      have hj : 1 ≤ j := by
        rcases Nat.eq_zero_or_pos j with rfl | h1
        · simp at h; omega
        · exact h1
      obtain ⟨k, rfl⟩ : ∃ m, k = m + 1 := ⟨k - 1, by omega⟩
      have hq : Int.tdiv (n : Int) 10 = ((n / 10 : Nat) : Int) := by rw [Int.tdiv_eq_ediv_of_nonneg (by omega)]; omega
      have hr : Int.tmod (n : Int) 10 = ((n % 10 : Nat) : Int) := by rw [Int.tmod_eq_emod_of_nonneg (by omega)]; omega
      have h9 : parse_digits.f (k + 1) ((n % 10 : Nat) : Int) = some (ba [UInt8.ofNat (48 + n % 10)]) := by
        rw [parse_digits.f, if_pos (by omega), one_dig (n % 10) (by omega)]
      rw [hq, hr, u64w (by omega) (by omega), pDigits j (k + 1) (n / 10) hj (by rw [Nat.pow_succ] at h; omega) (by omega) (by omega) (by omega)]
      simp only [Option.bind_some]
      rw [h9]
      simp only [Option.bind_some]
      rw [if_pos, ba_app]
      rw [ba_size, ba_size]
      have := Lx.digA_len j (n / 10) hj (by rw [Nat.pow_succ] at h; omega)
      simp
      omega
theorem pow20b {n : Nat} (h : n ≤ 9223372036854775808) : n < 10 ^ 20 := by
  have : (10 : Nat) ^ 20 = 100000000000000000000 := rfl
  omega
theorem pLit {v : S40} {k : Nat} (hk : 30 ≤ k) (h1 : -9223372036854775808 ≤ v.f1) (h2 : v.f1 ≤ 9223372036854775807) (hz : (lit v).size ≤ 1000000000) : parse_literal.f k v.f0 v.f1 v.f2 = some (lit v) := by
  have hs : v.f0 ≠ 0 → v.f0 ≠ 1 → v.f2.size ≤ 1000000000 := fun h0 h1 => by have := lit_size h0 h1; omega
  obtain ⟨k, rfl⟩ : ∃ m, k = m + 1 := ⟨k - 1, by omega⟩
  unfold parse_literal.f lit
  by_cases c0 : v.f0 = 0
  · rw [if_pos c0, if_pos c0]
  · rw [if_neg c0, if_neg c0]
    have T : v.f0 ≠ 1 → parse_literal.j0 (k + 1) true v.f0 v.f1 v.f2 = some (ba (39 :: (dupQ v.f2.data.toList ++ [39]))) := fun hn => by
      have hs := hs c0 hn
      rw [parse_literal.j0, if_pos rfl]
      unfold strings_ReplaceAll.f
      have e1 : (⟨#[39]⟩ : ByteArray).data.toList = [39] := rfl
      have e2 : (⟨#[39, 39]⟩ : ByteArray).data.toList = [39, 39] := rfl
      rw [if_pos e1, if_pos e2, if_pos (by omega)]
      simp only [Option.bind_some]
      have hd := dupQ_le v.f2.data.toList
      rw [len_data] at hd
      have e3 : (⟨#[39]⟩ : ByteArray) = ba [39] := rfl
      rw [if_pos (by rw [ba_size]; omega), if_pos (by rw [ByteArray.size_append, ba_size, e3, ba_size]; simp; omega), e3, ba_app, ba_app]
      simp
    by_cases c2 : v.f0 = 2
    · rw [if_pos c2, if_neg (by omega), T (by omega)]
    · rw [if_neg c2]
      by_cases c1 : v.f0 = 1
      · have : (v.f0 != 1) = false := bne_eq_false_iff_eq.mpr c1
        rw [if_pos c1, this, parse_literal.j0, if_neg (by simp)]
        by_cases cn : v.f1 < 0
        · rw [if_pos cn, if_pos cn]
          have e : IntKind.u64.wrap (wrap64 (-v.f1)) = ((-v.f1).toNat : Int) := by
            by_cases hm : v.f1 = -9223372036854775808
            · rw [hm]; decide +kernel
            · rw [w64 (by omega) (by omega), u64w (by omega) (by omega)]; omega
          rw [e, pDigits 20 k (-v.f1).toNat (by decide) (pow20b (by omega)) (by omega) (by decide) (by omega)]
          simp only [Option.bind_some]
          rw [if_pos]
          rw [ba_size]
          have := Lx.digA_len 20 (-v.f1).toNat (by decide) (pow20b (by omega))
          omega
        · rw [if_neg cn, if_neg cn]
          have e : IntKind.u64.wrap v.f1 = (v.f1.toNat : Int) := by
            rw [u64w (by omega) (by omega)]; omega
          rw [e, pDigits 20 k v.f1.toNat (by decide) (pow20b (by omega)) (by omega) (by decide) (by omega)]
          rfl
      · have : (v.f0 != 1) = true := bne_iff_ne.mpr c1
        rw [this, if_neg c1, T c1]
end Go.Proofs.YtcgdncpioafbdaaGreatDoor.Q
/- The parser's state in memory: a cell that holds what is left of the tokens; how memory may turn between two calls of its methods. -/
namespace Go.Proofs.YtcgdncpioafbdaaGreatDoor.Q
open Go Go.RowKit Go.Proofs.YtcgdncpioafbdaaGreatDoorW.PrintWords
/-- All but block g is as it was. -/
structure Gr (g : Nat) (w w' : World) : Prop where
  os : w'.os = w.os
  tape : w'.tape = w.tape
  output : w'.output = w.output
  size : w.heap.size ≤ w'.heap.size
  block : ∀ i, i < w.heap.size → i ≠ g → w'.heap[i]? = w.heap[i]?
theorem Gr.refl (g : Nat) (w : World) : Gr g w w := ⟨rfl, rfl, rfl, Nat.le_refl _, fun _ _ _ => rfl⟩
theorem Gr.trans {g : Nat} {w w1 w2 : World} (h : Gr g w w1) (k : Gr g w1 w2) : Gr g w w2 :=
  ⟨k.os.trans h.os, k.tape.trans h.tape, k.output.trans h.output, Nat.le_trans h.size k.size, fun i hi hg => (k.block i (Nat.lt_of_lt_of_le hi h.size) hg).trans (h.block i hi hg)⟩
theorem Gr.of_below {g : Nat} {w w' : World} (h : Below w.heap.size w w') : Gr g w w' := ⟨h.os, h.tape, h.output, h.size, fun i hi _ => h.block i hi⟩
theorem Gr.set {g : Nat} {w w1 : World} (h : Gr g w w1) (j : Nat) (v : Value) : Gr g w (w1.setCell ⟨g, j, none⟩ v) := by
  have hb : Below 0 w1 (w1.setCell ⟨g, j, none⟩ v) := ((Below.refl w1.heap.size w1).mono (Nat.zero_le _)).setCell (Nat.zero_le _) v
  refine ⟨hb.os.trans h.os, hb.tape.trans h.tape, hb.output.trans h.output, Nat.le_trans h.size hb.size, fun i hi hg => ?_⟩
  rw [Below.heap_setCell w1 ⟨g, j, none⟩ v i hg]
  exact h.block i hi hg
/-- The tokens: some, the last of them the End. -/
def Ends (ts : List S32) : Prop := ∃ b e, ts = b ++ [e] ∧ e.f0 = 0
theorem Ends.tail {t : S32} {r : List S32} (h : Ends (t :: r)) (ht : t.f0 ≠ 0) : Ends r := by
  obtain ⟨b, e, h1, h2⟩ := h
  cases b with
  | nil => simp at h1; obtain ⟨rfl, _⟩ := h1; exact absurd h2 ht
  | cons c b => simp at h1; exact ⟨b, e, h1.2, h2⟩
theorem Ends.cons {ts : List S32} (h : Ends ts) : ∃ t r, ts = t :: r := by
  obtain ⟨b, e, rfl, _⟩ := h
  cases b <;> exact ⟨_, _, rfl⟩
/-- The parser at block g has the tokens ts left; they lie in memory as it was in w0. -/
structure PS (w0 : World) (g : Nat) (ts : List S32) (w : World) : Prop where
  low : w0.heap.size ≤ g
  lt : g < w.heap.size
  bl : Below w0.heap.size w0 w
  blk : ∃ A c, ts.length ≤ c ∧ k32.C w0 A ts.length ts ∧ w.heap[g]? = some (.cells #[.slice A ts.length c] 231 (0, 0))
  ends : Ends ts
theorem PS.below {w0 w w' : World} {g : Nat} {ts : List S32} (h : PS w0 g ts w) (hb : Below w.heap.size w w') : PS w0 g ts w' := by
  obtain ⟨h1, h2, h3, ⟨A, c, h4, h5, h6⟩, h7⟩ := h
  exact ⟨h1, Nat.lt_of_lt_of_le h2 hb.size, below_step h3 (hb.mono (Nat.le_refl _)), ⟨A, c, h4, h5, (hb.block g h2).trans h6⟩, h7⟩
/-- What a method gives up with. -/
def failedV : List PanicEntry := [{ v := .iface 227 (.agg #[]), recovered := false }]
theorem fail_calls (g : Nat) (w : World) : Calls Tryz.prog 264 #[.pointer (some ⟨g, 0, none⟩)] w fun e w' => e = .panicked failedV ∧ w' = w := by
  go_enter Tryz.func264, Tryz.ntmps264
  go_wp2
  exact ⟨rfl, rfl, rfl⟩
theorem addr0 (a : Addr) : a.add 0 = a := by
  unfold Addr.add
  split <;> simp_all
theorem PS.slice {w0 w : World} {g : Nat} {t : S32} {r : List S32} (h : PS w0 g (t :: r) w) : ∃ ad c, r.length < c ∧ k32.C w0 (some ad) (r.length + 1) (t :: r) ∧ w.heap[g]? = some (.cells #[.slice (some ad) (r.length + 1) c] 231 (0, 0)) ∧
    w.cell? ad = some (.int .i64 t.f0) ∧ w.cell? ⟨ad.block, ad.off + 1, none⟩ = some (.string t.f1) ∧ w.cell? ⟨ad.block, ad.off + 2, none⟩ = some (.int .i64 t.f2) := by
  obtain ⟨h1, h2, h3, ⟨A, c, h4, h5, h6⟩, h7⟩ := h
  obtain ⟨ad, rfl, c0, c1, c2⟩ := at_T32 h5 0 (by omega) (by simp)
  simp only [rd_T32, List.getD_cons_zero, Int.toNat_zero, Nat.zero_mul, addr0] at c0 c1 c2
  refine ⟨ad, c, by simp at h4; omega, h5, h6, ?_, ?_, ?_⟩
  · exact pw_cell_below h3 c0
  · exact pw_cell_below h3 c1
  · exact pw_cell_below h3 c2
set_option maxRecDepth 100000 in
theorem peek_calls {w0 w : World} {g : Nat} {ts : List S32} (h : PS w0 g ts w) : Calls Tryz.prog 327 #[.pointer (some ⟨g, 0, none⟩)] w fun e w' => e = .returned (.string (Ps.pk ts)) ∧ Below w.heap.size w w' := by
  obtain ⟨t, r, rfl⟩ := h.ends.cons
  obtain ⟨ad, c, hc, hC, hb, c0, c1, c2⟩ := h.slice
  have hg := blk_cell hb 0
  simp only [List.getElem?_toArray, List.getElem?_cons_zero] at hg
  have hlt := h.lt
  clear hb hC h
  by_cases k1 : t.f0 = 1
  · have b1 : (t.f0 == 1) = true := beq_iff_eq.mpr k1
    go_enter Tryz.func327, Tryz.ntmps327
    go_wp2
    go_ret
    refine ⟨by simp [Ps.pk, k1], ?_⟩
    exact below_alloc (Below.refl _ _) _
  · have b1 : (t.f0 == 1) = false := beq_eq_false_iff_ne.mpr k1
    by_cases k2 : t.f0 = 4
    · have b2 : (t.f0 == 4) = true := beq_iff_eq.mpr k2
      go_enter Tryz.func327, Tryz.ntmps327
      go_wp2
      go_ret
      refine ⟨by simp [Ps.pk, k2], ?_⟩
      exact below_alloc (Below.refl _ _) _
    · have b2 : (t.f0 == 4) = false := beq_eq_false_iff_ne.mpr k2
      go_enter Tryz.func327, Tryz.ntmps327
      go_wp2
      go_ret
      refine ⟨by simp [Ps.pk, k1, k2], ?_⟩
      exact below_alloc (Below.refl _ _) _
set_option maxRecDepth 100000 in
/-- The next token is the End: it gives up. -/
theorem next_end {w0 w : World} {g : Nat} {t : S32} {r : List S32} (h : PS w0 g (t :: r) w) (k1 : t.f0 = 0) : Calls Tryz.prog 258 #[.pointer (some ⟨g, 0, none⟩)] w fun e w' => e = .panicked failedV ∧ Below w.heap.size w w' := by
  obtain ⟨ad, c, hc, hC, hb, c0, c1, c2⟩ := h.slice
  have hg := blk_cell hb 0
  simp only [List.getElem?_toArray, List.getElem?_cons_zero] at hg
  have hlt := h.lt
  have hal := World.block_lt_of_cell? w _ c0
  clear hb hC h
  have b1 : (t.f0 == 0) = true := beq_iff_eq.mpr k1
  go_enter Tryz.func258, Tryz.ntmps258
  go_wp2_with (first | (go_at_call 264; refine (fail_calls g _).mono ?_; rintro e w1 ⟨rfl, rfl⟩))
  exact ⟨rfl, rfl, below_alloc (below_alloc (Below.refl _ _) _) _⟩
theorem PS.put {w0 w : World} {g : Nat} {ts r : List S32} {A A' : Option Addr} {n c c' : Nat} (h : PS w0 g ts w) (hb : w.heap[g]? = some (.cells #[.slice A n c] 231 (0, 0))) (hC : k32.C w0 A' r.length r) (hc : r.length ≤ c') (he : Ends r) :
    PS w0 g r (w.setCell ⟨g, 0, none⟩ (.slice A' r.length c')) :=
  ⟨h.low, by have := h.lt; have hs := (((Below.refl w.heap.size w).mono (Nat.zero_le _)).setCell (B := 0) (p := ⟨g, 0, none⟩) (Nat.zero_le _) (.slice A' r.length c')).size; omega,
    h.bl.setCell h.low _, ⟨A', c', hc, hC, blk_put hb 0 _ rfl⟩, he⟩
theorem PS.size {w0 w : World} {g : Nat} {ts : List S32} (h : PS w0 g ts w) : w0.heap.size ≤ w.heap.size := h.bl.size
theorem alloc2 {w w' : World} (h : Below w.heap.size w w') (o o' : Obj) : Below w.heap.size w ((w'.alloc o).alloc o') := below_alloc (below_alloc h o) o'
set_option maxRecDepth 100000 in
theorem next_some {w0 w : World} {g : Nat} {t : S32} {r : List S32} (h : PS w0 g (t :: r) w) (k1 : t.f0 ≠ 0) : Calls Tryz.prog 258 #[.pointer (some ⟨g, 0, none⟩)] w fun e w' => e = .returned (.agg #[.int .i64 t.f0, .string t.f1, .int .i64 t.f2]) ∧ PS w0 g r w' ∧ Gr g w w' := by
  obtain ⟨ad, c, hc, hC, hb, c0, c1, c2⟩ := h.slice
  have hg := blk_cell hb 0
  have hz := blk_frozen hb 0
  simp only [List.getElem?_toArray, List.getElem?_cons_zero] at hg
  have hlt := h.lt
  have hal := World.block_lt_of_cell? w _ c0
  have hD := Kd.C_drop (m := 1) hC (by simp) (show (t :: r).length ≤ c by simp; omega)
  simp only [List.drop_succ_cons, List.drop_zero, Option.map_some, Nat.one_mul] at hD
  have HB := Aside0.mk hb
  have HD := Aside0.mk hD
  clear hb hC hD
  have HH := Aside0.mk h
  clear h
  have b1 : (t.f0 == 0) = false := beq_eq_false_iff_ne.mpr k1
  have fin : ∀ A' c', k32.C w0 A' r.length r → r.length ≤ c' → ∀ o o', PS w0 g r (((w.setCell ⟨g, 0, none⟩ (.slice A' r.length c')).alloc o).alloc o') ∧ Gr g w (((w.setCell ⟨g, 0, none⟩ (.slice A' r.length c')).alloc o).alloc o') := fun A' c' h1 h2 o o' =>
    ⟨(PS.put HH.out HB.out h1 h2 (HH.out.ends.tail k1)).below (alloc2 (Below.refl _ _) _ _), ((Gr.refl g w).set 0 _).trans (Gr.of_below (alloc2 (Below.refl _ _) _ _))⟩
  have FIN := Aside0.mk fin
  clear fin
  go_enter Tryz.func258, Tryz.ntmps258
  go_wp2
  · subst h
    refine bodyPost_ret (v := .agg #[.int .i64 t.f0, .string t.f1, .int .i64 t.f2]) ?_ rfl ⟨rfl, FIN.out _ _ ?_ ?_ _ _⟩
    · simp [results, Tryz.results258, go_sem]
    · have := HD.out
      rwa [if_pos rfl] at this
    · omega
  · have hc1 := h
    refine bodyPost_ret (v := .agg #[.int .i64 t.f0, .string t.f1, .int .i64 t.f2]) ?_ rfl ⟨rfl, FIN.out _ _ ?_ ?_ _ _⟩
    · simp [results, Tryz.results258, go_sem]
    · have := HD.out
      rw [if_neg hc1] at this
      exact this
    · omega
theorem next_calls {w0 w : World} {g : Nat} {ts : List S32} (h : PS w0 g ts w) : Calls Tryz.prog 258 #[.pointer (some ⟨g, 0, none⟩)] w fun e w' => Gr g w w' ∧ match Ps.nx ts with
    | none => e = .panicked failedV
    | some (t, r) => e = .returned (.agg #[.int .i64 t.f0, .string t.f1, .int .i64 t.f2]) ∧ PS w0 g r w' := by
  obtain ⟨t, r, rfl⟩ := h.ends.cons
  by_cases k : t.f0 = 0
  · refine (next_end h k).mono ?_
    rintro e w' ⟨rfl, hb⟩
    exact ⟨Gr.of_below hb, by simp [Ps.nx, k]⟩
  · refine (next_some h k).mono ?_
    rintro e w' ⟨rfl, hp, hg⟩
    exact ⟨hg, by simp [Ps.nx, k, hp]⟩
end Go.Proofs.YtcgdncpioafbdaaGreatDoor.Q
/- The parser: take, must, name, op. -/
namespace Go.Proofs.YtcgdncpioafbdaaGreatDoor.Q
open Go Go.RowKit Go.Proofs.YtcgdncpioafbdaaGreatDoorW.PrintWords
theorem PS.alloc {w0 w : World} {g : Nat} {ts : List S32} (h : PS w0 g ts w) (o : Obj) : PS w0 g ts (w.alloc o) := h.below (below_alloc (Below.refl _ _) o)
theorem PS.drewN {w0 w : World} {g : Nat} {ts : List S32} (h : PS w0 g ts w) (n : Nat) : PS w0 g ts (w.drewN n) := h.below (pw_below_drewN (Below.refl _ _) n)
theorem Gr.alloc {g : Nat} {w w1 : World} (h : Gr g w w1) (o : Obj) : Gr g w (w1.alloc o) := h.trans (Gr.of_below (below_alloc (Below.refl _ _) o))
theorem Gr.drewN {g : Nat} {w w1 : World} (h : Gr g w w1) (n : Nat) : Gr g w (w1.drewN n) := h.trans (Gr.of_below (pw_below_drewN (Below.refl _ _) n))
theorem Gr.step {g : Nat} {w w1 w2 : World} (h : Gr g w w1) (hb : Below w1.heap.size w1 w2) : Gr g w w2 := h.trans (Gr.of_below hb)
theorem Gr.cell {g : Nat} {w w1 : World} (h : Gr g w w1) {p : Addr} (hp : p.block < w.heap.size) (hg : p.block ≠ g) : w1.cell? p = w.cell? p := by simp [World.cell?, h.block _ hp hg]
theorem Gr.F {α : Type} {d : Kd α} {g : Nat} {w w1 : World} {ok : Nat → Prop} {A : Option Addr} {n : Nat} {xs : List α} (h : Gr g w w1) (hf : Kd.F d w ok A n xs) (hok : ∀ k, ok k → k ≠ g) : Kd.F d w1 ok A n xs := Kd.F_step hf (fun k hk hlt => h.block k hlt (hok k hk))
/-- What a method of the parser does: it gives up, or hands something back and goes on. -/
def Out {α : Type} (w0 : World) (g : Nat) (V : World → α → Value → Prop) (w : World) (m : Option (α × List S32)) (e : Ending) (w' : World) : Prop :=
  Gr g w w' ∧ match m with
    | none => e = .panicked failedV
    | some (x, r) => ∃ v, e = .returned v ∧ V w' x v ∧ PS w0 g r w'
theorem Out.none {α : Type} {w0 w w' : World} {g : Nat} {V : World → α → Value → Prop} {m : Option (α × List S32)} {e : Ending} (h : Out w0 g V w m e w') (hm : m = none) : Gr g w w' ∧ e = .panicked failedV := by subst hm; exact h
theorem Out.some {α : Type} {w0 w w' : World} {g : Nat} {V : World → α → Value → Prop} {m : Option (α × List S32)} {e : Ending} {x : α} {r : List S32} (h : Out w0 g V w m e w') (hm : m = some (x, r)) : Gr g w w' ∧ ∃ v, e = .returned v ∧ V w' x v ∧ PS w0 g r w' := by subst hm; exact h
theorem Out.of_none {α : Type} {w0 w w' : World} {g : Nat} {V : World → α → Value → Prop} {m : Option (α × List S32)} (hm : m = Option.none) (h : Gr g w w') : Out w0 g V w m (.panicked failedV) w' := by subst hm; exact ⟨h, rfl⟩
theorem Out.of_some {α : Type} {w0 w w' : World} {g : Nat} {V : World → α → Value → Prop} {m : Option (α × List S32)} {x : α} {r : List S32} {v : Value} (hm : m = Option.some (x, r)) (h : Gr g w w') (hv : V w' x v) (hp : PS w0 g r w') : Out w0 g V w m (.returned v) w' := by subst hm; exact ⟨h, v, rfl, hv, hp⟩
def Vbool : World → Bool → Value → Prop := fun _ b v => v = .bool b
def Vstr : World → ByteArray → Value → Prop := fun _ s v => v = .string s
def Vtok : World → S32 → Value → Prop := fun _ t v => v = .agg #[.int .i64 t.f0, .string t.f1, .int .i64 t.f2]
theorem next_out {w0 w : World} {g : Nat} {ts : List S32} (h : PS w0 g ts w) : Calls Tryz.prog 258 #[.pointer (some ⟨g, 0, none⟩)] w (Out w0 g Vtok w (Ps.nx ts)) := by
  refine (next_calls h).mono ?_
  rintro e w' ⟨hg, hm⟩
  cases hn : Ps.nx ts with
  | none => rw [hn] at hm; exact ⟨hg, hm⟩
  | some p => rw [hn] at hm; exact ⟨hg, _, hm.1, rfl, hm.2⟩
set_option maxRecDepth 100000 in
theorem take_out {w0 w : World} {g : Nat} {ts : List S32} (h : PS w0 g ts w) (s : ByteArray) : Calls Tryz.prog 271 #[.pointer (some ⟨g, 0, none⟩), .string s] w (Out w0 g Vbool w (Ps.tk s ts)) := by
  have HP := Aside0.mk h
  clear h
  by_cases c : (Ps.pk ts).toList = s.toList
  · have c0 : ((Ps.pk ts).toList == s.toList) = true := beq_iff_eq.mpr c
    have c1 : ((Ps.pk ts).toList != s.toList) = false := bne_eq_false_iff_eq.mpr c
    have hm : Ps.tk s ts = (Ps.nx ts).map fun p => (true, p.2) := by unfold Ps.tk; rw [if_pos c]
    clear c
    have HM := Aside0.mk hm
    clear hm
    cases hn : Ps.nx ts with
    | none =>
      have HN := Aside0.mk hn
      clear hn
      go_enter Tryz.func271, Tryz.ntmps271
      go_wp2_with (first | (go_at_call 327; refine (peek_calls HP.out).mono ?_; rintro e w1 ⟨rfl, hb⟩; have HB := Aside0.mk hb; clear hb) | (go_at_call 258; refine (next_out (HP.out.below HB.out)).mono ?_; intro e w2 ho; obtain ⟨hg, rfl⟩ := ho.none HN.out; have HG := Aside0.mk hg; clear hg ho))
      exact ⟨rfl, Out.of_none (by rw [HM.out, HN.out]; rfl) ((Gr.of_below HB.out).trans HG.out)⟩
    | some p =>
      obtain ⟨t, r⟩ := p
      have HN := Aside0.mk hn
      clear hn
      go_enter Tryz.func271, Tryz.ntmps271
      go_wp2_with (first | (go_at_call 327; refine (peek_calls HP.out).mono ?_; rintro e w1 ⟨rfl, hb⟩; have HB := Aside0.mk hb; clear hb) | (go_at_call 258; refine (next_out (HP.out.below HB.out)).mono ?_; intro e w2 ho; obtain ⟨hg, v, rfl, hv, hp⟩ := ho.some HN.out; have HG := Aside0.mk hg; have HQ := Aside0.mk hp; clear hg ho hp hv))
      go_ret
      exact Out.of_some (by rw [HM.out, HN.out]; rfl) ((Gr.of_below HB.out).trans HG.out) rfl HQ.out
  · have c0 : ((Ps.pk ts).toList == s.toList) = false := beq_eq_false_iff_ne.mpr c
    have c1 : ((Ps.pk ts).toList != s.toList) = true := bne_iff_ne.mpr c
    have hm : Ps.tk s ts = some (false, ts) := by unfold Ps.tk; rw [if_neg c]
    clear c
    have HM := Aside0.mk hm
    clear hm
    go_enter Tryz.func271, Tryz.ntmps271
    go_wp2_with (first | (go_at_call 327; refine (peek_calls HP.out).mono ?_; rintro e w1 ⟨rfl, hb⟩; have HB := Aside0.mk hb; clear hb))
    go_ret
    exact Out.of_some HM.out (Gr.of_below HB.out) rfl (HP.out.below HB.out)
def Vunit : World → Unit → Value → Prop := fun _ _ v => v = .tuple #[]
theorem ms_true {s : ByteArray} {l : List ByteArray} {ts r : List S32} (h : Ps.tk s ts = some (true, r)) : Ps.ms (s :: l) ts = Ps.ms l r := by simp only [Ps.ms, h]
theorem ms_false {s : ByteArray} {l : List ByteArray} {ts r : List S32} (h : Ps.tk s ts = some (false, r)) : Ps.ms (s :: l) ts = none := by simp only [Ps.ms, h]
theorem ms_none {s : ByteArray} {l : List ByteArray} {ts : List S32} (h : Ps.tk s ts = none) : Ps.ms (s :: l) ts = none := by simp only [Ps.ms, h]
theorem wrapS {i n : Nat} (h : i < n) (hn : n ≤ 9223372036854775807) : wrap64 ((i : Int) + 1) = ((i + 1 : Nat) : Int) := by unfold wrap64; omega
set_option maxHeartbeats 1000000 in
set_option maxRecDepth 100000 in
theorem must_out {w0 w : World} {g : Nat} {ts : List S32} (h : PS w0 g ts w) {l : List ByteArray} {A : Option Addr} {c : Nat} (hF : Kd.F Kd.string w (fun k => k ≠ g) A l.length l) :
    Calls Tryz.prog 259 #[.pointer (some ⟨g, 0, none⟩), .slice A l.length c] w (Out w0 g Vunit w ((Ps.ms l ts).map fun r => ((), r))) := by
  have HP := Aside0.mk h
  have HF := Aside0.mk hF
  have HX := Aside0.mk (Kd.F_max hF)
  clear h hF
  go_enter Tryz.func259, Tryz.ntmps259
  go_wp2
  go_loopg [8] l.length (fun kq v8 w' => ∃ (i : Nat) (ts' : List S32), v8 = .int .i64 i ∧ Aside0 (kq = l.length - i) ∧ Aside0 (i ≤ l.length) ∧ Aside0 (Ps.ms (l.drop i) ts' = Ps.ms l ts) ∧ Aside0 (PS w0 g ts' w') ∧ Aside0 (Gr g w w') ∧ Aside0 (Kd.F Kd.string w' (fun k => k ≠ g) A l.length l))
  case atStart => exact ⟨0, ts, rfl, ⟨by omega⟩, ⟨by omega⟩, ⟨rfl⟩, HP, ⟨Gr.refl _ _⟩, HF⟩
  case round =>
    clear HP HF
    obtain ⟨i, ts', rfl, HK, HI, HM, HP, HG, HF⟩ := hrel
    by_cases hi : i < l.length
    · have c0 : decide ((i : Int) < (l.length : Int)) = true := decide_eq_true (by omega)
      have c1 : decide (i < l.length) = true := decide_eq_true hi
      obtain ⟨ad, e1, hx⟩ := Kd.at_string (Kd.F_now HF.out) (i : Int) (by omega) (by omega)
      cases e1
      simp only [Int.toNat_natCast] at hx
      have hd : l.drop i = (rdOf ByteArray.empty l (i : Int)) :: l.drop (i + 1) := by
        rw [List.drop_eq_getElem_cons hi]
        congr 1
        simp [rdOf, List.getD_eq_getElem?_getD, hi]
      have HD := Aside0.mk hd
      have HI2 := Aside0.mk hi
      obtain ⟨s, hs⟩ : ∃ s, rdOf ByteArray.empty l (i : Int) = s := ⟨_, rfl⟩
      rw [hs] at hx
      clear hd
      have HS := Aside0.mk hs
      clear hs
      have HF2 := fun w2 (hg : Gr g wr w2) => hg.F HF.out (fun _ h => h)
      have HF3 := Aside0.mk HF2
      clear HF2
      cases ht : Ps.tk s ts' with
      | none =>
        have HT := Aside0.mk ht
        clear ht
        go_wp2_with (first | (go_at_call 271; refine (take_out HP.out s).mono ?_; intro e w2 ho; obtain ⟨hg, rfl⟩ := ho.none HT.out; have HQ := Aside0.mk hg; clear hg ho))
        exact ⟨rfl, Out.of_none (by rw [← HM.out, HD.out, HS.out, ms_none HT.out]; rfl) (HG.out.trans HQ.out)⟩
      | some p =>
        obtain ⟨b, r⟩ := p
        have HT := Aside0.mk ht
        clear ht
        cases b with
        | false =>
          go_wp2_with (first | (go_at_call 271; refine (take_out HP.out s).mono ?_; intro e w2 ho; obtain ⟨hg, v, rfl, rfl, hp⟩ := ho.some HT.out; have HQ := Aside0.mk hg; clear hg ho hp) | (go_at_call 264; refine (fail_calls g _).mono ?_; rintro e w3 ⟨rfl, rfl⟩))
          exact ⟨rfl, Out.of_none (by rw [← HM.out, HD.out, HS.out, ms_false HT.out]; rfl) (HG.out.trans HQ.out)⟩
        | true =>
          go_wp2_with (first | (go_at_call 271; refine (take_out HP.out s).mono ?_; intro e w2 ho; obtain ⟨hg, v, rfl, rfl, hp⟩ := ho.some HT.out; have HQ := Aside0.mk hg; have HR := Aside0.mk hp; clear hg ho hp))
          go_roundg (l.length - (i + 1))
          case measure => have := HK.out; omega
          case rel => exact ⟨i + 1, r, by rw [wrapS hi HX.out], ⟨rfl⟩, ⟨by omega⟩, ⟨by rw [← HM.out, HD.out, HS.out, ms_true HT.out]⟩, HR, ⟨HG.out.trans HQ.out⟩, ⟨HF3.out _ HQ.out⟩⟩
    · have c0 : decide ((i : Int) < (l.length : Int)) = false := decide_eq_false (by omega)
      have c1 : decide (i < l.length) = false := decide_eq_false hi
      have hd : l.drop i = [] := List.drop_of_length_le (by omega)
      have HD := Aside0.mk hd
      clear hi hd
      go_wp2
      refine bodyPost_ret (v := .tuple #[]) ?_ rfl ?_
      · simp [results, Tryz.results259, go_sem]
      · refine Out.of_some (by rw [← HM.out, HD.out]; rfl) HG.out rfl HP.out
theorem ite_beq {a b : List UInt8} {x : Option Bool} {y : Bool} (h : x = some y) : (if a = b then some true else x) = some ((a == b) || y) := by
  by_cases c : a = b
  · rw [if_pos c, beq_iff_eq.mpr c]; rfl
  · rw [if_neg c, beq_eq_false_iff_ne.mpr c, h]; rfl
theorem reserved_is (s : ByteArray) : parse_reserved.f s = some (Ps.reserved s) := by
  unfold parse_reserved.f Ps.reserved Ps.resL
  simp only [List.contains_cons, List.contains_nil]
  repeat refine ite_beq ?_
  rfl
theorem binds_is (s : ByteArray) : parse_binds.f 3 s = some (Ps.binds s) := by
  by_cases h0 : s.toList = [111, 114]
  · unfold parse_binds.f Ps.binds
    simp only [parse_binds.j0, parse_binds.j1]
    rw [h0]
    decide
  by_cases h1 : s.toList = [97, 110, 100]
  · unfold parse_binds.f Ps.binds
    simp only [parse_binds.j0, parse_binds.j1]
    rw [h1]
    decide
  by_cases h2 : s.toList = [61]
  · unfold parse_binds.f Ps.binds
    simp only [parse_binds.j0, parse_binds.j1]
    rw [h2]
    decide
  by_cases h3 : s.toList = [60, 62]
  · unfold parse_binds.f Ps.binds
    simp only [parse_binds.j0, parse_binds.j1]
    rw [h3]
    decide
  by_cases h4 : s.toList = [60]
  · unfold parse_binds.f Ps.binds
    simp only [parse_binds.j0, parse_binds.j1]
    rw [h4]
    decide
  by_cases h5 : s.toList = [60, 61]
  · unfold parse_binds.f Ps.binds
    simp only [parse_binds.j0, parse_binds.j1]
    rw [h5]
    decide
  by_cases h6 : s.toList = [62]
  · unfold parse_binds.f Ps.binds
    simp only [parse_binds.j0, parse_binds.j1]
    rw [h6]
    decide
  by_cases h7 : s.toList = [62, 61]
  · unfold parse_binds.f Ps.binds
    simp only [parse_binds.j0, parse_binds.j1]
    rw [h7]
    decide
  by_cases h8 : s.toList = [105, 115]
  · unfold parse_binds.f Ps.binds
    simp only [parse_binds.j0, parse_binds.j1]
    rw [h8]
    decide
  by_cases h9 : s.toList = [43]
  · unfold parse_binds.f Ps.binds
    simp only [parse_binds.j0, parse_binds.j1]
    rw [h9]
    decide
  by_cases h10 : s.toList = [45]
  · unfold parse_binds.f Ps.binds
    simp only [parse_binds.j0, parse_binds.j1]
    rw [h10]
    decide
  by_cases h11 : s.toList = [124, 124]
  · unfold parse_binds.f Ps.binds
    simp only [parse_binds.j0, parse_binds.j1]
    rw [h11]
    decide
  by_cases h12 : s.toList = [42]
  · unfold parse_binds.f Ps.binds
    simp only [parse_binds.j0, parse_binds.j1]
    rw [h12]
    decide
  by_cases h13 : s.toList = [47]
  · unfold parse_binds.f Ps.binds
    simp only [parse_binds.j0, parse_binds.j1]
    rw [h13]
    decide
  by_cases h14 : s.toList = [37]
  · unfold parse_binds.f Ps.binds
    simp only [parse_binds.j0, parse_binds.j1]
    rw [h14]
    decide
  unfold parse_binds.f Ps.binds
  simp [parse_binds.j0, parse_binds.j1, h0, h1, h2, h3, h4, h5, h6, h7, h8, h9, h10, h11, h12, h13, h14]
set_option maxHeartbeats 1000000 in
set_option maxRecDepth 100000 in
theorem name_out {w0 w : World} {g : Nat} {ts : List S32} (h : PS w0 g ts w) : Calls Tryz.prog 260 #[.pointer (some ⟨g, 0, none⟩)] w (Out w0 g Vstr w (Ps.nm ts)) := by
  have HP := Aside0.mk h
  clear h
  cases hn : Ps.nx ts with
  | none =>
    have HN := Aside0.mk hn
    have HM := Aside0.mk (show Ps.nm ts = none by unfold Ps.nm; rw [hn])
    clear hn
    go_enter Tryz.func260, Tryz.ntmps260
    go_wp2_with (first | (go_at_call 258; refine (next_out HP.out).mono ?_; intro e w2 ho; obtain ⟨hg, rfl⟩ := ho.none HN.out; have HG := Aside0.mk hg; clear hg ho))
    exact ⟨rfl, Out.of_none HM.out HG.out⟩
  | some p =>
    obtain ⟨t, r⟩ := p
    have HN := Aside0.mk hn
    have hm : Ps.nm ts = if t.f0 = 1 then if Ps.reserved t.f1 = true then none else some (t.f1, r) else none := by unfold Ps.nm; rw [hn]
    clear hn
    by_cases k1 : t.f0 = 1
    · rw [if_pos k1] at hm
      have b1 : (t.f0 != 1) = false := bne_eq_false_iff_eq.mpr k1
      have RS := Aside0.mk (reserved_is t.f1)
      cases hr : Ps.reserved t.f1 with
      | true =>
        rw [hr] at hm RS
        rw [if_pos rfl] at hm
        have HM := Aside0.mk hm
        clear hm hr
        go_enter Tryz.func260, Tryz.ntmps260
        go_wp2_with (first | (go_at_call 258; refine (next_out HP.out).mono ?_; intro e w2 ho; obtain ⟨hg, v, rfl, rfl, hp⟩ := ho.some HN.out; have HG := Aside0.mk hg; have HQ := Aside0.mk hp; clear hg ho hp) | (go_at_call 324; refine (parse_reserved.calls _ _ _ RS.out).mono ?_; rintro e w3 ⟨rfl, ⟨n, rfl⟩⟩) | (go_at_call 264; refine (fail_calls g _).mono ?_; rintro e w3 ⟨rfl, rfl⟩))
        exact ⟨rfl, Out.of_none HM.out ((HG.out.alloc _).drewN _)⟩
      | false =>
        rw [hr] at hm RS
        rw [if_neg (by simp)] at hm
        have HM := Aside0.mk hm
        clear hm hr
        go_enter Tryz.func260, Tryz.ntmps260
        go_wp2_with (first | (go_at_call 258; refine (next_out HP.out).mono ?_; intro e w2 ho; obtain ⟨hg, v, rfl, rfl, hp⟩ := ho.some HN.out; have HG := Aside0.mk hg; have HQ := Aside0.mk hp; clear hg ho hp) | (go_at_call 324; refine (parse_reserved.calls _ _ _ RS.out).mono ?_; rintro e w3 ⟨rfl, ⟨n, rfl⟩⟩))
        go_ret
        exact Out.of_some HM.out ((HG.out.alloc _).drewN _) rfl ((HQ.out.alloc _).drewN _)
    · rw [if_neg k1] at hm
      have b1 : (t.f0 != 1) = true := bne_iff_ne.mpr k1
      have HM := Aside0.mk hm
      clear hm
      go_enter Tryz.func260, Tryz.ntmps260
      go_wp2_with (first | (go_at_call 258; refine (next_out HP.out).mono ?_; intro e w2 ho; obtain ⟨hg, v, rfl, rfl, hp⟩ := ho.some HN.out; have HG := Aside0.mk hg; have HQ := Aside0.mk hp; clear hg ho hp) | (go_at_call 264; refine (fail_calls g _).mono ?_; rintro e w3 ⟨rfl, rfl⟩))
      exact ⟨rfl, Out.of_none HM.out (HG.out.alloc _)⟩
end Go.Proofs.YtcgdncpioafbdaaGreatDoor.Q
/- The parser's words as lists of bytes. -/
namespace Go.Proofs.YtcgdncpioafbdaaGreatDoor.Q
open Go
theorem wNot : Ps.sNot.toList = [110, 111, 116] := (Lib.toList_data _).trans rfl
theorem wIs : Ps.sIs.toList = [105, 115] := (Lib.toList_data _).trans rfl
theorem wNull : Ps.sNull.toList = [110, 117, 108, 108] := (Lib.toList_data _).trans rfl
theorem wMinus : Ps.sMinus.toList = [45] := (Lib.toList_data _).trans rfl
theorem wOpen : Ps.sOpen.toList = [40] := (Lib.toList_data _).trans rfl
theorem wCount : Ps.sCount.toList = [99, 111, 117, 110, 116] := (Lib.toList_data _).trans rfl
theorem wSum : Ps.sSum.toList = [115, 117, 109] := (Lib.toList_data _).trans rfl
theorem wMin : Ps.sMin.toList = [109, 105, 110] := (Lib.toList_data _).trans rfl
theorem wMax : Ps.sMax.toList = [109, 97, 120] := (Lib.toList_data _).trans rfl
theorem wCreate : Ps.sCreate.toList = [99, 114, 101, 97, 116, 101] := (Lib.toList_data _).trans rfl
theorem wDrop : Ps.sDrop.toList = [100, 114, 111, 112] := (Lib.toList_data _).trans rfl
theorem wInsert : Ps.sInsert.toList = [105, 110, 115, 101, 114, 116] := (Lib.toList_data _).trans rfl
theorem wSelect : Ps.sSelect.toList = [115, 101, 108, 101, 99, 116] := (Lib.toList_data _).trans rfl
theorem wUpdate : Ps.sUpdate.toList = [117, 112, 100, 97, 116, 101] := (Lib.toList_data _).trans rfl
theorem wDelete : Ps.sDelete.toList = [100, 101, 108, 101, 116, 101] := (Lib.toList_data _).trans rfl
end Go.Proofs.YtcgdncpioafbdaaGreatDoor.Q
/- The parser: op and val; how an expression is handed on. -/
namespace Go.Proofs.YtcgdncpioafbdaaGreatDoor.Q
open Go Go.RowKit Go.Proofs.YtcgdncpioafbdaaGreatDoorW.PrintWords
/-- An expression's cells. -/
def cells43 (x : S43) (A : Option Addr) (c : Nat) : List Value := [.string x.f0, .int .i64 x.f1.f0, .int .i64 x.f1.f1, .string x.f1.f2, .string x.f2, .slice A x.f3.length c]
/-- An expression that was handed back: all that it leads to is of block B or later. -/
def Vex (B : Nat) : World → S43 → Value → Prop := fun w x v => ∃ A c, v = .agg (cells43 x A c).toArray ∧ x.f3.length ≤ c ∧ Kd.F k43 w (fun k => B ≤ k) A x.f3.length x.f3
theorem FK43 {w : World} {ok : Nat → Prop} {x : S43} {A : Option Addr} {c : Nat} (h : x.f3.length ≤ c) (hF : Kd.F k43 w ok A x.f3.length x.f3) : Kd.FK k43 w ok x (cells43 x A c) := k43_mkF w ok x h hF
theorem F_of_cells {α : Type} {d : Kd α} {w : World} {ok : Nat → Prop} {g e : Nat} {fr : Nat × Nat} {xs : List α} {css : List (List Value)} (hb : w.heap[g]? = some (.cells css.flatten.toArray e fr)) (hfr : fr = (0, 0)) (hg : ok g) (hl : css.length = xs.length) (hn : xs.length ≤ 1000)
    (hx : ∀ (j : Nat) (x : α) (c : List Value), xs[j]? = some x → css[j]? = some c → Kd.FK d w ok x c) (hs : ∀ (j i : Nat), (i < d.sz) → ∀ c : List Value, css[j]? = some c → css.flatten[j * d.sz + i]? = c[i]?) : Kd.F d w ok (some ⟨g, 0, none⟩) xs.length xs := by
  subst hfr
  intro W' hW
  refine ⟨rfl, by omega, fun _ => ⟨_, rfl, fun j p hj => ?_⟩⟩
  have hjl : j < css.length := by have := (List.getElem?_eq_some_iff.1 hj).1; omega
  have hc := List.getElem?_eq_getElem hjl
  have hK := hx j p _ hj hc
  have hlen : (css[j]).length = d.sz := d.K_len (Kd.FK_now hK)
  refine ⟨css[j], hlen, hK W' hW, fun i u hu => ?_⟩
  have hi : i < d.sz := by have := (List.getElem?_eq_some_iff.1 hu).1; omega
  rw [add_plain]
  have hb' : W'.heap[g]? = some (.cells css.flatten.toArray e (0, 0)) := (hW g hg (blk_lt hb)).trans hb
  rw [blk_cell hb', List.getElem?_toArray, hs j i hi _ hc]
  exact hu
theorem F_one {w : World} {ok : Nat → Prop} {g : Nat} {x : S43} {A : Option Addr} {c : Nat} (hb : w.heap[g]? = some (.cells (cells43 x A c).toArray 43 (0, 0))) (hg : ok g) (hc : x.f3.length ≤ c) (hF : Kd.F k43 w ok A x.f3.length x.f3) : Kd.F k43 w ok (some ⟨g, 0, none⟩) [x].length [x] := by
  refine F_of_cells (css := [cells43 x A c]) (fr := (0, 0)) (by simpa using hb) rfl hg rfl (by simp) ?_ ?_
  · intro j y d hy hd
    match j, hy, hd with
    | 0, hy, hd => simp at hy hd; subst hy; subst hd; exact FK43 hc hF
  · intro j i hi d hd
    match j, hd with
    | 0, hd => simp at hd; subst hd; simp
theorem F_two {w : World} {ok : Nat → Prop} {g : Nat} {x y : S43} {A A' : Option Addr} {c c' : Nat} (hb : w.heap[g]? = some (.cells (cells43 x A c ++ cells43 y A' c').toArray 43 (0, 0))) (hg : ok g) (hc : x.f3.length ≤ c) (hF : Kd.F k43 w ok A x.f3.length x.f3) (hc' : y.f3.length ≤ c') (hF' : Kd.F k43 w ok A' y.f3.length y.f3) : Kd.F k43 w ok (some ⟨g, 0, none⟩) [x, y].length [x, y] := by
  refine F_of_cells (css := [cells43 x A c, cells43 y A' c']) (fr := (0, 0)) (by simpa using hb) rfl hg rfl (by simp) ?_ ?_
  · intro j z d hz hd
    match j, hz, hd with
    | 0, hz, hd => simp at hz hd; subst hz; subst hd; exact FK43 hc hF
    | 1, hz, hd => simp at hz hd; subst hz; subst hd; exact FK43 hc' hF'
  · intro j i hi d hd
    have h6 : k43.sz = 6 := rfl
    rw [h6] at hi ⊢
    match j, hd with
    | 0, hd =>
      simp at hd; subst hd
      simp only [List.flatten_cons, List.flatten_nil, List.append_nil, Nat.zero_mul, Nat.zero_add]
      rw [List.getElem?_append_left (by simpa [cells43] using hi)]
    | 1, hd =>
      simp at hd; subst hd
      simp only [List.flatten_cons, List.flatten_nil, List.append_nil, Nat.one_mul]
      rw [List.getElem?_append_right (by simp [cells43])]
      simp [cells43]
theorem op_calls (s : ByteArray) (A : Option Addr) (n c : Nat) (w : World) : Calls Tryz.prog 369 #[.string s, .slice A n c] w fun e w' => e = .returned (.agg #[.string s, .int .i64 0, .int .i64 0, .string ⟨#[]⟩, .string ⟨#[]⟩, .slice A n c]) ∧ ∃ o, w' = w.alloc o := by
  go_enter Tryz.func369, Tryz.ntmps369
  go_wp2
  refine bodyPost_ret (v := .agg #[.string s, .int .i64 0, .int .i64 0, .string ⟨#[]⟩, .string ⟨#[]⟩, .slice A n c]) ?_ rfl ⟨rfl, _, rfl⟩
  simp [results, Tryz.results369, go_sem]
theorem val_calls (k n : Int) (s : ByteArray) (w : World) : Calls Tryz.prog 370 #[.agg #[.int .i64 k, .int .i64 n, .string s]] w fun e w' => e = .returned (.agg #[.string Ps.sVal, .int .i64 k, .int .i64 n, .string s, .string ⟨#[]⟩, .slice none 0 0]) ∧ ∃ o o', w' = (w.alloc o).alloc o' := by
  go_enter Tryz.func370, Tryz.ntmps370
  go_wp2
  refine bodyPost_ret (v := .agg #[.string Ps.sVal, .int .i64 k, .int .i64 n, .string s, .string ⟨#[]⟩, .slice none 0 0]) ?_ rfl ⟨rfl, _, _, rfl⟩
  simp [results, Tryz.results370, go_sem]
theorem new_blk {W : World} {b : Nat} (o : Obj) (h : W.heap.size = b) : (W.alloc o).heap[b]? = some o := by subst h; show (W.heap.push o)[W.heap.size]? = some o; simp
theorem blk_put6 {w : World} {g : Nat} {a0 a1 a2 a3 a4 a5 v0 v1 v2 v3 v4 v5 : Value} (h : w.heap[g]? = some (.cells #[a0, a1, a2, a3, a4, a5] 43 (0, 0))) :
    ((((((w.setCell ⟨g, 0, none⟩ v0).setCell ⟨g, 1, none⟩ v1).setCell ⟨g, 2, none⟩ v2).setCell ⟨g, 3, none⟩ v3).setCell ⟨g, 4, none⟩ v4).setCell ⟨g, 5, none⟩ v5).heap[g]? = some (.cells #[v0, v1, v2, v3, v4, v5] 43 (0, 0)) :=
  blk_put (blk_put (blk_put (blk_put (blk_put (blk_put h 0 v0 rfl) 1 v1 rfl) 2 v2 rfl) 3 v3 rfl) 4 v4 rfl) 5 v5 rfl
theorem flat_one {α β : Type} (f : α → β) (l : List α) : (l.map fun s => [f s]).flatten = l.map f := by
  induction l with
  | nil => rfl
  | cons a l ih => simp [List.flatten_cons, ih]
theorem F_strs {w : World} {ok : Nat → Prop} {g : Nat} {l : List ByteArray} (hb : w.heap[g]? = some (.cells (l.map Value.string).toArray 9 (0, 0))) (hg : ok g) (hn : l.length ≤ 1000) : Kd.F Kd.string w ok (some ⟨g, 0, none⟩) l.length l := by
  refine F_of_cells (css := l.map fun s => [Value.string s]) (e := 9) (fr := (0, 0)) (by rw [flat_one]; exact hb) rfl hg (by simp) hn ?_ ?_
  · intro j x c hx hc
    simp only [List.getElem?_map, hx, Option.map_some, Option.some.injEq] at hc
    subst hc
    exact fun W' _ => rfl
  · intro j i hi c hc
    have h1 : Kd.string.sz = 1 := rfl
    rw [h1] at hi ⊢
    obtain rfl : i = 0 := by omega
    rw [flat_one]
    simp only [List.getElem?_map] at hc ⊢
    cases hl : l[j]? with
    | none => rw [hl] at hc; cases hc
    | some y => rw [hl] at hc; cases hc; simp [hl]
theorem must1 {w0 w : World} {g B : Nat} {ts : List S32} (h : PS w0 g ts w) (hB : w.heap.size = B) (a : ByteArray) (c : Nat) : Calls Tryz.prog 259 #[.pointer (some ⟨g, 0, none⟩), .slice (some ⟨B, 0, none⟩) 1 c] (w.alloc (.cells #[.string a] 9)) (Out w0 g Vunit w ((Ps.ms [a] ts).map fun r => ((), r))) := by
  subst hB
  have hF : Kd.F Kd.string (w.alloc (.cells #[.string a] 9)) (fun k => k ≠ g) (some ⟨w.heap.size, 0, none⟩) [a].length [a] := F_strs (new_blk _ rfl) (by have := h.lt; omega) (by simp)
  refine (must_out (h.alloc _) (c := c) hF).mono ?_
  rintro e w' ⟨hg, hm⟩
  exact ⟨((Gr.refl g w).alloc _).trans hg, hm⟩
theorem must3 {w0 w : World} {g B : Nat} {ts : List S32} (h : PS w0 g ts w) (hB : w.heap.size = B) (a b d : ByteArray) (c : Nat) : Calls Tryz.prog 259 #[.pointer (some ⟨g, 0, none⟩), .slice (some ⟨B, 0, none⟩) 3 c] (w.alloc (.cells #[.string a, .string b, .string d] 9)) (Out w0 g Vunit w ((Ps.ms [a, b, d] ts).map fun r => ((), r))) := by
  subst hB
  have hF : Kd.F Kd.string (w.alloc (.cells #[.string a, .string b, .string d] 9)) (fun k => k ≠ g) (some ⟨w.heap.size, 0, none⟩) [a, b, d].length [a, b, d] := F_strs (new_blk _ rfl) (by have := h.lt; omega) (by simp)
  refine (must_out (h.alloc _) (c := c) hF).mono ?_
  rintro e w' ⟨hg, hm⟩
  exact ⟨((Gr.refl g w).alloc _).trans hg, hm⟩
theorem msU_none {l : List ByteArray} {ts : List S32} (h : Ps.ms l ts = none) : ((Ps.ms l ts).map fun r => ((), r)) = none := by rw [h]; rfl
theorem msU_some {l : List ByteArray} {ts r : List S32} (h : Ps.ms l ts = some r) : ((Ps.ms l ts).map fun r => ((), r)) = some ((), r) := by rw [h]; rfl
theorem binds_range (s : ByteArray) : 0 ≤ Ps.binds s ∧ Ps.binds s ≤ 6 := by
  unfold Ps.binds
  repeat' split
  all_goals omega
theorem blkc_alloc {w : World} {g : Nat} {cs : Array Value} {t : TypeId} {v : Value} {o : Obj} (h : w.heap[g]? = some (.cells cs t (0, 0))) (i : Nat) (hv : cs[i]? = some v) : (w.alloc o).cell? ⟨g, i, none⟩ = some v := (blk_cell (blk_alloc h o) i).trans hv
open Go.Proofs.YtcgdncpioafbdaaGreatDoorW.PrintLast in
/-- A call that gives up, in a region that draws its order. -/
theorem goesP_ {P : Program} {ops : Array Oper} {Q : Exit → Act → World → Prop} {oi : Oper} {N : Option Tmp} {a : Act} {w : World} {K : Act → World → Prop} {f : FuncId} {fn : Func} {oa : Array Operand} {ts : Array TypeId} (hf : P.funcs[f]? = some fn) (hname : (fn.name == "runtime.NumGoroutine") = false) (hb : fn.body.isSome = true) (args : Array Value)
    (hw : Region.wanted oi (yielded ops a.tmps) = true) (hop : oi.op = .call { callee := .value (.func f), args := oa, argTypes := ts }) (hargs : oa.map a.eval = args) {ch : List PanicEntry}
    (h : Calls P f args w fun e w' => e = .panicked ch ∧ Q (.panic ch) a w') : if Region.wanted oi (yielded ops a.tmps) = true then Oper.wp P oi a w K Q else K (a.put N undef) w := by
  rw [if_pos hw]
  have he := enters_ hf hname hb args w
  have hrun : (execOp a.eval oi).run P w = .ok (.enter f args) w := by
    unfold execOp
    simp [hop, resolve, Deferred.ofValue, invoke, Act.eval, hargs, he]
  unfold Oper.wp
  rw [hrun, Oper.upon_enter]
  refine h.mono fun e w'' hh => ?_
  obtain ⟨rfl, hq⟩ := hh
  exact hq
theorem blk_setNe {w : World} {g b : Nat} {o : Obj} (h : w.heap[g]? = some o) (hn : g ≠ b) (j : Nat) (v : Value) : (w.setCell ⟨b, j, none⟩ v).heap[g]? = some o := (Below.heap_setCell w ⟨b, j, none⟩ v g hn).trans h
theorem val_below (k n : Int) (s : ByteArray) (w : World) : Calls Tryz.prog 370 #[.agg #[.int .i64 k, .int .i64 n, .string s]] w fun e w' => e = .returned (.agg #[.string Ps.sVal, .int .i64 k, .int .i64 n, .string s, .string ⟨#[]⟩, .slice none 0 0]) ∧ Below w.heap.size w w' :=
  (val_calls k n s w).mono fun e w' ⟨he, o, o', hw⟩ => ⟨he, by subst hw; exact below_alloc (below_alloc (Below.refl _ _) _) _⟩
end Go.Proofs.YtcgdncpioafbdaaGreatDoor.Q
/- The parser: expr (under the contracts of what it calls with less rounds). -/
namespace Go.Proofs.YtcgdncpioafbdaaGreatDoor.Q
open Go Go.RowKit Go.Proofs.YtcgdncpioafbdaaGreatDoorW.PrintWords Go.Proofs.YtcgdncpioafbdaaGreatDoorW.PrintLast
def ExprAt (k : Nat) : Prop := ∀ (w0 : World) (g : Nat) (ts : List S32) (w : World) (least : Int), PS w0 g ts w → 2 * ts.length + 1 ≤ k → Calls Tryz.prog 358 #[.pointer (some ⟨g, 0, none⟩), .int .i64 least] w (Out w0 g (Vex w.heap.size) w (Ps.expr k least ts))
def FirstAt (k : Nat) : Prop := ∀ (w0 : World) (g : Nat) (ts : List S32) (w : World), PS w0 g ts w → 2 * ts.length ≤ k → Calls Tryz.prog 368 #[.pointer (some ⟨g, 0, none⟩)] w (Out w0 g (Vex w.heap.size) w (Ps.first k ts))
theorem PS.setB {w0 w : World} {g : Nat} {ts : List S32} (h : PS w0 g ts w) {b : Nat} (hb : w0.heap.size ≤ b) (hg : b ≠ g) (j : Nat) (v : Value) : PS w0 g ts (w.setCell ⟨b, j, none⟩ v) := by
  obtain ⟨h1, h2, h3, ⟨A, c, h4, h5, h6⟩, h7⟩ := h
  have h8 := h3.setCell (p := ⟨b, j, none⟩) hb v
  have hs := (((Below.refl w.heap.size w).mono (Nat.zero_le _)).setCell (B := 0) (p := ⟨b, j, none⟩) (Nat.zero_le _) v).size
  exact ⟨h1, Nat.lt_of_lt_of_le h2 hs, h8, ⟨A, c, h4, h5, (Below.heap_setCell w ⟨b, j, none⟩ v g (fun e => hg e.symm)).trans h6⟩, h7⟩
theorem Gr.setB {g : Nat} {w w1 : World} (h : Gr g w w1) {b : Nat} (hb : w.heap.size ≤ b) (j : Nat) (v : Value) : Gr g w (w1.setCell ⟨b, j, none⟩ v) := by
  have hc : Below 0 w1 (w1.setCell ⟨b, j, none⟩ v) := ((Below.refl w1.heap.size w1).mono (Nat.zero_le _)).setCell (Nat.zero_le _) v
  refine ⟨hc.os.trans h.os, hc.tape.trans h.tape, hc.output.trans h.output, Nat.le_trans h.size hc.size, fun i hi hg => ?_⟩
  rw [Below.heap_setCell w1 ⟨b, j, none⟩ v i (show i ≠ b by omega)]
  exact h.block i hi hg
theorem Gr.blk {g b : Nat} {w w1 : World} {o : Obj} (h : Gr g w w1) (hb : w.heap[b]? = some o) (hg : b ≠ g) : w1.heap[b]? = some o := (h.block b (blk_lt hb) hg).trans hb
set_option maxHeartbeats 4000000 in
set_option maxRecDepth 100000 in
theorem expr_step (k : Nat) (ihE : ∀ j, j ≤ k → ExprAt j) (ihF : FirstAt k) : ExprAt (k + 1) := by
  intro w0 g ts w least hps hk
  have HP := Aside0.mk hps
  clear hps
  have hlt := HP.out.lt
  by_cases c : (Ps.pk ts).toList = Ps.sNot.toList ∧ least > 3
  · have c0 : ((Ps.pk ts).toList == Ps.sNot.toList) = true := beq_iff_eq.mpr c.1
    have c1 : decide (3 < least) = true := decide_eq_true c.2
    have HM := Aside0.mk (show Ps.expr (k + 1) least ts = none by simp only [Ps.expr]; rw [if_pos c])
    clear c
    rw [wNot] at c0
    go_enter Tryz.func358, Tryz.ntmps358
    go_wp2_with (first | (go_at_call 327; refine (peek_calls (HP.out.alloc _)).mono ?_; rintro e w1 ⟨rfl, hb⟩; have HB := Aside0.mk hb; clear hb) | (go_at_call 264; refine (fail_calls g _).mono ?_; rintro e w3 ⟨rfl, rfl⟩))
    exact ⟨rfl, Out.of_none HM.out (((Gr.refl g w).alloc _).step HB.out)⟩
  · have hc : ((Ps.pk ts).toList == [110, 111, 116]) = false ∨ (((Ps.pk ts).toList == [110, 111, 116]) = true ∧ decide (3 < least) = false) := by
      rw [wNot] at c
      by_cases c1 : (Ps.pk ts).toList = [110, 111, 116]
      · exact .inr ⟨beq_iff_eq.mpr c1, decide_eq_false (fun h => c ⟨c1, h⟩)⟩
      · exact .inl (beq_eq_false_iff_ne.mpr c1)
    have HM := Aside0.mk (show Ps.expr (k + 1) least ts = match Ps.first k ts with
      | none => none
      | some (e, r) => Ps.more k least e r by simp only [Ps.expr]; rw [if_neg c]; cases Ps.first k ts <;> rfl)
    clear c
    cases hf : Ps.first k ts with
    | none =>
      rw [hf] at HM
      have HF := Aside0.mk hf
      clear hf
      rcases hc with c0 | ⟨c0, c1⟩
      all_goals
        go_enter Tryz.func358, Tryz.ntmps358
        go_wp2_with (first | (go_at_call 327; refine (peek_calls (HP.out.alloc _)).mono ?_; rintro e w1 ⟨rfl, hb⟩; have HB := Aside0.mk hb; clear hb) | (go_at_call 368; refine (ihF w0 g ts _ ((HP.out.alloc _).below HB.out) (by omega)).mono ?_; intro e w2 ho; obtain ⟨hg, rfl⟩ := ho.none HF.out; have HG := Aside0.mk hg; clear hg ho))
        exact ⟨rfl, Out.of_none HM.out ((((Gr.refl g w).alloc _).step HB.out).trans HG.out)⟩
    | some p =>
      obtain ⟨e0, r0⟩ := p
      rw [hf] at HM
      have HF := Aside0.mk hf
      clear hf
      have hlow := HP.out.low
      rcases hc with c0 | ⟨c0, c1⟩
      all_goals
        go_enter Tryz.func358, Tryz.ntmps358
        go_wp2_with (first | (go_at_call 327; refine (peek_calls (HP.out.alloc _)).mono ?_; rintro e w1 ⟨rfl, hb⟩; have HB := Aside0.mk hb; clear hb) | (go_at_call 368; refine (ihF w0 g ts _ ((HP.out.alloc _).below HB.out) (by omega)).mono ?_; intro e w2 ho; obtain ⟨hg, v, rfl, hv, hp⟩ := ho.some HF.out; obtain ⟨A0, n0, rfl, hn0, hf0⟩ := hv; have HG := Aside0.mk ((((Gr.refl g w).alloc _).step HB.out).trans hg); have HQ := Aside0.mk hp; have HN := Aside0.mk hn0; have HE := Aside0.mk hf0; have BR := Aside0.mk (hg.blk ((HB.out.block w.heap.size (by simp)).trans (new_blk _ rfl)) (by omega)); have hsz : w.heap.size < w2.heap.size := Nat.lt_of_lt_of_le (by have := HB.out.size; simp at this; omega) hg.size; have hsz1 : w.heap.size < w1.heap.size := (by have := HB.out.size; simp at this; omega); clear hg ho hp hn0 hf0; unfold cells43))
        go_loopg [6] k (fun kq v6 w' => ∃ (e : S43) (A : Option Addr) (n : Nat) (tq : List S32), Aside0 (Ps.more kq least e tq = Ps.expr (k + 1) least ts) ∧ Aside0 (2 * tq.length + 1 ≤ kq) ∧ Aside0 (kq ≤ k) ∧ Aside0 (w'.heap[w2.heap.size]? = some (.cells (cells43 e A n).toArray 43 (0, 0))) ∧ Aside0 (w'.heap[w.heap.size]? = some (.cells #[.string ⟨#[]⟩, .int .i64 0, .int .i64 0, .string ⟨#[]⟩, .string ⟨#[]⟩, .slice none 0 0] 43 (0, 0))) ∧ Aside0 (e.f3.length ≤ n) ∧ Aside0 (Kd.F k43 w' (fun q => w.heap.size < q ∧ q ≠ w2.heap.size) A e.f3.length e.f3) ∧ Aside0 (PS w0 g tq w') ∧ Aside0 (Gr g w w'))
        case atStart => exact ⟨e0, A0, n0, r0, ⟨HM.out.symm⟩, ⟨by have := Ps.first_len HF.out; omega⟩, ⟨Nat.le_refl _⟩, ⟨new_blk _ rfl⟩, ⟨blk_alloc BR.out _⟩, HN, ⟨Kd.F_alloc (Kd.F_mono (Kd.F_bound HE.out) (fun q hq => ⟨by omega, by omega⟩)) _⟩, ⟨HQ.out.alloc _⟩, ⟨HG.out.alloc _⟩⟩
        case round =>
          clear HM HF HQ HN HE BR HG HB
          try clear c0
          try clear c1
          obtain ⟨e, A, n, tq, HM, HL, HK, BK, BR, HN, HE, HQ, HG⟩ := hrel
          have hwr : w2.heap.size < wr.heap.size := blk_lt BK.out
          cases gk with
          | zero => exact absurd HL.out (by omega)
          | succ j =>
            have hm := HM.out
            clear HM
            simp only [Ps.more] at hm
            obtain ⟨s, hs⟩ : ∃ s, Ps.pk tq = s := ⟨_, rfl⟩
            obtain ⟨b, hb0⟩ : ∃ b, Ps.binds s = b := ⟨_, rfl⟩
            rw [hs, hb0] at hm
            have BV := Aside0.mk hb0
            have BI := Aside0.mk (show parse_binds.f 3 s = some b by rw [binds_is, hb0])
            have HS := Aside0.mk hs
            clear hs hb0
            by_cases k1 : b = 0
            · rw [if_pos k1] at hm
              have b0 : (b == 0) = true := beq_iff_eq.mpr k1
              have HM := Aside0.mk hm
              clear k1 hm
              go_wp2_with (first | (go_at_call 327; refine (peek_calls HQ.out).mono ?_; rintro e w3 ⟨rfl, hb⟩; rw [HS.out]; have hg := Gr.of_below (g := g) hb; have BK3 := Aside0.mk (hg.blk BK.out (by omega)); have BR3 := Aside0.mk (hg.blk BR.out (by omega)); have HE3 := Aside0.mk (hg.F HE.out (fun q hq => by omega)); have b3c0 : w3.cell? ⟨w2.heap.size, 0, none⟩ = some (.string e.f0) := (blk_cell BK3.out 0).trans rfl; have b3c1 : w3.cell? ⟨w2.heap.size, 1, none⟩ = some (.int .i64 e.f1.f0) := (blk_cell BK3.out 1).trans rfl; have b3c2 : w3.cell? ⟨w2.heap.size, 2, none⟩ = some (.int .i64 e.f1.f1) := (blk_cell BK3.out 2).trans rfl; have b3c3 : w3.cell? ⟨w2.heap.size, 3, none⟩ = some (.string e.f1.f2) := (blk_cell BK3.out 3).trans rfl; have b3c4 : w3.cell? ⟨w2.heap.size, 4, none⟩ = some (.string e.f2) := (blk_cell BK3.out 4).trans rfl; have b3c5 : w3.cell? ⟨w2.heap.size, 5, none⟩ = some (.slice A e.f3.length n) := (blk_cell BK3.out 5).trans rfl; have r3c0 : w3.cell? ⟨w.heap.size, 0, none⟩ = some (.string ⟨#[]⟩) := (blk_cell BR3.out 0).trans rfl; have r3c1 : w3.cell? ⟨w.heap.size, 1, none⟩ = some (.int .i64 0) := (blk_cell BR3.out 1).trans rfl; have r3c2 : w3.cell? ⟨w.heap.size, 2, none⟩ = some (.int .i64 0) := (blk_cell BR3.out 2).trans rfl; have r3c3 : w3.cell? ⟨w.heap.size, 3, none⟩ = some (.string ⟨#[]⟩) := (blk_cell BR3.out 3).trans rfl; have r3c4 : w3.cell? ⟨w.heap.size, 4, none⟩ = some (.string ⟨#[]⟩) := (blk_cell BR3.out 4).trans rfl; have r3c5 : w3.cell? ⟨w.heap.size, 5, none⟩ = some (.slice none 0 0) := (blk_cell BR3.out 5).trans rfl; have b3z0 := blk_frozen BK3.out 0; have b3z1 := blk_frozen BK3.out 1; have b3z2 := blk_frozen BK3.out 2; have b3z3 := blk_frozen BK3.out 3; have b3z4 := blk_frozen BK3.out 4; have b3z5 := blk_frozen BK3.out 5; have r3z0 := blk_frozen BR3.out 0; have r3z1 := blk_frozen BR3.out 1; have r3z2 := blk_frozen BR3.out 2; have r3z3 := blk_frozen BR3.out 3; have r3z4 := blk_frozen BR3.out 4; have r3z5 := blk_frozen BR3.out 5; have HQ3 := Aside0.mk (HQ.out.below hb); have HG3 := Aside0.mk (HG.out.trans hg); clear hg hb) | (go_at_call 102; refine (parse_binds.calls 3 _ _ _ BI.out).mono ?_; rintro e w4 ⟨rfl, ⟨nd, rfl⟩⟩))
              refine bodyPost_ret (v := .agg (cells43 e A n).toArray) ?_ rfl ?_
              · simp [results, Tryz.results358, go_sem, cells43, r3c0, r3c1, r3c2, r3c3, r3c4, r3c5, r3z0, r3z1, r3z2, r3z3, r3z4, r3z5]
              · refine Out.of_some HM.out.symm ?_ ⟨A, n, rfl, HN.out, ?_⟩ ?_
                · with_reducible (repeat (first | exact HG3.out | apply Gr.drewN | refine Gr.setB ?_ (Nat.le_refl _) _ _))
                · refine Kd.F_mono (ok := fun q => w.heap.size < q ∧ q ≠ w2.heap.size) ?_ (fun q hq => by omega)
                  with_reducible (repeat (first | exact HE3.out | apply Kd.F_drewN | refine Kd.F_far ?_ (fun q hq => Nat.ne_of_gt hq.1) _))
                · with_reducible (repeat (first | exact HQ3.out | apply PS.drewN | refine PS.setB ?_ (by omega) (by omega) _ _))
            · rw [if_neg k1] at hm
              have b0 : (b == 0) = false := beq_eq_false_iff_ne.mpr k1
              by_cases k2 : b < least
              · rw [if_pos k2] at hm
                have b1 : decide (b < least) = true := decide_eq_true k2
                have HM := Aside0.mk hm
                clear k1 k2 hm
                go_wp2_with (first | (go_at_call 327; refine (peek_calls HQ.out).mono ?_; rintro e w3 ⟨rfl, hb⟩; rw [HS.out]; have hg := Gr.of_below (g := g) hb; have BK3 := Aside0.mk (hg.blk BK.out (by omega)); have BR3 := Aside0.mk (hg.blk BR.out (by omega)); have HE3 := Aside0.mk (hg.F HE.out (fun q hq => by omega)); have b3c0 : w3.cell? ⟨w2.heap.size, 0, none⟩ = some (.string e.f0) := (blk_cell BK3.out 0).trans rfl; have b3c1 : w3.cell? ⟨w2.heap.size, 1, none⟩ = some (.int .i64 e.f1.f0) := (blk_cell BK3.out 1).trans rfl; have b3c2 : w3.cell? ⟨w2.heap.size, 2, none⟩ = some (.int .i64 e.f1.f1) := (blk_cell BK3.out 2).trans rfl; have b3c3 : w3.cell? ⟨w2.heap.size, 3, none⟩ = some (.string e.f1.f2) := (blk_cell BK3.out 3).trans rfl; have b3c4 : w3.cell? ⟨w2.heap.size, 4, none⟩ = some (.string e.f2) := (blk_cell BK3.out 4).trans rfl; have b3c5 : w3.cell? ⟨w2.heap.size, 5, none⟩ = some (.slice A e.f3.length n) := (blk_cell BK3.out 5).trans rfl; have r3c0 : w3.cell? ⟨w.heap.size, 0, none⟩ = some (.string ⟨#[]⟩) := (blk_cell BR3.out 0).trans rfl; have r3c1 : w3.cell? ⟨w.heap.size, 1, none⟩ = some (.int .i64 0) := (blk_cell BR3.out 1).trans rfl; have r3c2 : w3.cell? ⟨w.heap.size, 2, none⟩ = some (.int .i64 0) := (blk_cell BR3.out 2).trans rfl; have r3c3 : w3.cell? ⟨w.heap.size, 3, none⟩ = some (.string ⟨#[]⟩) := (blk_cell BR3.out 3).trans rfl; have r3c4 : w3.cell? ⟨w.heap.size, 4, none⟩ = some (.string ⟨#[]⟩) := (blk_cell BR3.out 4).trans rfl; have r3c5 : w3.cell? ⟨w.heap.size, 5, none⟩ = some (.slice none 0 0) := (blk_cell BR3.out 5).trans rfl; have b3z0 := blk_frozen BK3.out 0; have b3z1 := blk_frozen BK3.out 1; have b3z2 := blk_frozen BK3.out 2; have b3z3 := blk_frozen BK3.out 3; have b3z4 := blk_frozen BK3.out 4; have b3z5 := blk_frozen BK3.out 5; have r3z0 := blk_frozen BR3.out 0; have r3z1 := blk_frozen BR3.out 1; have r3z2 := blk_frozen BR3.out 2; have r3z3 := blk_frozen BR3.out 3; have r3z4 := blk_frozen BR3.out 4; have r3z5 := blk_frozen BR3.out 5; have HQ3 := Aside0.mk (HQ.out.below hb); have HG3 := Aside0.mk (HG.out.trans hg); clear hg hb) | (go_at_call 102; refine (parse_binds.calls 3 _ _ _ BI.out).mono ?_; rintro e w4 ⟨rfl, ⟨nd, rfl⟩⟩))
                refine bodyPost_ret (v := .agg (cells43 e A n).toArray) ?_ rfl ?_
                · simp [results, Tryz.results358, go_sem, cells43, r3c0, r3c1, r3c2, r3c3, r3c4, r3c5, r3z0, r3z1, r3z2, r3z3, r3z4, r3z5]
                · refine Out.of_some HM.out.symm ?_ ⟨A, n, rfl, HN.out, ?_⟩ ?_
                  · with_reducible (repeat (first | exact HG3.out | apply Gr.drewN | refine Gr.setB ?_ (Nat.le_refl _) _ _))
                  · refine Kd.F_mono (ok := fun q => w.heap.size < q ∧ q ≠ w2.heap.size) ?_ (fun q hq => by omega)
                    with_reducible (repeat (first | exact HE3.out | apply Kd.F_drewN | refine Kd.F_far ?_ (fun q hq => Nat.ne_of_gt hq.1) _))
                  · with_reducible (repeat (first | exact HQ3.out | apply PS.drewN | refine PS.setB ?_ (by omega) (by omega) _ _))
              · rw [if_neg k2] at hm
                have b1 : decide (b < least) = false := decide_eq_false k2
                clear k1 k2
                have hbr := binds_range s
                rw [BV.out] at hbr
                have wrapb : wrap64 (b + 1) = b + 1 := by unfold wrap64; omega
                cases hn : Ps.nx tq with
                | none =>
                  rw [hn] at hm
                  have HM := Aside0.mk hm
                  have HN5 := Aside0.mk hn
                  clear hm hn wrapb
                  go_wp2_with (first | (go_at_call 327; refine (peek_calls HQ.out).mono ?_; rintro e w3 ⟨rfl, hb⟩; rw [HS.out]; have hg := Gr.of_below (g := g) hb; have hs3 := hb.size; have BK3 := Aside0.mk (hg.blk BK.out (by omega)); have BR3 := Aside0.mk (hg.blk BR.out (by omega)); have HE3 := Aside0.mk (hg.F HE.out (fun q hq => by omega)); have HQ3 := Aside0.mk (HQ.out.below hb); have HG3 := Aside0.mk (HG.out.trans hg); clear hg hb) | (go_at_call 102; refine (parse_binds.calls 3 _ _ _ BI.out).mono ?_; rintro e w4 ⟨rfl, ⟨nd, rfl⟩⟩) | (go_at_call 258; refine (next_out (HQ3.out.drewN _)).mono ?_; intro e w5 ho; obtain ⟨hg, rfl⟩ := ho.none HN5.out; have HG5 := Aside0.mk ((HG3.out.drewN _).trans hg); clear hg ho))
                  exact ⟨rfl, Out.of_none HM.out.symm HG5.out⟩
                | some p =>
                  obtain ⟨t5, r5⟩ := p
                  rw [hn] at hm
                  simp only at hm
                  have HN5 := Aside0.mk hn
                  clear hn
                  by_cases k3 : s.toList = Ps.sIs.toList
                  · rw [if_pos k3] at hm
                    rw [wIs] at k3
                    have s0 : (s.toList == [105, 115]) = true := beq_iff_eq.mpr k3
                    have s1 : (s.toList != [105, 115]) = false := bne_eq_false_iff_eq.mpr k3
                    clear k3 wrapb
                    cases ht : Ps.tk Ps.sNot r5 with
                    | none =>
                      rw [ht] at hm
                      have HM := Aside0.mk hm
                      have HT := Aside0.mk ht
                      clear hm ht
                      go_wp2_with (first | (go_at_call 327; refine (peek_calls HQ.out).mono ?_; rintro e w3 ⟨rfl, hb⟩; rw [HS.out]; have hg := Gr.of_below (g := g) hb; have hs3 := hb.size; have BK3 := Aside0.mk (hg.blk BK.out (by omega)); have BR3 := Aside0.mk (hg.blk BR.out (by omega)); have HE3 := Aside0.mk (hg.F HE.out (fun q hq => by omega)); have HQ3 := Aside0.mk (HQ.out.below hb); have HG3 := Aside0.mk (HG.out.trans hg); clear hg hb) | (go_at_call 102; refine (parse_binds.calls 3 _ _ _ BI.out).mono ?_; rintro e w4 ⟨rfl, ⟨nd, rfl⟩⟩) | (go_at_call 258; refine (next_out (HQ3.out.drewN _)).mono ?_; intro e w5 ho; obtain ⟨hg, v, rfl, rfl, hp⟩ := ho.some HN5.out; have hg3 := ((Gr.refl g w3).drewN nd).trans hg; have hs5 := hg3.size; have BK5 := Aside0.mk (hg3.blk BK3.out (by omega)); have BR5 := Aside0.mk (hg3.blk BR3.out (by omega)); have HE5 := Aside0.mk (hg3.F HE3.out (fun q hq => by omega)); have b5c0 : w5.cell? ⟨w2.heap.size, 0, none⟩ = some (.string e.f0) := (blk_cell BK5.out 0).trans rfl; have b5c1 : w5.cell? ⟨w2.heap.size, 1, none⟩ = some (.int .i64 e.f1.f0) := (blk_cell BK5.out 1).trans rfl; have b5c2 : w5.cell? ⟨w2.heap.size, 2, none⟩ = some (.int .i64 e.f1.f1) := (blk_cell BK5.out 2).trans rfl; have b5c3 : w5.cell? ⟨w2.heap.size, 3, none⟩ = some (.string e.f1.f2) := (blk_cell BK5.out 3).trans rfl; have b5c4 : w5.cell? ⟨w2.heap.size, 4, none⟩ = some (.string e.f2) := (blk_cell BK5.out 4).trans rfl; have b5c5 : w5.cell? ⟨w2.heap.size, 5, none⟩ = some (.slice A e.f3.length n) := (blk_cell BK5.out 5).trans rfl; have b5z0 := blk_frozen BK5.out 0; have b5z1 := blk_frozen BK5.out 1; have b5z2 := blk_frozen BK5.out 2; have b5z3 := blk_frozen BK5.out 3; have b5z4 := blk_frozen BK5.out 4; have b5z5 := blk_frozen BK5.out 5; have HQ5 := Aside0.mk hp; have HG5 := Aside0.mk (HG3.out.trans hg3); clear hg hg3 ho hp) | (go_at_call 271; refine (take_out HQ5.out Ps.sNot).mono ?_; intro e w6 ho; obtain ⟨hg, rfl⟩ := ho.none HT.out; have HG6 := Aside0.mk (HG5.out.trans hg); clear hg ho))
                      exact ⟨rfl, Out.of_none HM.out.symm HG6.out⟩
                    | some p =>
                      obtain ⟨no, r6⟩ := p
                      rw [ht] at hm
                      simp only at hm
                      have HT := Aside0.mk ht
                      clear ht
                      cases hu : Ps.ms [Ps.sNull] r6 with
                      | none =>
                        rw [hu] at hm
                        have HM := Aside0.mk hm
                        have HU := Aside0.mk hu
                        clear hm hu
                        go_wp2_with (first | (go_at_call 327; refine (peek_calls HQ.out).mono ?_; rintro e w3 ⟨rfl, hb⟩; rw [HS.out]; have hg := Gr.of_below (g := g) hb; have hs3 := hb.size; have BK3 := Aside0.mk (hg.blk BK.out (by omega)); have BR3 := Aside0.mk (hg.blk BR.out (by omega)); have HE3 := Aside0.mk (hg.F HE.out (fun q hq => by omega)); have HQ3 := Aside0.mk (HQ.out.below hb); have HG3 := Aside0.mk (HG.out.trans hg); clear hg hb) | (go_at_call 102; refine (parse_binds.calls 3 _ _ _ BI.out).mono ?_; rintro e w4 ⟨rfl, ⟨nd, rfl⟩⟩) | (go_at_call 258; refine (next_out (HQ3.out.drewN _)).mono ?_; intro e w5 ho; obtain ⟨hg, v, rfl, rfl, hp⟩ := ho.some HN5.out; have hg3 := ((Gr.refl g w3).drewN nd).trans hg; have hs5 := hg3.size; have BK5 := Aside0.mk (hg3.blk BK3.out (by omega)); have BR5 := Aside0.mk (hg3.blk BR3.out (by omega)); have HE5 := Aside0.mk (hg3.F HE3.out (fun q hq => by omega)); have b5c0 : w5.cell? ⟨w2.heap.size, 0, none⟩ = some (.string e.f0) := (blk_cell BK5.out 0).trans rfl; have b5c1 : w5.cell? ⟨w2.heap.size, 1, none⟩ = some (.int .i64 e.f1.f0) := (blk_cell BK5.out 1).trans rfl; have b5c2 : w5.cell? ⟨w2.heap.size, 2, none⟩ = some (.int .i64 e.f1.f1) := (blk_cell BK5.out 2).trans rfl; have b5c3 : w5.cell? ⟨w2.heap.size, 3, none⟩ = some (.string e.f1.f2) := (blk_cell BK5.out 3).trans rfl; have b5c4 : w5.cell? ⟨w2.heap.size, 4, none⟩ = some (.string e.f2) := (blk_cell BK5.out 4).trans rfl; have b5c5 : w5.cell? ⟨w2.heap.size, 5, none⟩ = some (.slice A e.f3.length n) := (blk_cell BK5.out 5).trans rfl; have b5z0 := blk_frozen BK5.out 0; have b5z1 := blk_frozen BK5.out 1; have b5z2 := blk_frozen BK5.out 2; have b5z3 := blk_frozen BK5.out 3; have b5z4 := blk_frozen BK5.out 4; have b5z5 := blk_frozen BK5.out 5; have HQ5 := Aside0.mk hp; have HG5 := Aside0.mk (HG3.out.trans hg3); clear hg hg3 ho hp) | (go_at_call 271; refine (take_out HQ5.out Ps.sNot).mono ?_; intro e w6 ho; obtain ⟨hg, v, rfl, rfl, hp⟩ := ho.some HT.out; have hs6 := hg.size; have BK6 := Aside0.mk (hg.blk BK5.out (by omega)); have BR6 := Aside0.mk (hg.blk BR5.out (by omega)); have HE6 := Aside0.mk (hg.F HE5.out (fun q hq => by omega)); have HQ6 := Aside0.mk hp; have HG6 := Aside0.mk (HG5.out.trans hg); clear hg ho hp) | (go_at_call 259; refine (must1 HQ6.out rfl Ps.sNull 1).mono ?_; intro e w7 ho; obtain ⟨hg, rfl⟩ := ho.none (msU_none HU.out); have HG7 := Aside0.mk (HG6.out.trans hg); clear hg ho))
                        exact ⟨rfl, Out.of_none HM.out.symm HG7.out⟩
                      | some r7 =>
                        rw [hu] at hm
                        simp only at hm
                        have HU := Aside0.mk hu
                        clear hu
                        go_upto_region 13 with (first | (go_at_call 327; refine (peek_calls HQ.out).mono ?_; rintro e w3 ⟨rfl, hb⟩; rw [HS.out]; have hg := Gr.of_below (g := g) hb; have hs3 := hb.size; have BK3 := Aside0.mk (hg.blk BK.out (by omega)); have BR3 := Aside0.mk (hg.blk BR.out (by omega)); have HE3 := Aside0.mk (hg.F HE.out (fun q hq => by omega)); have HQ3 := Aside0.mk (HQ.out.below hb); have HG3 := Aside0.mk (HG.out.trans hg); clear hg hb) | (go_at_call 102; refine (parse_binds.calls 3 _ _ _ BI.out).mono ?_; rintro e w4 ⟨rfl, ⟨nd, rfl⟩⟩) | (go_at_call 258; refine (next_out (HQ3.out.drewN _)).mono ?_; intro e w5 ho; obtain ⟨hg, v, rfl, rfl, hp⟩ := ho.some HN5.out; have hg3 := ((Gr.refl g w3).drewN nd).trans hg; have hs5 := hg3.size; have BK5 := Aside0.mk (hg3.blk BK3.out (by omega)); have BR5 := Aside0.mk (hg3.blk BR3.out (by omega)); have HE5 := Aside0.mk (hg3.F HE3.out (fun q hq => by omega)); have b5c0 : w5.cell? ⟨w2.heap.size, 0, none⟩ = some (.string e.f0) := (blk_cell BK5.out 0).trans rfl; have b5c1 : w5.cell? ⟨w2.heap.size, 1, none⟩ = some (.int .i64 e.f1.f0) := (blk_cell BK5.out 1).trans rfl; have b5c2 : w5.cell? ⟨w2.heap.size, 2, none⟩ = some (.int .i64 e.f1.f1) := (blk_cell BK5.out 2).trans rfl; have b5c3 : w5.cell? ⟨w2.heap.size, 3, none⟩ = some (.string e.f1.f2) := (blk_cell BK5.out 3).trans rfl; have b5c4 : w5.cell? ⟨w2.heap.size, 4, none⟩ = some (.string e.f2) := (blk_cell BK5.out 4).trans rfl; have b5c5 : w5.cell? ⟨w2.heap.size, 5, none⟩ = some (.slice A e.f3.length n) := (blk_cell BK5.out 5).trans rfl; have b5z0 := blk_frozen BK5.out 0; have b5z1 := blk_frozen BK5.out 1; have b5z2 := blk_frozen BK5.out 2; have b5z3 := blk_frozen BK5.out 3; have b5z4 := blk_frozen BK5.out 4; have b5z5 := blk_frozen BK5.out 5; have HQ5 := Aside0.mk hp; have HG5 := Aside0.mk (HG3.out.trans hg3); clear hg hg3 ho hp) | (go_at_call 271; refine (take_out HQ5.out Ps.sNot).mono ?_; intro e w6 ho; obtain ⟨hg, v, rfl, rfl, hp⟩ := ho.some HT.out; have hs6 := hg.size; have BK6 := Aside0.mk (hg.blk BK5.out (by omega)); have BR6 := Aside0.mk (hg.blk BR5.out (by omega)); have HE6 := Aside0.mk (hg.F HE5.out (fun q hq => by omega)); have HQ6 := Aside0.mk hp; have HG6 := Aside0.mk (HG5.out.trans hg); clear hg ho hp) | (go_at_call 259; refine (must1 HQ6.out rfl Ps.sNull 1).mono ?_; intro e9 w7 ho; obtain ⟨hg, v, rfl, rfl, hp⟩ := ho.some (msU_some HU.out); have hs7 := hg.size; have BK7 := Aside0.mk (hg.blk BK6.out (by omega)); have BR7 := Aside0.mk (hg.blk BR6.out (by omega)); have HE7 := Aside0.mk (hg.F HE6.out (fun q hq => by omega)); have b7c0 : w7.cell? ⟨w2.heap.size, 0, none⟩ = some (.string e.f0) := (blk_cell BK7.out 0).trans rfl; have b7c1 : w7.cell? ⟨w2.heap.size, 1, none⟩ = some (.int .i64 e.f1.f0) := (blk_cell BK7.out 1).trans rfl; have b7c2 : w7.cell? ⟨w2.heap.size, 2, none⟩ = some (.int .i64 e.f1.f1) := (blk_cell BK7.out 2).trans rfl; have b7c3 : w7.cell? ⟨w2.heap.size, 3, none⟩ = some (.string e.f1.f2) := (blk_cell BK7.out 3).trans rfl; have b7c4 : w7.cell? ⟨w2.heap.size, 4, none⟩ = some (.string e.f2) := (blk_cell BK7.out 4).trans rfl; have b7c5 : w7.cell? ⟨w2.heap.size, 5, none⟩ = some (.slice A e.f3.length n) := (blk_cell BK7.out 5).trans rfl; have b7z0 := blk_frozen BK7.out 0; have b7z1 := blk_frozen BK7.out 1; have b7z2 := blk_frozen BK7.out 2; have b7z3 := blk_frozen BK7.out 3; have b7z4 := blk_frozen BK7.out 4; have b7z5 := blk_frozen BK7.out 5; have hb7 : w2.heap.size < w7.heap.size := blk_lt BK7.out; have HQ7 := Aside0.mk hp; have HG7 := Aside0.mk (HG6.out.trans hg); clear hg ho hp))
                        go_cut [8] (fun v8 wc => ∃ (A1 : Option Addr), v8 = .bool no ∧ Aside0 (wc.heap[w2.heap.size]? = some (.cells (cells43 (Ps.op Ps.sIsnull [e]) A1 1).toArray 43 (0, 0))) ∧ Aside0 (wc.heap[w.heap.size]? = some (.cells #[.string ⟨#[]⟩, .int .i64 0, .int .i64 0, .string ⟨#[]⟩, .string ⟨#[]⟩, .slice none 0 0] 43 (0, 0))) ∧ Aside0 (Kd.F k43 wc (fun q => w.heap.size < q ∧ q ≠ w2.heap.size) A1 1 [e]) ∧ Aside0 (PS w0 g r7 wc) ∧ Aside0 (Gr g w wc))
                        case first =>
                          go_wp2_with (first | (go_at_call 369; refine (op_calls _ _ _ _ _).mono ?_; rintro e8 w8 ⟨rfl, o8, rfl⟩))
                          go_meet
                          case rel =>
                            refine ⟨some ⟨w7.heap.size, 0, none⟩, rfl, ?_, ?_, ?_, ?_, ?_⟩
                            · exact ⟨blk_alloc (blk_alloc (blk_put6 BK7.out) _) _⟩
                            · exact ⟨blk_alloc (blk_alloc (by with_reducible (repeat (first | exact BR7.out | refine blk_setNe ?_ (by omega) _ _))) _) _⟩
                            · refine ⟨F_one (x := e) (A := A) (c := n) (blk_alloc (new_blk _ (by simp)) _) ⟨by omega, by omega⟩ HN.out (Kd.F_alloc (Kd.F_alloc ?_ _) _)⟩
                              with_reducible (repeat (first | exact HE7.out | refine Kd.F_far ?_ (fun q hq => hq.2) _))
                            · exact ⟨((by with_reducible (repeat (first | exact HQ7.out | refine PS.setB ?_ (by omega) (by omega) _ _)) : PS w0 g r7 _).alloc _).alloc _⟩
                            · exact ⟨((by with_reducible (repeat (first | exact HG7.out | refine Gr.setB ?_ (by omega) _ _)) : Gr g w _).alloc _).alloc _⟩
                        case rest =>
                          obtain ⟨A1, rfl, BK9, BR9, HE9, HQ9, HG9⟩ := hcut
                          have hb9 : w2.heap.size < wc.heap.size := blk_lt BK9.out
                          cases no with
                          | false =>
                            simp only [Bool.false_eq_true, if_false] at hm
                            have HM := Aside0.mk hm
                            clear hm
                            go_wp2
                            go_roundg j
                            case measure => have := HL.out; omega
                            case rel =>
                              exact ⟨Ps.op Ps.sIsnull [e], A1, 1, r7, HM, ⟨by have := HL.out; have := (Ps.nx_len HN5.out).1; have := (Ps.tk_len HT.out).1; have := Ps.ms_len HU.out; omega⟩, ⟨by have := HK.out; omega⟩, BK9, BR9, ⟨Nat.le_refl _⟩, HE9, HQ9, HG9⟩
                          | true =>
                            simp only [if_true] at hm
                            have HM := Aside0.mk hm
                            clear hm
                            have b9c0 : wc.cell? ⟨w2.heap.size, 0, none⟩ = some (.string Ps.sIsnull) := (blk_cell BK9.out 0).trans rfl
                            have b9c1 : wc.cell? ⟨w2.heap.size, 1, none⟩ = some (.int .i64 0) := (blk_cell BK9.out 1).trans rfl
                            have b9c2 : wc.cell? ⟨w2.heap.size, 2, none⟩ = some (.int .i64 0) := (blk_cell BK9.out 2).trans rfl
                            have b9c3 : wc.cell? ⟨w2.heap.size, 3, none⟩ = some (.string ⟨#[]⟩) := (blk_cell BK9.out 3).trans rfl
                            have b9c4 : wc.cell? ⟨w2.heap.size, 4, none⟩ = some (.string ⟨#[]⟩) := (blk_cell BK9.out 4).trans rfl
                            have b9c5 : wc.cell? ⟨w2.heap.size, 5, none⟩ = some (.slice A1 1 1) := (blk_cell BK9.out 5).trans rfl
                            have b9z0 := blk_frozen BK9.out 0
                            have b9z1 := blk_frozen BK9.out 1
                            have b9z2 := blk_frozen BK9.out 2
                            have b9z3 := blk_frozen BK9.out 3
                            have b9z4 := blk_frozen BK9.out 4
                            have b9z5 := blk_frozen BK9.out 5
                            go_wp2_with (first | (go_at_call 369; refine (op_calls _ _ _ _ _).mono ?_; rintro e8 w8 ⟨rfl, o8, rfl⟩))
                            go_roundg j
                            case measure => have := HL.out; omega
                            case rel =>
                              refine ⟨Ps.op Ps.sNot [Ps.op Ps.sIsnull [e]], some ⟨wc.heap.size, 0, none⟩, 1, r7, HM, ⟨by have := HL.out; have := (Ps.nx_len HN5.out).1; have := (Ps.tk_len HT.out).1; have := Ps.ms_len HU.out; omega⟩, ⟨by have := HK.out; omega⟩, ?_, ?_, ⟨Nat.le_refl _⟩, ?_, ?_, ?_⟩
                              · exact ⟨blk_alloc (blk_alloc (blk_put6 BK9.out) _) _⟩
                              · exact ⟨blk_alloc (blk_alloc (by with_reducible (repeat (first | exact BR9.out | refine blk_setNe ?_ (by omega) _ _))) _) _⟩
                              · refine ⟨F_one (x := Ps.op Ps.sIsnull [e]) (A := A1) (c := 1) (blk_alloc (new_blk _ (by simp)) _) ⟨by omega, by omega⟩ (Nat.le_refl _) (Kd.F_alloc (Kd.F_alloc ?_ _) _)⟩
                                with_reducible (repeat (refine Kd.F_far ?_ (fun q hq => hq.2) _))
                                exact HE9.out
                              · exact ⟨((by with_reducible (repeat (first | exact HQ9.out | refine PS.setB ?_ (by omega) (by omega) _ _)) : PS w0 g r7 _).alloc _).alloc _⟩
                              · exact ⟨((by with_reducible (repeat (first | exact HG9.out | refine Gr.setB ?_ (by omega) _ _)) : Gr g w _).alloc _).alloc _⟩
                  · rw [if_neg k3] at hm
                    rw [wIs] at k3
                    have s0 : (s.toList == [105, 115]) = false := beq_eq_false_iff_ne.mpr k3
                    have s1 : (s.toList != [105, 115]) = true := bne_iff_ne.mpr k3
                    clear k3
                    have HC := Aside0.mk (fun wx hx => by rw [wrapb]; exact ihE j (by have := HK.out; omega) w0 g r5 wx (b + 1) hx (by have := HL.out; have := (Ps.nx_len HN5.out).1; omega) : ∀ wx, PS w0 g r5 wx → Calls Tryz.prog 358 #[.pointer (some ⟨g, 0, none⟩), .int .i64 (wrap64 (b + 1))] wx (Out w0 g (Vex wx.heap.size) wx (Ps.expr j (b + 1) r5)))
                    clear wrapb
                    cases hx : Ps.expr j (b + 1) r5 with
                    | none =>
                      rw [hx] at hm
                      have HM := Aside0.mk hm
                      have HX := Aside0.mk hx
                      clear hm hx
                      go_wp2_with (first | (go_at_call 327; refine (peek_calls HQ.out).mono ?_; rintro e w3 ⟨rfl, hb⟩; rw [HS.out]; have hg := Gr.of_below (g := g) hb; have hs3 := hb.size; have BK3 := Aside0.mk (hg.blk BK.out (by omega)); have BR3 := Aside0.mk (hg.blk BR.out (by omega)); have HE3 := Aside0.mk (hg.F HE.out (fun q hq => by omega)); have HQ3 := Aside0.mk (HQ.out.below hb); have HG3 := Aside0.mk (HG.out.trans hg); clear hg hb) | (go_at_call 102; refine (parse_binds.calls 3 _ _ _ BI.out).mono ?_; rintro e w4 ⟨rfl, ⟨nd, rfl⟩⟩) | (go_at_call 258; refine (next_out (HQ3.out.drewN _)).mono ?_; intro e w5 ho; obtain ⟨hg, v, rfl, rfl, hp⟩ := ho.some HN5.out; have hg3 := ((Gr.refl g w3).drewN nd).trans hg; have hs5 := hg3.size; have BK5 := Aside0.mk (hg3.blk BK3.out (by omega)); have BR5 := Aside0.mk (hg3.blk BR3.out (by omega)); have HE5 := Aside0.mk (hg3.F HE3.out (fun q hq => by omega)); have b5c0 : w5.cell? ⟨w2.heap.size, 0, none⟩ = some (.string e.f0) := (blk_cell BK5.out 0).trans rfl; have b5c1 : w5.cell? ⟨w2.heap.size, 1, none⟩ = some (.int .i64 e.f1.f0) := (blk_cell BK5.out 1).trans rfl; have b5c2 : w5.cell? ⟨w2.heap.size, 2, none⟩ = some (.int .i64 e.f1.f1) := (blk_cell BK5.out 2).trans rfl; have b5c3 : w5.cell? ⟨w2.heap.size, 3, none⟩ = some (.string e.f1.f2) := (blk_cell BK5.out 3).trans rfl; have b5c4 : w5.cell? ⟨w2.heap.size, 4, none⟩ = some (.string e.f2) := (blk_cell BK5.out 4).trans rfl; have b5c5 : w5.cell? ⟨w2.heap.size, 5, none⟩ = some (.slice A e.f3.length n) := (blk_cell BK5.out 5).trans rfl; have b5z0 := blk_frozen BK5.out 0; have b5z1 := blk_frozen BK5.out 1; have b5z2 := blk_frozen BK5.out 2; have b5z3 := blk_frozen BK5.out 3; have b5z4 := blk_frozen BK5.out 4; have b5z5 := blk_frozen BK5.out 5; have HQ5 := Aside0.mk hp; have HG5 := Aside0.mk (HG3.out.trans hg3); clear hg hg3 ho hp))
                      refine start_ (n := 9) (S := fun w' => w'.cell? ⟨w2.heap.size, 0, none⟩ = some (.string e.f0) ∧ w'.cell? ⟨w2.heap.size, 1, none⟩ = some (.int .i64 e.f1.f0) ∧ w'.cell? ⟨w2.heap.size, 2, none⟩ = some (.int .i64 e.f1.f1) ∧ w'.cell? ⟨w2.heap.size, 3, none⟩ = some (.string e.f1.f2) ∧ w'.cell? ⟨w2.heap.size, 4, none⟩ = some (.string e.f2) ∧ w'.cell? ⟨w2.heap.size, 5, none⟩ = some (.slice A e.f3.length n)) (ds := [8]) #[false, false, false, false, false, false, false, false, false] (by kernel_rfl) rfl rfl ⟨b5c0, b5c1, b5c2, b5c3, b5c4, b5c5⟩ (fun hHeld => ?_)
                      refine pure_ (i := 0) (N := some 36) (v := ?_) (a' := ?_) #[true, false, false, false, false, false, false, false, false] rfl rfl (by kernel_rfl) (fun _ _ _ h => h) (Or.inl ⟨by rfl, ?_⟩) ?_ ?_
                      rotate_left
                      · intro w'
                        go_simp
                        with_reducible rfl
                      rotate_left
                      · simp only [Act.put, List.setIfInBounds_toArray, List.set_cons_zero, List.set_cons_succ, i64_w, i32_w]
                        rfl
                      refine take_ (i := 1) (N := some 37) (v := ?_) (a' := ?_) #[true, true, false, false, false, false, false, false, false] rfl rfl (by kernel_rfl) (fun _ _ _ h => h) (Or.inl ⟨by rfl, ?_⟩) hHeld ?_ ?_
                      rotate_left
                      · rintro w' ⟨s0, s1, s2, s3, s4, s5⟩
                        go_simp
                        with_reducible rfl
                      rotate_left
                      · simp only [Act.put, List.setIfInBounds_toArray, List.set_cons_zero, List.set_cons_succ, i64_w, i32_w]
                        rfl
                      refine pure_ (i := 2) (N := some 38) (v := ?_) (a' := ?_) #[true, true, true, false, false, false, false, false, false] rfl rfl (by kernel_rfl) (fun _ _ _ h => h) (Or.inl ⟨by rfl, ?_⟩) ?_ ?_
                      rotate_left
                      · intro w'
                        go_simp
                        with_reducible rfl
                      rotate_left
                      · simp only [Act.put, List.setIfInBounds_toArray, List.set_cons_zero, List.set_cons_succ, i64_w, i32_w]
                        rfl
                      refine pure_ (i := 3) (N := some 39) (v := ?_) (a' := ?_) #[true, true, true, true, false, false, false, false, false] rfl rfl (by kernel_rfl) (fun _ _ _ h => h) (Or.inl ⟨by rfl, ?_⟩) ?_ ?_
                      rotate_left
                      · intro w'
                        go_simp
                        with_reducible rfl
                      rotate_left
                      · simp only [Act.put, List.setIfInBounds_toArray, List.set_cons_zero, List.set_cons_succ, i64_w, i32_w]
                        rfl
                      refine pure_ (i := 4) (N := some 40) (v := ?_) (a' := ?_) #[true, true, true, true, true, false, false, false, false] rfl rfl (by kernel_rfl) (fun _ _ _ h => h) (Or.inl ⟨by rfl, ?_⟩) ?_ ?_
                      rotate_left
                      · intro w'
                        go_simp
                        with_reducible rfl
                      rotate_left
                      · simp only [Act.put, List.setIfInBounds_toArray, List.set_cons_zero, List.set_cons_succ, i64_w, i32_w]
                        rfl
                      refine one_ (i := 5) (N := some 41) #[true, true, true, true, true, true, false, false, false] rfl rfl (by kernel_rfl) (by decide) (fun K hK => ?_)
                      refine goesP_ Tryz.func358 (by kernel_rfl) rfl #[.pointer (some ⟨g, 0, none⟩), .int .i64 (wrap64 (b + 1))] (by rfl) rfl (by (try simp only [List.map_toArray, List.map_cons, List.map_nil]); first | done | rfl) (ch := failedV) ?_
                      refine (HC.out w5.drew (HQ5.out.below (below_drew1 (Below.refl _ _)))).mono ?_
                      intro e w7 ho
                      obtain ⟨hg, rfl⟩ := ho.none HX.out
                      exact ⟨rfl, ⟨rfl, Out.of_none HM.out.symm ((HG5.out.step (below_drew1 (Below.refl _ _))).trans hg)⟩⟩
                      
                    | some p =>
                      obtain ⟨x, r6⟩ := p
                      rw [hx] at hm
                      have HM := Aside0.mk hm
                      have HX := Aside0.mk hx
                      clear hm hx
                      go_wp2_with (first | (go_at_call 327; refine (peek_calls HQ.out).mono ?_; rintro e w3 ⟨rfl, hb⟩; rw [HS.out]; have hg := Gr.of_below (g := g) hb; have hs3 := hb.size; have BK3 := Aside0.mk (hg.blk BK.out (by omega)); have BR3 := Aside0.mk (hg.blk BR.out (by omega)); have HE3 := Aside0.mk (hg.F HE.out (fun q hq => by omega)); have HQ3 := Aside0.mk (HQ.out.below hb); have HG3 := Aside0.mk (HG.out.trans hg); clear hg hb) | (go_at_call 102; refine (parse_binds.calls 3 _ _ _ BI.out).mono ?_; rintro e w4 ⟨rfl, ⟨nd, rfl⟩⟩) | (go_at_call 258; refine (next_out (HQ3.out.drewN _)).mono ?_; intro e w5 ho; obtain ⟨hg, v, rfl, rfl, hp⟩ := ho.some HN5.out; have hg3 := ((Gr.refl g w3).drewN nd).trans hg; have hs5 := hg3.size; have BK5 := Aside0.mk (hg3.blk BK3.out (by omega)); have BR5 := Aside0.mk (hg3.blk BR3.out (by omega)); have HE5 := Aside0.mk (hg3.F HE3.out (fun q hq => by omega)); have b5c0 : w5.cell? ⟨w2.heap.size, 0, none⟩ = some (.string e.f0) := (blk_cell BK5.out 0).trans rfl; have b5c1 : w5.cell? ⟨w2.heap.size, 1, none⟩ = some (.int .i64 e.f1.f0) := (blk_cell BK5.out 1).trans rfl; have b5c2 : w5.cell? ⟨w2.heap.size, 2, none⟩ = some (.int .i64 e.f1.f1) := (blk_cell BK5.out 2).trans rfl; have b5c3 : w5.cell? ⟨w2.heap.size, 3, none⟩ = some (.string e.f1.f2) := (blk_cell BK5.out 3).trans rfl; have b5c4 : w5.cell? ⟨w2.heap.size, 4, none⟩ = some (.string e.f2) := (blk_cell BK5.out 4).trans rfl; have b5c5 : w5.cell? ⟨w2.heap.size, 5, none⟩ = some (.slice A e.f3.length n) := (blk_cell BK5.out 5).trans rfl; have b5z0 := blk_frozen BK5.out 0; have b5z1 := blk_frozen BK5.out 1; have b5z2 := blk_frozen BK5.out 2; have b5z3 := blk_frozen BK5.out 3; have b5z4 := blk_frozen BK5.out 4; have b5z5 := blk_frozen BK5.out 5; have HQ5 := Aside0.mk hp; have HG5 := Aside0.mk (HG3.out.trans hg3); clear hg hg3 ho hp))
                      refine start_ (n := 9) (S := fun w' => w'.cell? ⟨w2.heap.size, 0, none⟩ = some (.string e.f0) ∧ w'.cell? ⟨w2.heap.size, 1, none⟩ = some (.int .i64 e.f1.f0) ∧ w'.cell? ⟨w2.heap.size, 2, none⟩ = some (.int .i64 e.f1.f1) ∧ w'.cell? ⟨w2.heap.size, 3, none⟩ = some (.string e.f1.f2) ∧ w'.cell? ⟨w2.heap.size, 4, none⟩ = some (.string e.f2) ∧ w'.cell? ⟨w2.heap.size, 5, none⟩ = some (.slice A e.f3.length n)) (ds := [8]) #[false, false, false, false, false, false, false, false, false] (by kernel_rfl) rfl rfl ⟨b5c0, b5c1, b5c2, b5c3, b5c4, b5c5⟩ (fun hHeld => ?_)
                      refine pure_ (i := 0) (N := some 36) (v := ?_) (a' := ?_) #[true, false, false, false, false, false, false, false, false] rfl rfl (by kernel_rfl) (fun _ _ _ h => h) (Or.inl ⟨by rfl, ?_⟩) ?_ ?_
                      rotate_left
                      · intro w'
                        go_simp
                        with_reducible rfl
                      rotate_left
                      · simp only [Act.put, List.setIfInBounds_toArray, List.set_cons_zero, List.set_cons_succ, i64_w, i32_w]
                        rfl
                      refine take_ (i := 1) (N := some 37) (v := ?_) (a' := ?_) #[true, true, false, false, false, false, false, false, false] rfl rfl (by kernel_rfl) (fun _ _ _ h => h) (Or.inl ⟨by rfl, ?_⟩) hHeld ?_ ?_
                      rotate_left
                      · rintro w' ⟨s0, s1, s2, s3, s4, s5⟩
                        go_simp
                        with_reducible rfl
                      rotate_left
                      · simp only [Act.put, List.setIfInBounds_toArray, List.set_cons_zero, List.set_cons_succ, i64_w, i32_w]
                        rfl
                      refine pure_ (i := 2) (N := some 38) (v := ?_) (a' := ?_) #[true, true, true, false, false, false, false, false, false] rfl rfl (by kernel_rfl) (fun _ _ _ h => h) (Or.inl ⟨by rfl, ?_⟩) ?_ ?_
                      rotate_left
                      · intro w'
                        go_simp
                        with_reducible rfl
                      rotate_left
                      · simp only [Act.put, List.setIfInBounds_toArray, List.set_cons_zero, List.set_cons_succ, i64_w, i32_w]
                        rfl
                      refine pure_ (i := 3) (N := some 39) (v := ?_) (a' := ?_) #[true, true, true, true, false, false, false, false, false] rfl rfl (by kernel_rfl) (fun _ _ _ h => h) (Or.inl ⟨by rfl, ?_⟩) ?_ ?_
                      rotate_left
                      · intro w'
                        go_simp
                        with_reducible rfl
                      rotate_left
                      · simp only [Act.put, List.setIfInBounds_toArray, List.set_cons_zero, List.set_cons_succ, i64_w, i32_w]
                        rfl
                      refine pure_ (i := 4) (N := some 40) (v := ?_) (a' := ?_) #[true, true, true, true, true, false, false, false, false] rfl rfl (by kernel_rfl) (fun _ _ _ h => h) (Or.inl ⟨by rfl, ?_⟩) ?_ ?_
                      rotate_left
                      · intro w'
                        go_simp
                        with_reducible rfl
                      rotate_left
                      · simp only [Act.put, List.setIfInBounds_toArray, List.set_cons_zero, List.set_cons_succ, i64_w, i32_w]
                        rfl
                      refine one_ (i := 5) (N := some 41) #[true, true, true, true, true, true, false, false, false] rfl rfl (by kernel_rfl) (by decide) (fun K hK => ?_)
                      refine goes_ Tryz.func358 (by kernel_rfl) rfl #[.pointer (some ⟨g, 0, none⟩), .int .i64 (wrap64 (b + 1))] (by rfl) rfl rfl (by (try simp only [List.map_toArray, List.map_cons, List.map_nil]); first | done | rfl) ?_
                      refine (HC.out w5.drew (HQ5.out.below (below_drew1 (Below.refl _ _)))).mono ?_
                      intro e7 w7 ho
                      obtain ⟨hg, v, rfl, hv, hp⟩ := ho.some HX.out
                      obtain ⟨Ax, nx, rfl, hnx, hfx⟩ := hv
                      refine ⟨_, rfl, ?_⟩
                      have hg5 := ((Gr.refl g w5).step (below_drew1 (Below.refl _ _))).trans hg
                      have hs7 := hg5.size
                      have BK7 := Aside0.mk (hg5.blk BK5.out (by omega))
                      have BR7 := Aside0.mk (hg5.blk BR5.out (by omega))
                      have HE7 := Aside0.mk (hg5.F HE5.out (fun q hq => by omega))
                      have b7c0 : w7.cell? ⟨w2.heap.size, 0, none⟩ = some (.string e.f0) := (blk_cell BK7.out 0).trans rfl
                      have b7c1 : w7.cell? ⟨w2.heap.size, 1, none⟩ = some (.int .i64 e.f1.f0) := (blk_cell BK7.out 1).trans rfl
                      have b7c2 : w7.cell? ⟨w2.heap.size, 2, none⟩ = some (.int .i64 e.f1.f1) := (blk_cell BK7.out 2).trans rfl
                      have b7c3 : w7.cell? ⟨w2.heap.size, 3, none⟩ = some (.string e.f1.f2) := (blk_cell BK7.out 3).trans rfl
                      have b7c4 : w7.cell? ⟨w2.heap.size, 4, none⟩ = some (.string e.f2) := (blk_cell BK7.out 4).trans rfl
                      have b7c5 : w7.cell? ⟨w2.heap.size, 5, none⟩ = some (.slice A e.f3.length n) := (blk_cell BK7.out 5).trans rfl
                      have b7z0 := blk_frozen BK7.out 0
                      have b7z1 := blk_frozen BK7.out 1
                      have b7z2 := blk_frozen BK7.out 2
                      have b7z3 := blk_frozen BK7.out 3
                      have b7z4 := blk_frozen BK7.out 4
                      have b7z5 := blk_frozen BK7.out 5
                      have HQ7 := Aside0.mk hp
                      have HG7 := Aside0.mk (HG5.out.trans hg5)
                      have HNX := Aside0.mk hnx
                      have HFX := Aside0.mk (Kd.F_mono hfx (ok' := fun q => w.heap.size < q ∧ q ≠ w2.heap.size) (fun q hq => by have h1 : w5.heap.size ≤ q := hq; exact ⟨by omega, by omega⟩))
                      clear hg hg5 ho hp hnx hfx
                      refine hK.out _ _ ⟨b7c0, b7c1, b7c2, b7c3, b7c4, b7c5⟩ (fun hHeld => ?_)
                      clear hK K
                      refine norm_ (a' := ?_) ?_ ?_
                      rotate_left
                      · show Act.put _ (some 41) _ = _
                        simp only [Act.put, List.setIfInBounds_toArray, List.set_cons_zero, List.set_cons_succ, i64_w, i32_w]
                        rfl
                      refine one_ (i := 6) (N := some 42) #[true, true, true, true, true, true, true, false, false] rfl rfl (by kernel_rfl) (by decide) (fun K hK => ?_)
                      refine value_ (v := .slice (some ⟨w7.heap.size, 0, none⟩) 2 2) (w1 := w7.alloc (.cells (cells43 e A n ++ cells43 x Ax nx).toArray 43)) (by rfl) rfl ?_ ?_
                      · unfold cells43
                        go_simp
                      refine hK.out _ _ ⟨blkc_alloc BK7.out 0 rfl, blkc_alloc BK7.out 1 rfl, blkc_alloc BK7.out 2 rfl, blkc_alloc BK7.out 3 rfl, blkc_alloc BK7.out 4 rfl, blkc_alloc BK7.out 5 rfl⟩ (fun hHeld => ?_)
                      clear hK K
                      refine norm_ (a' := ?_) ?_ ?_
                      rotate_left
                      · show Act.put _ (some 42) _ = _
                        simp only [Act.put, List.setIfInBounds_toArray, List.set_cons_zero, List.set_cons_succ, i64_w, i32_w]
                        rfl
                      refine one_ (i := 7) (N := some 43) #[true, true, true, true, true, true, true, true, false] rfl rfl (by kernel_rfl) (by decide) (fun K hK => ?_)
                      refine goes_ Tryz.func369 (by kernel_rfl) rfl #[.string s, .slice (some ⟨w7.heap.size, 0, none⟩) 2 2] (by rfl) rfl rfl (by (try simp only [List.map_toArray, List.map_cons, List.map_nil]); first | done | rfl) ?_
                      refine (op_calls _ _ _ _ _).mono ?_
                      rintro e8 w8 ⟨rfl, o8, rfl⟩
                      refine ⟨_, rfl, ?_⟩
                      refine hK.out _ _ ⟨blkc_alloc (blk_alloc BK7.out _) 0 rfl, blkc_alloc (blk_alloc BK7.out _) 1 rfl, blkc_alloc (blk_alloc BK7.out _) 2 rfl, blkc_alloc (blk_alloc BK7.out _) 3 rfl, blkc_alloc (blk_alloc BK7.out _) 4 rfl, blkc_alloc (blk_alloc BK7.out _) 5 rfl⟩ (fun hHeld => ?_)
                      clear hK K
                      refine norm_ (a' := ?_) ?_ ?_
                      rotate_left
                      · show Act.put _ (some 43) _ = _
                        simp only [Act.put, List.setIfInBounds_toArray, List.set_cons_zero, List.set_cons_succ, i64_w, i32_w]
                        rfl
                      refine last_ (i := 8) (N := none) #[true, true, true, true, true, true, true, true, true] rfl rfl (by kernel_rfl) (by decide) (fun K hK => ?_)
                      have hb7 : w2.heap.size < w7.heap.size := blk_lt BK7.out
                      refine skip_ (w1 := ((((((((w7.alloc (.cells (cells43 e A n ++ cells43 x Ax nx).toArray 43)).alloc o8).setCell ⟨w2.heap.size, 0, none⟩ (.string s)).setCell ⟨w2.heap.size, 1, none⟩ (.int .i64 0)).setCell ⟨w2.heap.size, 2, none⟩ (.int .i64 0)).setCell ⟨w2.heap.size, 3, none⟩ (.string ⟨#[]⟩)).setCell ⟨w2.heap.size, 4, none⟩ (.string ⟨#[]⟩)).setCell ⟨w2.heap.size, 5, none⟩ (.slice (some ⟨w7.heap.size, 0, none⟩) 2 2))) (by rfl) rfl ?_ ?_
                      · unfold cells43
                        go_simp
                      refine hK.out _ _ ?_
                      clear hK K
                      refine done_ (by kernel_rfl) ?_
                      go_wp2
                      go_roundg j
                      case measure => have := HL.out; omega
                      case rel =>
                        refine ⟨Ps.op s [e, x], some ⟨w7.heap.size, 0, none⟩, 2, r6, HM, ⟨by have := HL.out; have := (Ps.nx_len HN5.out).1; have := Ps.expr_len HX.out; omega⟩, ⟨by have := HK.out; omega⟩, ⟨blk_put6 (blk_alloc (blk_alloc BK7.out _) _)⟩, ?_, ⟨Nat.le_refl _⟩, ?_, ?_, ?_⟩
                        · exact ⟨by with_reducible (repeat (first | exact blk_alloc (blk_alloc BR7.out _) _ | refine blk_setNe ?_ (by omega) _ _))⟩
                        · refine ⟨F_two (x := e) (y := x) (A := A) (c := n) (A' := Ax) (c' := nx) ?_ ⟨by omega, by omega⟩ HN.out ?_ HNX.out ?_⟩
                          · with_reducible (repeat (first | exact blk_alloc (new_blk _ rfl) _ | refine blk_setNe ?_ (by omega) _ _))
                          · with_reducible (repeat (first | exact Kd.F_alloc (Kd.F_alloc HE7.out _) _ | refine Kd.F_far ?_ (fun q hq => hq.2) _))
                          · with_reducible (repeat (first | exact Kd.F_alloc (Kd.F_alloc HFX.out _) _ | refine Kd.F_far ?_ (fun q hq => hq.2) _))
                        · exact ⟨by with_reducible (repeat (first | exact (HQ7.out.alloc _).alloc _ | refine PS.setB ?_ (by omega) (by omega) _ _))⟩
                        · exact ⟨by with_reducible (repeat (first | exact (HG7.out.alloc _).alloc _ | refine Gr.setB ?_ (by omega) _ _))⟩
end Go.Proofs.YtcgdncpioafbdaaGreatDoor.Q

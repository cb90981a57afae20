/- The library's functions that this seat calls, by the shelf's contracts, in the shape in which the seat's printed walks meet a callee. -/
import Derived.Test.YtcgdncpioafbdaaGreatDoorLeafF
import Derived.Test.YtcgdncpioafbdaaGreatDoorLib
import Derived.Test.YtcgdncpioafbdaaGreatDoorCut
import Derived.Test.YtcgdncpioafbdaaGreatDoorGV
import Derived.Test.YtcgdncpioafbdaaGreatDoorWWords
import Derived.Lib.ReplaceLaws
import Derived.Lib.SlTrimSet
import Derived.Lib.AppendIntMem
namespace Go.Proofs.YtcgdncpioafbdaaGreatDoor.Q
open Go Go.RowKit Go.Proofs.YtcgdncpioafbdaaGreatDoorW.PrintWords

theorem below_drewN' (w : World) (n : Nat) : Below w.heap.size w (w.drewN n) := pw_below_drewN (Below.refl _ _) n

theorem strings_TrimLeft.calls (a0 a1 r : ByteArray) (w : World) (h : strings_TrimLeft.f a0 a1 = some r) :
    Calls Tryz.prog 117 #[.string a0, .string a1] w fun e w' => e = .returned (.string r) ∧ Below w.heap.size w w' := by
  unfold strings_TrimLeft.f at h
  split at h
  · rename_i hc
    cases h
    have e : a1 = ⟨#[32, 9, 10, 13]⟩ := ba_ext hc
    subst e
    have c := Any.strings_TrimLeft_laid Tryz.lays161 (by kernel_rfl) a0 ⟨#[32, 9, 10, 13]⟩ w (by decide) (ascii_of_all (by decide))
    exact c
  · cases h

theorem strings_HasPrefix.calls (a0 a1 : ByteArray) (r : Bool) (w : World) (h : strings_HasPrefix.f a0 a1 = some r) :
    Calls Tryz.prog 118 #[.string a0, .string a1] w fun e w' => e = .returned (.bool r) ∧ Drawn0 w w' := by
  cases h
  refine (Tryz.strings_HasPrefix a0 a1 w).mono ?_
  rintro e w' ⟨rfl, rfl⟩
  exact ⟨rfl, Drawn0.refl _⟩

theorem index_one (l : List UInt8) (c : UInt8) : (Lib.index l [c] = -1 ∧ l.takeWhile (· != c) = l ∧ l.dropWhile (· != c) = [] ∧ l.contains c = false) ∨ ∃ i : Nat, Lib.index l [c] = i ∧ l.take i = l.takeWhile (· != c) ∧ l.drop (i + 1) = (l.dropWhile (· != c)).drop 1 ∧ l.contains c = true := by
  induction l with
  | nil => exact .inl ⟨rfl, rfl, rfl, rfl⟩
  | cons b l ih =>
    by_cases hb : b = c
    · subst hb
      refine .inr ⟨0, ?_, ?_, ?_, ?_⟩ <;> simp [Lib.index]
    · have hp : [c].isPrefixOf (b :: l) = false := by simp [List.isPrefixOf, Ne.symm hb]
      have hbc : (b != c) = true := by simpa using hb
      have hcb : (c == b) = false := by simpa using Ne.symm hb
      rcases ih with ⟨h1, h2, h3, h4⟩ | ⟨i, h1, h2, h3, h4⟩
      · refine .inl ⟨by simp [Lib.index, hp, h1], by simp [List.takeWhile, hbc, h2], by simp [List.dropWhile, hbc, h3], by rw [List.contains_cons, hcb, h4]; rfl⟩
      · refine .inr ⟨i + 1, ?_, ?_, ?_, ?_⟩
        · have hne : (Lib.index l [c] == -1) = false := by rw [h1]; simp
          simp [Lib.index, hp, h1]
        · simp [List.takeWhile, hbc, h2]
        · simp only [List.drop_succ_cons, List.dropWhile, hbc, h3]
        · rw [List.contains_cons, h4]; simp

theorem strings_Cut.calls (a0 a1 r1 r2 : ByteArray) (r3 : Bool) (w : World) (h : strings_Cut.f a0 a1 = some (r1, r2, r3)) (hG : GV w) :
    Calls Tryz.prog 119 #[.string a0, .string a1] w fun e w' => e = .returned (.tuple #[.string r1, .string r2, .bool r3]) ∧ Below w.heap.size w w' := by
  unfold strings_Cut.f at h
  split at h
  · rename_i hc
    split at h
    · rename_i hs
      cases h
      have e : a1 = ⟨#[10]⟩ := ba_ext hc
      subst e
      obtain ⟨m, hm⟩ := hG.max
      refine (Tryz.strings_Cut a0 ⟨#[10]⟩ m w hs hm).mono ?_
      rintro e w' ⟨rfl, n, rfl⟩
      refine ⟨?_, below_drewN' _ _⟩
      have hcut : Lib.cut a0.data.toList [10] = (a0.data.toList.takeWhile (· != 10), (a0.data.toList.dropWhile (· != 10)).drop 1, a0.data.toList.contains 10) := by
        unfold Lib.cut
        rcases index_one a0.data.toList 10 with ⟨h1, h2, h3, h4⟩ | ⟨i, h1, h2, h3, h4⟩
        · rw [h1, if_neg (by decide), h2, h3, h4]; rfl
        · rw [h1, if_pos (by omega), h4]; simp only [Int.toNat_natCast, List.length_cons, List.length_nil, Nat.zero_add]; rw [h2, h3]
      have hcut' : Lib.cut a0.data.toList (⟨#[10]⟩ : ByteArray).data.toList = _ := hcut
      rw [hcut']
      rfl
    · cases h
  · cases h

theorem strings_IndexByte.calls (a0 : ByteArray) (a1 r : Int) (w : World) (h : strings_IndexByte.f a0 a1 = some r) :
    Calls Tryz.prog 120 #[.string a0, .int .u8 a1] w fun e w' => e = .returned (.int .i64 r) ∧ Drawn0 w w' := by
  cases h
  refine (Tryz.strings_IndexByte a0 a1 w).mono ?_
  rintro e w' ⟨rfl, rfl⟩
  exact ⟨rfl, Drawn0.refl _⟩

theorem lex_cutLeft.calls (a0 a1 r : ByteArray) (w : World) (h : lex_cutLeft.f a0 a1 = some r) :
    Calls Tryz.prog 203 #[.string a0, .string a1] w fun e w' => e = .returned (.string r) ∧ Below w.heap.size w w' := by
  unfold lex_cutLeft.f at h
  split at h
  · rename_i hc
    split at h
    · rename_i hs
      cases h
      exact cut_walk a0 a1 hs (asciiSet_of hc) w
    · cases h
  · cases h

theorem strings_ToLower.calls (a0 r : ByteArray) (w : World) (h : strings_ToLower.f a0 = some r) :
    Calls Tryz.prog 122 #[.string a0] w fun e w' => e = .returned (.string r) ∧ Below w.heap.size w w' := by
  unfold strings_ToLower.f at h
  split at h
  · rename_i hc
    split at h
    · rename_i hs
      cases h
      refine (Tryz.strings_ToLower_ascii a0 w hs (fun j b hb => ?_)).mono ?_
      · have := List.all_eq_true.1 hc b (List.mem_of_getElem? hb)
        simpa using this
      · rintro e w' ⟨rfl, hb⟩
        refine ⟨?_, hb⟩
        have e1 : Lib.toLowerA a0.data.toList = a0.data.toList.map Lx.lowerB := by
          unfold Lib.toLowerA
          refine List.map_congr_left (fun b _ => ?_)
          simp [Lib.lowerB, Lib.isUpperB, Lx.lowerB]
        rw [e1]
        rfl
    · cases h
  · cases h

theorem dupQ_split (l : List UInt8) : dupQ l = if l.contains 39 then l.takeWhile (· != 39) ++ 39 :: 39 :: dupQ ((l.dropWhile (· != 39)).drop 1) else l := by
  induction l with
  | nil => rfl
  | cons c r ih =>
    by_cases hc : c = 39
    · subst hc
      simp [dupQ]
    · have h1 : (c == 39) = false := by simpa using hc
      have h2 : (c != 39) = true := by simpa using hc
      have h3 : ((39 : UInt8) == c) = false := by simpa using Ne.symm hc
      rw [dupQ, h1, List.contains_cons, h3, Bool.false_or, ih]
      simp only [Bool.false_eq_true, if_false, List.takeWhile, List.dropWhile, h2]
      by_cases h4 : r.contains 39 = true
      · rw [if_pos h4, if_pos h4, List.cons_append]
      · rw [if_neg h4, if_neg h4]
theorem replace_quote : ∀ (n : Nat) (l : List UInt8), l.length ≤ n → Lib.replaceK [39] [39, 39] (Lib.count l [39]) l = dupQ l := by
  intro n
  induction n with
  | zero =>
    intro l hl
    obtain rfl : l = [] := List.eq_nil_of_length_eq_zero (by omega)
    rfl
  | succ n ih =>
    intro l hl
    rcases index_one l 39 with ⟨h1, h2, h3, h4⟩ | ⟨i, h1, h2, h3, h4⟩
    · rw [Lib.count_miss h1, dupQ_split, h4]
      rfl
    · rw [Lib.count_hit (by simp) h1, Nat.add_comm, Lib.replaceK_hit _ _ _ _ _ h1]
      simp only [List.length_cons, List.length_nil, Nat.zero_add]
      rw [ih _ (by simp; omega), dupQ_split l, h4, if_pos rfl, h2, h3]
      simp
theorem replaceAll_quote (l : List UInt8) : Lib.replaceAll l [39] [39, 39] = dupQ l := by
  unfold Lib.replaceAll Lib.replace
  rw [if_neg (by decide)]
  unfold Lib.replaceNum
  rw [if_pos (.inl (by decide))]
  exact replace_quote _ l (Nat.le_refl _)

theorem strings_ReplaceAll.calls (a0 a1 a2 r : ByteArray) (w : World) (h : strings_ReplaceAll.f a0 a1 a2 = some r) (hG : GV w) :
    Calls Tryz.prog 65 #[.string a0, .string a1, .string a2] w fun e w' => e = .returned (.string r) ∧ Below w.heap.size w w' := by
  unfold strings_ReplaceAll.f at h
  split at h
  · rename_i h1
    split at h
    · rename_i h2
      split at h
      · rename_i hs
        cases h
        have e1 : a1 = ⟨#[39]⟩ := ba_ext h1
        have e2 : a2 = ⟨#[39, 39]⟩ := ba_ext h2
        subst e1 e2
        obtain ⟨m, hm⟩ := hG.max
        have hle := Lib.countB_mul_le ⟨#[39]⟩ (by decide) a0.size a0 (Nat.le_refl _)
        have hs1 : (⟨#[39]⟩ : ByteArray).size = 1 := rfl
        have hs2 : (⟨#[39, 39]⟩ : ByteArray).size = 2 := rfl
        refine (Tryz.strings_ReplaceAll a0 ⟨#[39]⟩ ⟨#[39, 39]⟩ m w hs hm (by decide) (by rw [hs1] at hle; rw [hs2]; omega)).mono ?_
        rintro e w' ⟨rfl, hb⟩
        refine ⟨?_, hb⟩
        have e3 := replaceAll_quote a0.data.toList
        have e4 : Lib.replaceAll a0.data.toList (⟨#[39]⟩ : ByteArray).data.toList (⟨#[39, 39]⟩ : ByteArray).data.toList = dupQ a0.data.toList := e3
        rw [e4]
        rfl
      · cases h
    · cases h
  · cases h

theorem digA_dec : ∀ (k n : Nat), n < 10 ^ k → digA k n = if k = 0 then [] else Lib.decDigits n
  | 0, n, h => rfl
  | k + 1, n, h => by
    rw [digA, Lib.decDigits, if_neg (show ¬ k + 1 = 0 by omega)]
    by_cases h1 : n < 10
    · rw [if_pos h1, dif_pos h1]
    · rw [if_neg h1, dif_neg h1]
      have h2 : n / 10 < 10 ^ k := by rw [Nat.pow_succ] at h; omega
      rw [digA_dec k (n / 10) h2, if_neg]
      intro hk
      subst hk
      simp at h
      omega
theorem digits_dec (n : Nat) (h : n ≤ 9223372036854775807) : digits n = Lib.decDigits n := by
  unfold digits
  rw [digA_dec 20 n (by simp only [Nat.reducePow]; omega), if_neg (by decide)]

theorem strconv_FormatInt.calls (a0 a1 : Int) (r : ByteArray) (w : World) (h : strconv_FormatInt.f a0 a1 = some r) (hG : GV w) :
    Calls Tryz.prog 64 #[.int .i64 a0, .int .i64 a1] w fun e w' => e = .returned (.string r) ∧ Below w.heap.size w w' := by
  unfold strconv_FormatInt.f at h
  split at h
  · rename_i h1
    subst h1
    split at h
    · rename_i h0
      split at h
      · rename_i hh
        cases h
        refine (Tryz.strconv_FormatInt_10 a0 (by omega) hh w hG.pow).mono ?_
        rintro e w' ⟨rfl, k, os, rfl⟩
        refine ⟨?_, ?_⟩
        · have e1 : Lib.itoa a0 = digits a0.toNat := by
            unfold Lib.itoa
            rw [if_neg (by omega), digits_dec _ (by omega)]
          rw [e1]
          rfl
        · exact Lib.below_grow _ w (Nat.le_refl _) k os
      · cases h
    · cases h
  · cases h

theorem joinB_join (l : List (List UInt8)) : joinB l = Lib.join l [32] := by
  match l with
  | [] => rfl
  | [x] => simp [joinB, Lib.join_one]
  | x :: y :: r =>
    rw [joinB, Lib.join_cons, joinB_join (y :: r), Lib.join_cons]
    simp [Lib.joinTail]

theorem strings_Join.calls (A0 : Option Addr) (c0 : Nat) (l0 : List ByteArray) (a1 r : ByteArray) (w : World) (hr0 : Kd.C Kd.string w A0 l0.length l0) (hc0 : l0.length ≤ c0) (h : strings_Join.f l0 a1 = some r) :
    Calls Tryz.prog 66 #[.slice A0 l0.length c0, .string a1] w fun e w' => e = .returned (.string r) ∧ Below w.heap.size w w' := by
  unfold strings_Join.f at h
  split at h
  · rename_i h1
    split at h
    · rename_i h2
      split at h
      · rename_i h3
        cases h
        have e1 : a1 = ⟨#[32]⟩ := ba_ext h1
        subst e1
        rcases Nat.eq_zero_or_pos l0.length with h0 | h0
        · obtain rfl : l0 = [] := List.eq_nil_of_length_eq_zero h0
          refine (Tryz.strings_Join_none A0 c0 ⟨#[32]⟩ w).mono ?_
          rintro e w' ⟨rfl, rfl⟩
          exact ⟨rfl, Below.refl _ _⟩
        · obtain ⟨ad, rfl, hcells⟩ := hr0.2.2 h0
          have hcell : ∀ (j : Nat) x, l0[j]? = some x → w.cell? (ad.add j) = some (.string x) := by
            intro j x hj
            obtain ⟨c, hcl, hk, hc⟩ := hcells j x hj
            have e2 : c = [.string x] := hk
            subst e2
            have := hc 0 _ rfl
            simpa [Kd.string, Kd.scalar] using this
          obtain ⟨b, o, sp⟩ := ad
          have hsp : sp = none := by
            have := hcell 0 _ (List.getElem?_eq_getElem h0)
            unfold World.cell? Addr.add at this
            simp only [if_true] at this
            cases sp with
            | none => rfl
            | some k => revert this; split <;> simp
          subst hsp
          have hcell' : ∀ (j : Nat) x, l0[j]? = some x → w.cell? ⟨b, o + j, none⟩ = some (.string x) := by
            intro j x hj
            have := hcell j x hj
            have e2 : (⟨b, o, none⟩ : Addr).add j = ⟨b, o + j, none⟩ := by unfold Addr.add; split <;> simp_all
            rwa [e2] at this
          have hb : b < w.heap.size := World.block_lt_of_cell? w _ (hcell' 0 _ (List.getElem?_eq_getElem h0))
          refine (Tryz.strings_Join b o c0 l0 ⟨#[32]⟩ w hcell' hb h2 hc0 (by rw [joinB_join] at h3; exact h3)).mono ?_
          rintro e w' ⟨rfl, hbw⟩
          refine ⟨?_, hbw⟩
          rw [joinB_join]
          rfl
      · cases h
    · cases h
  · cases h
end Go.Proofs.YtcgdncpioafbdaaGreatDoor.Q

/- Plain facts on the program's own small functions (lex.run, lex.has, lex.skip, lex.word, lex.sign): they are the lexer's model. -/
import Derived.Test.YtcgdncpioafbdaaGreatDoorQlexD
import Derived.Test.YtcgdncpioafbdaaGreatDoorTokF
namespace Go.Proofs.YtcgdncpioafbdaaGreatDoor.Q
open Go Go.RowKit Go.Proofs.YtcgdncpioafbdaaGreatDoorW.PrintWords

theorem ba_ext' {a b : ByteArray} (h : a.data.toList = b.data.toList) : a = b := by
  cases a; cases b; simp at h; simpa using h

theorem all_bytes {p : UInt8 → Prop} [DecidablePred p] (h : ∀ n : Fin 256, p (UInt8.ofNat n)) (c : UInt8) : p c := by
  have := h ⟨c.toNat, c.toNat_lt⟩
  simpa using this

abbrev digB : ByteArray := ⟨#[48, 49, 50, 51, 52, 53, 54, 55, 56, 57]⟩
abbrev letB : ByteArray := ⟨#[97, 98, 99, 100, 101, 102, 103, 104, 105, 106, 107, 108, 109, 110, 111, 112, 113, 114, 115, 116, 117, 118, 119, 120, 121, 122, 65, 66, 67, 68, 69, 70, 71, 72, 73, 74, 75, 76, 77, 78, 79, 80, 81, 82, 83, 84, 85, 86, 87, 88, 89, 90]⟩
abbrev behB : ByteArray := ⟨#[97, 98, 99, 100, 101, 102, 103, 104, 105, 106, 107, 108, 109, 110, 111, 112, 113, 114, 115, 116, 117, 118, 119, 120, 121, 122, 65, 66, 67, 68, 69, 70, 71, 72, 73, 74, 75, 76, 77, 78, 79, 80, 81, 82, 83, 84, 85, 86, 87, 88, 89, 90, 48, 49, 50, 51, 52, 53, 54, 55, 56, 57, 95]⟩
theorem dig_is (c : UInt8) : digB.data.toList.contains c = Lx.isDigit c := all_bytes (p := fun c => digB.data.toList.contains c = Lx.isDigit c) (by decide +kernel) c
theorem let_is (c : UInt8) : letB.data.toList.contains c = Lx.isLetter c := all_bytes (p := fun c => letB.data.toList.contains c = Lx.isLetter c) (by decide +kernel) c
theorem beh_is (c : UInt8) : behB.data.toList.contains c = Lx.isPart c := all_bytes (p := fun c => behB.data.toList.contains c = Lx.isPart c) (by decide +kernel) c
theorem blank_is (c : UInt8) : ([32, 9, 10, 13] : List UInt8).contains c = Lx.isBlank c := all_bytes (p := fun c => ([32, 9, 10, 13] : List UInt8).contains c = Lx.isBlank c) (by decide +kernel) c

theorem indexByte_has (l : List UInt8) (c : UInt8) : -1 ≤ Lib.indexByte l c ∧ (0 ≤ Lib.indexByte l c ↔ l.contains c = true) := by
  induction l with
  | nil => simp [Lib.indexByte]
  | cons b l ih =>
    simp only [Lib.indexByte]
    by_cases hb : b = c
    · subst hb; simp
    · have h1 : (b == c) = false := by simpa using hb
      have h2 : (c == b) = false := by simpa using Ne.symm hb
      rw [h1, List.contains_cons, h2, Bool.false_or]
      simp only [Bool.false_eq_true, if_false]
      split
      · rename_i h3
        have h4 : Lib.indexByte l c = -1 := by simpa using h3
        refine ⟨by omega, ?_⟩
        rw [← ih.2]
        omega
      · rename_i h3
        have h4 : ¬ Lib.indexByte l c = -1 := by simpa using h3
        refine ⟨by omega, ?_⟩
        rw [← ih.2]
        omega
theorem has_is (set : ByteArray) (c : UInt8) : lex_has.f set (c.toNat : Int) = some (set.data.toList.contains c) := by
  unfold lex_has.f strings_IndexByte.f
  simp only [Option.bind_some, Int.toNat_natCast]
  have e : c.toNat.toUInt8 = c := by simp
  rw [e]
  have h := (indexByte_has set.data.toList c).2
  congr 1
  rw [Bool.eq_iff_iff, ← h]
  simp

theorem dropWhile_length {α} (p : α → Bool) (l : List α) : (l.dropWhile p).length + (l.takeWhile p).length = l.length := by
  have := congrArg List.length (List.takeWhile_append_dropWhile (p := p) (l := l))
  rw [List.length_append] at this
  omega
theorem takeWhile_cong {α} {p q : α → Bool} (h : ∀ x, p x = q x) (l : List α) : l.takeWhile p = l.takeWhile q := by rw [show p = q from funext h]

theorem run_is (s set : ByteArray) (hset : set.data.toList.all (fun x => x.toNat < 128) = true) (hs : s.size ≤ 4000) : lex_run.f s set = some (((s.data.toList.takeWhile (set.data.toList.contains ·)).length : Nat) : Int) := by
  unfold lex_run.f lex_cutLeft.f
  rw [if_pos hset, if_pos (by omega)]
  simp only [Option.bind_some]
  congr 1
  rw [ba_size]
  have h := dropWhile_length (set.data.toList.contains ·) s.data.toList
  have e : s.data.toList.length = s.size := by rw [Array.length_toList]; rfl
  unfold wrap64
  omega

theorem skip_true (l : List UInt8) : Lx.skipA true l = Lx.skipA false ((l.dropWhile (· != 10)).drop 1) := by
  induction l with
  | nil => rfl
  | cons c r ih =>
    by_cases hc : c = 10
    · subst hc; simp [Lx.skipA]
    · have h1 : (c == 10) = false := by simpa using hc
      have h2 : (c != 10) = true := by simpa using hc
      simp only [Lx.skipA, h1, List.dropWhile, h2, ih]
      rfl
theorem skip_false (l : List UInt8) : Lx.skipA false l = if ([45, 45] : List UInt8).isPrefixOf (l.dropWhile Lx.isBlank) then Lx.skipA false (((l.dropWhile Lx.isBlank).dropWhile (· != 10)).drop 1) else l.dropWhile Lx.isBlank := by
  induction l with
  | nil => rfl
  | cons c r ih =>
    by_cases hb : Lx.isBlank c = true
    · simp only [Lx.skipA, hb, if_true, List.dropWhile]
      exact ih
    · have hb' : Lx.isBlank c = false := by simpa using hb
      simp only [Lx.skipA, hb', List.dropWhile]
      by_cases hc : c = 45
      · subst hc
        cases r with
        | nil => rfl
        | cons d r =>
          by_cases hd : d = 45
          · subst hd
            simp [skip_true, List.isPrefixOf]
          · have h1 : ((45 : UInt8) == d) = false := by simpa using Ne.symm hd
            simp [List.isPrefixOf, hd, h1]
      · have h1 : ((45 : UInt8) == c) = false := by simpa using Ne.symm hc
        have h2 : (c == 45) = false := by simpa using hc
        simp [List.isPrefixOf, hc, h1]

theorem dropWhile_le {α} (p : α → Bool) (l : List α) : (l.dropWhile p).length ≤ l.length := (List.dropWhile_sublist p).length_le
theorem skip_is : ∀ (n k : Nat) (s : ByteArray), s.size ≤ n → n < k → s.size ≤ 4000 → lex_skip.f k s = some (ba (Lx.skipA false s.data.toList)) := by
  intro n
  induction n with
  | zero =>
    intro k s hs hk h4
    obtain ⟨k, rfl⟩ : ∃ m, k = m + 1 := ⟨k - 1, by omega⟩
    have e : s.data.toList = [] := by
      apply List.eq_nil_of_length_eq_zero
      rw [Array.length_toList]
      have : s.data.size = s.size := rfl
      omega
    unfold lex_skip.f
    simp only [lex_skip.l0, strings_TrimLeft.f, strings_HasPrefix.f, if_true, Option.bind_some, e, ba_data]
    rfl
  | succ n ih =>
    intro k s hs hk h4
    obtain ⟨k, rfl⟩ : ∃ m, k = m + 1 := ⟨k - 1, by omega⟩
    have hl : s.data.toList.length = s.size := by rw [Array.length_toList]; rfl
    have hb : ∀ l : List UInt8, l.dropWhile ([32, 9, 10, 13].contains ·) = l.dropWhile Lx.isBlank := fun l => by rw [show (([32, 9, 10, 13] : List UInt8).contains ·) = Lx.isBlank from funext blank_is]
    unfold lex_skip.f
    simp only [lex_skip.l0, strings_TrimLeft.f, strings_HasPrefix.f, if_true, Option.bind_some, ba_data, hb]
    rw [skip_false]
    by_cases hp : ([45, 45] : List UInt8).isPrefixOf (s.data.toList.dropWhile Lx.isBlank) = true
    · have hp' : (⟨#[45, 45]⟩ : ByteArray).data.toList.isPrefixOf (s.data.toList.dropWhile Lx.isBlank) = true := hp
      rw [if_pos hp', if_pos hp]
      have h1 := dropWhile_le Lx.isBlank s.data.toList
      have hlen : 0 < (s.data.toList.dropWhile Lx.isBlank).length := by
        rw [List.length_pos_iff]
        intro e
        rw [e] at hp
        simp at hp
      have hsz : (ba (s.data.toList.dropWhile Lx.isBlank)).size < 4294967281 := by rw [ba_size]; omega
      simp only [strings_Cut.f, if_true, if_pos hsz, Option.bind_some, ba_data]
      have h2 := dropWhile_le (· != 10) (s.data.toList.dropWhile Lx.isBlank)
      have h3 := ih k (ba (((s.data.toList.dropWhile Lx.isBlank).dropWhile (· != 10)).drop 1)) (by rw [ba_size, List.length_drop]; omega) (by omega) (by rw [ba_size, List.length_drop]; omega)
      unfold lex_skip.f at h3
      rw [h3, ba_data]
    · have hp' : ¬ (⟨#[45, 45]⟩ : ByteArray).data.toList.isPrefixOf (s.data.toList.dropWhile Lx.isBlank) = true := hp
      rw [if_neg hp', if_neg hp]

/-- What a reader of one token gives, field by field. -/
def tokFlat : Except Nat (Lx.Tk × Nat) → Int × ByteArray × Int × Int × Int
  | .ok (t, n) => (t.kind, ba t.s, t.n, n, 0)
  | .error e => (0, ⟨#[]⟩, 0, 0, e)

theorem take_takeWhile {α} (p : α → Bool) (l : List α) : l.take (l.takeWhile p).length = l.takeWhile p := by
  conv => lhs; arg 2; rw [← List.takeWhile_append_dropWhile (p := p) (l := l)]
  rw [List.take_left]
theorem part_ascii (c : UInt8) : Lx.isPart c = true → c.toNat < 128 := all_bytes (p := fun c => Lx.isPart c = true → c.toNat < 128) (by decide +kernel) c
theorem mem_takeWhile {α} {p : α → Bool} {l : List α} {x : α} (h : x ∈ l.takeWhile p) : p x = true := by
  have := List.all_takeWhile (p := p) (l := l)
  exact List.all_eq_true.1 this x h

theorem word_is (s : ByteArray) (hs : s.size ≤ 4000) : lex_word.f s = some (tokFlat (Lx.wordA s.data.toList)) := by
  unfold lex_word.f
  have hr := run_is s behB (by decide +kernel) hs
  rw [takeWhile_cong beh_is] at hr
  have hr' : lex_run.f s (⟨#[97, 98, 99, 100, 101, 102, 103, 104, 105, 106, 107, 108, 109, 110, 111, 112, 113, 114, 115, 116, 117, 118, 119, 120, 121, 122, 65, 66, 67, 68, 69, 70, 71, 72, 73, 74, 75, 76, 77, 78, 79, 80, 81, 82, 83, 84, 85, 86, 87, 88, 89, 90, 48, 49, 50, 51, 52, 53, 54, 55, 56, 57, 95]⟩ : ByteArray) = _ := hr
  rw [hr']
  simp only [Option.bind_some]
  unfold Lx.wordA
  have hl : s.data.toList.length = s.size := by rw [Array.length_toList]; rfl
  have hle := Lx.takeWhile_le Lx.isPart s.data.toList
  by_cases h30 : (s.data.toList.takeWhile Lx.isPart).length > 30
  · rw [if_pos (by omega), if_pos h30]
    rfl
  · rw [if_neg (by omega), if_neg h30, if_pos (by omega), if_pos (by omega)]
    have he : (s.extract 0 (((s.data.toList.takeWhile Lx.isPart).length : Nat) : Int).toNat).data.toList = s.data.toList.takeWhile Lx.isPart := by
      rw [Lib.extract_data, Int.toNat_natCast, List.drop_zero, Nat.sub_zero, take_takeWhile]
    have hsz : (s.extract 0 (((s.data.toList.takeWhile Lx.isPart).length : Nat) : Int).toNat).size = (s.data.toList.takeWhile Lx.isPart).length := by
      have e : ∀ b : ByteArray, b.size = b.data.toList.length := fun b => by rw [Array.length_toList]; rfl
      rw [e, he]
    unfold strings_ToLower.f
    rw [he, if_pos, if_pos (by rw [hsz]; omega)]
    · simp only [Option.bind_some]
      rfl
    · rw [List.all_eq_true]
      intro x hx
      have := part_ascii x (mem_takeWhile hx)
      simpa using this

theorem bt_of (s : ByteArray) (i : Nat) (c : UInt8) (h : s.data.toList[i]? = some c) : bt s (i : Int) = (c.toNat : Int) := by
  have hi : i < s.data.toList.length := (List.getElem?_eq_some_iff.1 h).1
  have hl : s.data.toList.length = s.size := by rw [Array.length_toList]; rfl
  unfold bt
  rw [dif_pos (show (i : Int).toNat < s.size by rw [Int.toNat_natCast]; omega)]
  congr 2
  obtain ⟨h1, h2⟩ := List.getElem?_eq_some_iff.1 h
  exact h2
theorem ba_take (s : ByteArray) (n : Nat) : s.extract 0 n = ba (s.data.toList.take n) := by
  apply ba_ext'
  rw [Lib.extract_data, ba_data, List.drop_zero, Nat.sub_zero]

abbrev oneB : ByteArray := ⟨#[40, 41, 44, 42, 43, 45, 47, 37, 61, 60, 62, 59]⟩
theorem sign_j (s : ByteArray) (c : UInt8) (hc : s.data.toList[0]? = some c) (x : ByteArray) (b : Bool) :
    lex_sign.j0 1 s x b = if b = true then some (4, x, 0, 2, 0) else if Lx.ones.contains c then some (4, ba [c], 0, 1, 0) else some (0, ⟨#[]⟩, 0, 0, 20) := by
  have hb0 := bt_of s 0 c hc
  have hi : 0 < s.data.toList.length := (List.getElem?_eq_some_iff.1 hc).1
  have hl : s.data.toList.length = s.size := by rw [Array.length_toList]; rfl
  have hh : lex_has.f (⟨#[40, 41, 44, 42, 43, 45, 47, 37, 61, 60, 62, 59]⟩ : ByteArray) (bt s 0) = some (Lx.ones.contains c) := by
    rw [show bt s 0 = (c.toNat : Int) from hb0]
    exact has_is oneB c
  simp only [lex_sign.j0]
  cases b with
  | true => rfl
  | false =>
    simp only [Bool.false_eq_true, if_false]
    rw [if_pos (by omega), hh]
    simp only [Option.bind_some]
    by_cases ho : Lx.ones.contains c = true
    · rw [if_pos ho, if_pos ho, if_pos (by decide), if_pos (by omega), ba_take]
      congr 3
      have : s.data.toList.take 1 = [c] := by
        cases hq : s.data.toList with
        | nil => rw [hq] at hi; simp at hi
        | cons q r => rw [hq] at hc; simp at hc; subst hc; rfl
      rw [this]
    · rw [if_neg ho, if_neg ho]

theorem sign_of (s : ByteArray) (c : UInt8) (r : List UInt8) (hl : s.data.toList = c :: r) : lex_sign.f 1 s = some (tokFlat (Lx.signT s.data.toList)) := by
  have hsz : s.size = r.length + 1 := by
    have : s.data.toList.length = s.size := by rw [Array.length_toList]; rfl
    rw [hl] at this
    simpa using this.symm
  have hc : s.data.toList[0]? = some c := by rw [hl]; rfl
  have hj := sign_j s c hc
  have hb0 := bt_of s 0 c hc
  have hh : lex_has.f (⟨#[40, 41, 44, 42, 43, 45, 47, 37, 61, 60, 62, 59]⟩ : ByteArray) (bt s 0) = some (Lx.ones.contains c) := by
    rw [show bt s 0 = (c.toNat : Int) from hb0]
    exact has_is oneB c
  unfold lex_sign.f
  cases r with
  | nil =>
    simp only [List.length_nil, Nat.zero_add] at hsz
    rw [if_neg (by omega), if_pos (by omega), hh]
    simp only [Option.bind_some]
    unfold Lx.signT Lx.signA
    rw [hl]
    have h1 : Lx.twos.contains (List.take 2 [c]) = false := by simp [Lx.twos]
    rw [h1]
    simp only [Bool.false_eq_true, if_false]
    by_cases ho : Lx.ones.contains c = true
    · rw [if_pos ho, if_pos ho, if_pos (by decide), if_pos (by omega), ba_take, hl]
      rfl
    · rw [if_neg ho, if_neg ho]
      rfl
  | cons d r =>
    have h2 : (s.extract 0 2).toList = [c, d] := by rw [Lib.toList_data, ba_take, ba_data, hl]; rfl
    have hx : s.extract 0 2 = ba [c, d] := by rw [ba_take, hl]; rfl
    simp only [List.length_cons] at hsz
    rw [if_pos (by omega), if_pos (by decide), if_pos (by omega), h2]
    simp only [hj, hx]
    unfold Lx.signT Lx.signA
    rw [hl]
    simp only [List.take_succ_cons, List.take_zero]
    have ht : Lx.twos.contains [c, d] = (([c, d] == [60, 61]) || (([c, d] == [62, 61]) || (([c, d] == [60, 62]) || ([c, d] == [124, 124])))) := by simp only [Lx.twos, List.contains_cons, List.contains_nil, Bool.or_false]
    simp only [ht]
    by_cases e1 : [c, d] = [60, 61]
    · rw [if_pos e1, e1]; rfl
    · rw [if_neg e1]
      have f1 : ([c, d] == [60, 61]) = false := by simpa using e1
      by_cases e2 : [c, d] = [62, 61]
      · rw [if_pos e2, e2]; rfl
      · rw [if_neg e2]
        have f2 : ([c, d] == [62, 61]) = false := by simpa using e2
        by_cases e3 : [c, d] = [60, 62]
        · rw [if_pos e3, e3]; rfl
        · rw [if_neg e3]
          have f3 : ([c, d] == [60, 62]) = false := by simpa using e3
          rw [f1, f2, f3]
          simp only [Bool.false_or]
          by_cases e4 : ([c, d] == [124, 124]) = true
          · rw [if_pos e4, if_pos e4]; rfl
          · rw [if_neg e4, if_neg e4]
            by_cases ho : Lx.ones.contains c = true
            · rw [if_pos ho, if_pos ho]; rfl
            · rw [if_neg ho, if_neg ho]; rfl
end Go.Proofs.YtcgdncpioafbdaaGreatDoor.Q

/- Plain law: LexTexts. -/
import Derived.Test.YtcgdncpioafbdaaGreatDoorPlU
import Derived.Test.YtcgdncpioafbdaaGreatDoorPiece
namespace Go.Proofs.YtcgdncpioafbdaaGreatDoor.Q
open Go Go.RowKit Go.Proofs.YtcgdncpioafbdaaGreatDoorW.PrintWords

/-- A token's letters, of any token. -/
def piece32 (t : S32) : List UInt8 := if t.f0 = 2 then digits (mx t.f2 0).toNat else if t.f0 = 3 then 39 :: (dupQ t.f1.data.toList ++ [39]) else t.f1.data.toList

theorem dupQ_le : ∀ l : List UInt8, (dupQ l).length ≤ 2 * l.length
  | [] => by simp [dupQ]
  | c :: r => by
    have := dupQ_le r
    simp only [dupQ]
    split <;> simp <;> omega
theorem digits_le (n : Nat) (h : n < 10 ^ 20) : (digits n).length ≤ 20 := Lx.digA_len 20 n (by decide) h
theorem mx_le {x : Int} (h : x ≤ 9223372036854775807) : 0 ≤ mx x 0 ∧ mx x 0 ≤ 9223372036854775807 := by
  unfold mx; split <;> omega
theorem piece32_le (t : S32) (h2 : t.f2 ≤ 9223372036854775807) (h1 : t.f1.size ≤ 500) : (piece32 t).length ≤ 1002 := by
  unfold piece32
  split
  · have := mx_le h2
    have := digits_le (mx t.f2 0).toNat (Lx.pow20 (by omega))
    omega
  · split
    · have := dupQ_le t.f1.data.toList
      rw [len_data] at this
      simp; omega
    · rw [len_data]; omega

theorem joinB_snoc : ∀ (xs : List (List UInt8)) (y : List UInt8), joinB (xs ++ [y]) = if xs = [] then y else joinB xs ++ 32 :: y
  | [], y => rfl
  | [x], y => rfl
  | x :: z :: r, y => by
    have ih := joinB_snoc (z :: r) y
    rw [if_neg (by simp)] at ih ⊢
    show x ++ 32 :: joinB (z :: r ++ [y]) = (x ++ 32 :: joinB (z :: r)) ++ 32 :: y
    rw [ih]
    simp
theorem joinB_le (c : Nat) : ∀ (xs : List (List UInt8)), (∀ x ∈ xs, x.length ≤ c) → (joinB xs).length ≤ xs.length * (c + 1)
  | [], _ => by simp [joinB]
  | x :: r, h => by
    have h1 := Lx.joinB_len x r
    have h2 := joinB_le c r (fun y hy => h y (by simp [hy]))
    have h3 := h x (by simp)
    rw [List.length_cons, Nat.succ_mul]
    omega

/-- What both texts of tokens are. -/
def textOf (l : List S32) : ByteArray := ba (joinB ((l.takeWhile (fun t => t.f0 != 0)).map piece32))

theorem ba_app (a b : List UInt8) : ba a ++ ba b = ba (a ++ b) := ba_ext' (by simp [ba])
theorem ba_lit (l : List UInt8) : (⟨l.toArray⟩ : ByteArray) = ba l := rfl

theorem tw_take {α} (p : α → Bool) : ∀ (l : List α) (i : Nat), (∀ x ∈ l.take i, p x = true) → i ≤ l.length → (∀ h : i < l.length, p l[i] = false) → l.takeWhile p = l.take i
  | [], i, _, _, _ => by simp
  | c :: r, 0, _, _, h => by
    have hc : p c = false := h (by simp)
    simp [List.takeWhile, hc]
  | c :: r, i + 1, h, hi, hn => by
    have hc := h c (by simp)
    simp only [List.takeWhile, hc, List.take_succ_cons]
    rw [tw_take p r i (fun x hx => h x (by simp [hx])) (by simpa using hi) (fun hh => hn (by simpa using hh))]
theorem take_snoc {α} (l : List α) (i : Nat) (h : i < l.length) : l.take (i + 1) = l.take i ++ [l[i]] := by rw [List.take_succ_eq_append_getElem h]
theorem rd_at (l : List S32) (i : Nat) (h : i < l.length) : rd_T32 l (i : Int) = l[i] := by
  unfold rd_T32
  simp [h]

structure Sane (l : List S32) : Prop where
  len : l.length ≤ 4000
  n : ∀ t ∈ l, t.f2 ≤ 9223372036854775807
  s : ∀ t ∈ l, t.f1.size ≤ 500

theorem joinF (l : List S32) (i : Nat) (h : Sane l) : strings_Join.f ((l.take i).map fun t => ba (piece32 t)) (⟨#[32]⟩ : ByteArray) = some (ba (joinB ((l.take i).map piece32))) := by
  have e : ((l.take i).map fun t => ba (piece32 t)).map (·.data.toList) = (l.take i).map piece32 := by
    rw [List.map_map]
    apply List.map_congr_left
    intro t _
    simp [ba_data]
  have h1 : ((l.take i).map piece32).length ≤ 4000 := by
    rw [List.length_map, List.length_take]
    have := h.len
    omega
  have h2 := joinB_le 1002 ((l.take i).map piece32) (fun x hx => by
    obtain ⟨t, ht, rfl⟩ := List.mem_map.1 hx
    have ht' := List.mem_of_mem_take ht
    exact piece32_le t (h.n t ht') (h.s t ht'))
  unfold strings_Join.f
  rw [e, if_pos rfl, if_pos (by rw [List.length_map, List.length_take]; have := h.len; omega), if_pos (by omega)]

theorem lexText_l : ∀ (n k : Nat) (l : List S32) (i : Nat), l.length - i = n → n < k → i ≤ l.length → Sane l → (∀ t ∈ l.take i, t.f0 ≠ 0) →
    lex_Text.l0 k ((l.take i).map fun t => ba (piece32 t)) l (l.length : Int) (i : Int) = some (textOf l) := by
  intro n
  induction n with
  | zero =>
    intro k l i h1 h2 h3 hs h0
    obtain ⟨k, rfl⟩ : ∃ m, k = m + 1 := ⟨k - 1, by omega⟩
    rw [lex_Text.l0, if_neg (by omega), joinF l i hs]
    simp only [Option.bind_some]
    unfold textOf
    rw [tw_take _ l i (fun x hx => by simpa using h0 x hx) h3 (fun hh => by omega)]
  | succ n ih =>
    intro k l i h1 h2 h3 hs h0
    obtain ⟨k, rfl⟩ : ∃ m, k = m + 1 := ⟨k - 1, by omega⟩
    have hi : i < l.length := by omega
    have hlen := hs.len
    rw [lex_Text.l0, if_pos (by omega), if_pos (by omega), if_pos (by omega), rd_at l i hi]
    have hm : l[i] ∈ l := List.getElem_mem hi
    by_cases hk : l[i].f0 = 0
    · rw [if_pos hk, joinF l i hs]
      simp only [Option.bind_some]
      unfold textOf
      rw [tw_take _ l i (fun x hx => by simpa using h0 x hx) h3 (fun hh => by simpa using hk)]
    · have h0' : ∀ t ∈ l.take (i + 1), t.f0 ≠ 0 := by
        intro t ht
        rw [take_snoc l i hi] at ht
        rcases List.mem_append.1 ht with ht | ht
        · exact h0 t ht
        · rw [List.mem_singleton] at ht; subst ht; exact hk
      have step := ih k l (i + 1) (by omega) (by omega) (by omega) hs h0'
      rw [take_snoc l i hi, List.map_append, List.map_singleton] at step
      rw [show ((i + 1 : Nat) : Int) = (i : Int) + 1 by omega] at step
      have hxl : ((l.take i).map fun t => ba (piece32 t)).length < 8796093022208 := by rw [List.length_map, List.length_take]; omega
      rw [if_neg hk]
      by_cases hk2 : l[i].f0 = 2
      · have hm2 := mx_le (hs.n _ hm)
        have hp : ba (piece32 l[i]) = ba (digits (mx l[i].f2 0).toNat) := by unfold piece32; rw [if_pos hk2]
        rw [if_pos hk2]
        unfold strconv_FormatInt.f
        rw [if_pos rfl, if_pos hm2.1, if_pos hm2.2]
        simp only [Option.bind_some]
        rw [if_pos hxl, w64 (by omega) (by omega), ← hp]
        exact step
      · rw [if_neg hk2]
        by_cases hk3 : l[i].f0 = 3
        · have hsz := hs.s _ hm
          have hd := dupQ_le l[i].f1.data.toList
          rw [len_data] at hd
          have hp : ba (piece32 l[i]) = ((⟨#[39]⟩ : ByteArray) ++ ba (dupQ l[i].f1.data.toList)) ++ (⟨#[39]⟩ : ByteArray) := by
            unfold piece32; rw [if_neg hk2, if_pos hk3]
            apply ba_ext'
            simp [ba]
          have hsz1 : ((⟨#[39]⟩ : ByteArray) ++ ba (dupQ l[i].f1.data.toList)).size = 1 + (dupQ l[i].f1.data.toList).length := by rw [ByteArray.size_append, ba_size]; rfl
          rw [if_pos hk3]
          unfold strings_ReplaceAll.f
          rw [if_pos rfl, if_pos rfl, if_pos (by omega)]
          simp only [Option.bind_some]
          rw [if_pos (by rw [ba_size]; omega), if_pos (by omega), if_pos hxl, w64 (by omega) (by omega), ← hp]
          exact step
        · have hp : ba (piece32 l[i]) = l[i].f1 := by unfold piece32; rw [if_neg hk2, if_neg hk3, ba_of]
          rw [if_neg hk3, if_pos hxl, w64 (by omega) (by omega)]
          rw [hp] at step
          exact step
theorem lexText_is (l : List S32) (k : Nat) (hk : l.length < k) (h : Sane l) : lex_Text.f k l = some (textOf l) := by
  have := lexText_l l.length k l 0 (by omega) hk (by omega) h (by simp)
  unfold lex_Text.f
  exact this

/-! ### The document's text -/
theorem refDigits : ∀ (j k n : Nat), 1 ≤ j → n < 10 ^ j → j ≤ k → j ≤ 100 → n ≤ 9223372036854775807 → vidimusref16_Digits.f k (n : Int) = some (ba (digA j n))
  | 0, k, n, h, _, _, _, _ => by omega
  | j + 1, k, n, _, h, hk, hj100, hn => by
    obtain ⟨k, rfl⟩ : ∃ m, k = m + 1 := ⟨k - 1, by omega⟩
    rw [vidimusref16_Digits.f]
    simp only [digA]
    have hx : ∀ m : Nat, m < 10 → strOfNums [wrap64 (48 + (m : Int)) % 256] = ba [UInt8.ofNat (48 + m)] := by
      intro m hm
      rw [w64 (by omega) (by omega)]
      have e : (48 + (m : Int)) % 256 = ((48 + m : Nat) : Int) := by omega
      rw [e]
      show ba [UInt8.ofNat (((48 + m : Nat) : Int)).toNat] = _
      rw [Int.toNat_natCast]
    by_cases h10 : n < 10
    · rw [if_pos (by omega), if_pos h10, hx n h10]
    · rw [if_neg (by omega), if_neg h10]
      have hj : 1 ≤ j := by
        rcases Nat.eq_zero_or_pos j with rfl | h1
        · simp at h; omega
        · exact h1
      have hq : Int.tdiv (n : Int) 10 = ((n / 10 : Nat) : Int) := by rw [Int.tdiv_eq_ediv_of_nonneg (by omega)]; omega
      have hr : Int.tmod (n : Int) 10 = ((n % 10 : Nat) : Int) := by rw [Int.tmod_eq_emod_of_nonneg (by omega)]; omega
      rw [hq, hr, w64 (by omega) (by omega), refDigits j k (n / 10) hj (by rw [Nat.pow_succ] at h; omega) (by omega) (by omega) (by omega)]
      simp only [Option.bind_some]
      rw [hx (n % 10) (Nat.mod_lt _ (by decide)), if_pos, ba_app]
      rw [ba_size, ba_size]
      have := Lx.digA_len j (n / 10) hj (by rw [Nat.pow_succ] at h; omega)
      simp
      omega

theorem dupQ_snoc (l : List UInt8) (c : UInt8) : dupQ (l ++ [c]) = dupQ l ++ (if c = 39 then [39, 39] else [c]) := by
  induction l with
  | nil =>
    by_cases hc : c = 39
    · subst hc; rfl
    · have : (c == 39) = false := by simpa using hc
      simp [dupQ, hc]
  | cons d r ih =>
    simp only [List.cons_append, dupQ, ih]
    split <;> simp
theorem take_get (s : ByteArray) (i : Nat) (h : i < s.size) : s.data.toList.take (i + 1) = s.data.toList.take i ++ [s[i]'h] := by
  have hl : i < s.data.toList.length := by rw [len_data]; exact h
  rw [take_snoc _ i hl]
  rfl
theorem one_byte (s : ByteArray) (i : Nat) (h : i < s.size) : s.extract i (i + 1) = ba [s[i]'h] := by
  apply ba_ext'
  rw [Lib.extract_data, drop_get s i h, ba_data]
  simp
theorem refQuoted_l : ∀ (n k : Nat) (s : ByteArray) (i : Nat), s.size - i = n → n < k → i ≤ s.size → s.size ≤ 500 →
    vidimusref16_Quoted.l0 k s (ba (39 :: dupQ (s.data.toList.take i))) (i : Int) = some (ba (39 :: (dupQ s.data.toList ++ [39]))) := by
  intro n
  induction n with
  | zero =>
    intro k s i h1 h2 h3 h4
    obtain ⟨k, rfl⟩ : ∃ m, k = m + 1 := ⟨k - 1, by omega⟩
    have hd := dupQ_le s.data.toList
    rw [len_data] at hd
    rw [vidimusref16_Quoted.l0, if_neg (by omega), List.take_of_length_le (by rw [len_data]; omega), if_pos (by rw [ba_size]; simp; omega)]
    show some (ba (39 :: dupQ s.data.toList) ++ ba [39]) = _
    rw [ba_app]
    rfl
  | succ n ih =>
    intro k s i h1 h2 h3 h4
    obtain ⟨k, rfl⟩ : ∃ m, k = m + 1 := ⟨k - 1, by omega⟩
    have hi : i < s.size := by omega
    have hd := dupQ_le (s.data.toList.take i)
    rw [List.length_take, len_data] at hd
    have hw : wrap64 ((i : Int) + 1) = ((i + 1 : Nat) : Int) := by rw [w64 (by omega) (by omega)]; omega
    have step := ih k s (i + 1) (by omega) (by omega) (by omega) h4
    rw [take_get s i hi, dupQ_snoc] at step
    rw [vidimusref16_Quoted.l0, if_pos (by omega), if_pos (by omega), bt_get s i hi, hw, Int.toNat_natCast, Int.toNat_natCast, one_byte s i hi]
    have hb : (ba (39 :: dupQ (s.data.toList.take i)) ++ (⟨#[39]⟩ : ByteArray)) = ba (39 :: dupQ (s.data.toList.take i) ++ [39]) := ba_app _ [39]
    by_cases hc : s[i]'hi = 39
    · rw [if_pos (by rw [hc]; rfl), if_pos (by rw [ba_size]; simp; omega), if_pos (by omega), if_pos (by omega), hb, if_pos (by rw [ba_size, ba_size]; simp; omega), ba_app]
      rw [if_pos hc] at step
      rw [hc]
      simpa using step
    · rw [if_neg (fun h : ((s[i]'hi).toNat : Int) = 39 => hc (u8_nat (n := 39) h (by decide))), if_pos (by omega), if_pos (by omega), if_pos (by rw [ba_size, ba_size]; simp; omega), ba_app]
      rw [if_neg hc] at step
      simpa using step
theorem refQuoted (s : ByteArray) (k : Nat) (hk : s.size < k) (h : s.size ≤ 500) : vidimusref16_Quoted.f k s = some (ba (39 :: (dupQ s.data.toList ++ [39]))) := by
  have := refQuoted_l s.size k s 0 (by omega) hk (by omega) h
  unfold vidimusref16_Quoted.f
  exact this

theorem refText_l : ∀ (n k : Nat) (l : List S32) (i : Nat), l.length - i = n → 3 * n + 600 < k → i ≤ l.length → Sane l → (∀ t ∈ l.take i, t.f0 ≠ 0) →
    vidimusref16_Text.l0 k l (ba (joinB ((l.take i).map piece32))) (i : Int) = some (textOf l) := by
  intro n
  induction n with
  | zero =>
    intro k l i h1 h2 h3 hs h0
    obtain ⟨k, rfl⟩ : ∃ m, k = m + 2 := ⟨k - 2, by omega⟩
    rw [vidimusref16_Text.l0, if_neg (by omega), vidimusref16_Text.j1, if_neg (by decide)]
    unfold textOf
    rw [tw_take _ l i (fun x hx => by simpa using h0 x hx) h3 (fun hh => by omega)]
  | succ n ih =>
    intro k l i h1 h2 h3 hs h0
    obtain ⟨k, rfl⟩ : ∃ m, k = m + 3 := ⟨k - 3, by omega⟩
    have hi : i < l.length := by omega
    have hlen := hs.len
    have hm : l[i] ∈ l := List.getElem_mem hi
    rw [vidimusref16_Text.l0, if_pos (by omega), if_pos (by omega), rd_at l i hi, vidimusref16_Text.j1]
    by_cases hk : l[i].f0 = 0
    · rw [if_neg (by simp [hk])]
      unfold textOf
      rw [tw_take _ l i (fun x hx => by simpa using h0 x hx) h3 (fun hh => by simpa using hk)]
    · have h0' : ∀ t ∈ l.take (i + 1), t.f0 ≠ 0 := by
        intro t ht
        rw [take_snoc l i hi] at ht
        rcases List.mem_append.1 ht with ht | ht
        · exact h0 t ht
        · rw [List.mem_singleton] at ht; subst ht; exact hk
      have step := ih k l (i + 1) (by omega) (by omega) (by omega) hs h0'
      rw [take_snoc l i hi, List.map_append, List.map_singleton, joinB_snoc] at step
      rw [show ((i + 1 : Nat) : Int) = (i : Int) + 1 by omega] at step
      rw [if_pos (by simpa using hk)]
      have hbig : (joinB ((l.take i).map piece32)).length ≤ 4012000 := by
        have h2 := joinB_le 1002 ((l.take i).map piece32) (fun x hx => by
          obtain ⟨t, ht, rfl⟩ := List.mem_map.1 hx
          have ht' := List.mem_of_mem_take ht
          exact piece32_le t (hs.n t ht') (hs.s t ht'))
        have h3 : ((l.take i).map piece32).length ≤ 4000 := by rw [List.length_map, List.length_take]; omega
        omega
      -- the letters so far, with a blank behind them if there are any
      obtain ⟨P, hP, hPl, hPs⟩ : ∃ P : List UInt8, (if (i : Int) > 0 then (if (ba (joinB ((l.take i).map piece32))).size + 1 ≤ 9223372036854775807 then (vidimusref16_Text.j2 (k + 1) l (ba (joinB ((l.take i).map piece32)) ++ (⟨#[32]⟩ : ByteArray)) (i : Int)) else none) else (vidimusref16_Text.j2 (k + 1) l (ba (joinB ((l.take i).map piece32))) (i : Int))) = vidimusref16_Text.j2 (k + 1) l (ba P) (i : Int) ∧ P.length ≤ 4012001 ∧ ∀ y, (if (l.take i).map piece32 = [] then y else joinB ((l.take i).map piece32) ++ 32 :: y) = P ++ y := by
        by_cases hz : i = 0
        · subst hz
          exact ⟨[], by rw [if_neg (by omega)]; rfl, by simp, fun y => by simp⟩
        · refine ⟨joinB ((l.take i).map piece32) ++ [32], ?_, by rw [List.length_append, List.length_singleton]; omega, fun y => ?_⟩
          · rw [if_pos (by omega), if_pos (by rw [ba_size]; omega)]
            rw [show ba (joinB ((l.take i).map piece32)) ++ (⟨#[32]⟩ : ByteArray) = ba (joinB ((l.take i).map piece32) ++ [32]) from ba_app _ [32]]
          · rw [if_neg]
            · simp
            · intro e
              have := congrArg List.length e
              rw [List.length_map, List.length_take, List.length_nil] at this
              omega
      rw [hP, vidimusref16_Text.j2, if_pos (by omega), if_pos (by omega), rd_at l i hi]
      rw [hPs] at step
      by_cases hk2 : l[i].f0 = 2
      · have hm2 := mx_le (hs.n _ hm)
        have hp : piece32 l[i] = digits (mx l[i].f2 0).toNat := by unfold piece32; rw [if_pos hk2]
        have hd := refDigits 20 k (mx l[i].f2 0).toNat (by decide) (Lx.pow20 (by omega)) (by omega) (by decide) (by omega)
        rw [Int.toNat_of_nonneg hm2.1] at hd
        have hdl := digits_le (mx l[i].f2 0).toNat (Lx.pow20 (by omega))
        rw [if_pos hk2, hd]
        simp only [Option.bind_some]
        rw [show digA 20 (mx l[i].f2 0).toNat = digits (mx l[i].f2 0).toNat from rfl, if_pos (by rw [ba_size, ba_size]; omega), w64 (by omega) (by omega), ba_app, ← hp]
        exact step
      · rw [if_neg hk2]
        by_cases hk3 : l[i].f0 = 3
        · have hsz := hs.s _ hm
          have hdl := dupQ_le l[i].f1.data.toList
          rw [len_data] at hdl
          have hp : piece32 l[i] = 39 :: (dupQ l[i].f1.data.toList ++ [39]) := by unfold piece32; rw [if_neg hk2, if_pos hk3]
          rw [if_pos hk3, refQuoted _ k (by omega) hsz]
          simp only [Option.bind_some]
          rw [if_pos (by rw [ba_size, ba_size]; simp; omega), w64 (by omega) (by omega), ba_app, ← hp]
          exact step
        · have hsz := hs.s _ hm
          have hp : ba (piece32 l[i]) = l[i].f1 := by unfold piece32; rw [if_neg hk2, if_neg hk3, ba_of]
          rw [if_neg hk3, if_pos (by rw [ba_size]; omega), w64 (by omega) (by omega), ← hp, ba_app]
          exact step
theorem refText_is (l : List S32) (k : Nat) (hk : 3 * l.length + 600 < k) (h : Sane l) : vidimusref16_Text.f k l = some (textOf l) := by
  have := refText_l l.length k l 0 (by omega) hk (by omega) h (by simp)
  unfold vidimusref16_Text.f
  exact this

/-! ### A text's tokens as a text -/
theorem piece_tk32 (t : Lx.Tk) (h : Lx.Good t) : piece32 (tk32 t) = Lx.piece t := by
  unfold piece32 Lx.piece tk32
  have hm : (mx (t.n : Int) 0).toNat = t.n := by unfold mx; split <;> omega
  simp only [hm, ba_data]
  rcases h with h | h | h | h <;> simp [h.kind]
theorem good_kind {t : Lx.Tk} (h : Lx.Good t) : (tk32 t).f0 ≠ 0 := by
  unfold tk32
  rcases h with h | h | h | h <;> simp [h.kind]
theorem textOf_toks (ts : List Lx.Tk) (h : ∀ t ∈ ts, Lx.Good t) : textOf (ts.map tk32 ++ [z32]) = ba (joinB (ts.map Lx.piece)) := by
  unfold textOf
  have e : (ts.map tk32 ++ [z32]).takeWhile (fun t => t.f0 != 0) = ts.map tk32 := by
    rw [tw_take _ _ ts.length (fun x hx => ?_) (by simp) (fun hh => ?_)]
    · rw [List.take_append_of_le_length (by simp), List.take_of_length_le (by simp)]
    · rw [List.take_append_of_le_length (by simp), List.take_of_length_le (by simp)] at hx
      obtain ⟨t, ht, rfl⟩ := List.mem_map.1 hx
      simpa using good_kind (h t ht)
    · simp [z32]
  rw [e, List.map_map]
  congr 2
  apply List.map_congr_left
  intro t ht
  exact piece_tk32 t (h t ht)
theorem good_le {t : Lx.Tk} (h : Lx.Good t) : t.s.length ≤ 200 ∧ t.n ≤ 9223372036854775807 := by
  rcases h with h | h | h | h
  · exact ⟨by have := h.len; omega, by rw [h.n]; omega⟩
  · exact ⟨by rw [h.s]; simp, h.n⟩
  · exact ⟨h.len, by rw [h.n]; omega⟩
  · refine ⟨?_, by rw [h.n]; omega⟩
    have hs := h.s
    simp only [Lx.twos, List.mem_cons, List.mem_nil_iff, or_false] at hs
    rcases hs with (e | e | e | e) | ⟨c, _, e⟩ <;> rw [e] <;> simp

/-! ### The law -/
theorem texts_l : ∀ (n k : Nat) (a : ByteArray) (l : List S32) (i : Nat), l.length - i = n → n + 4000 < k → i ≤ l.length → a.size ≤ 500 → l.length ≤ 30 → (∀ t ∈ l, t.f2 ≤ 9223372036854775807) → (∀ t ∈ l.take i, t.f1.size ≤ 100) →
    vidimuslaw16_LexTexts.l0 k a l l (l.length : Int) (i : Int) = some true := by
  intro n
  induction n with
  | zero =>
    intro k a l i h1 h2 h3 ha hl hn hs
    obtain ⟨k, rfl⟩ : ∃ m, k = m + 1 := ⟨k - 1, by omega⟩
    have hS : Sane l := ⟨by omega, hn, fun t ht => by
      have := hs t (by rw [List.take_of_length_le (by omega)]; exact ht)
      omega⟩
    rw [vidimuslaw16_LexTexts.l0, if_neg (by omega), lexText_is l k (by omega) hS, refText_is l k (by omega) hS]
    simp only [Option.bind_some]
    rw [if_pos trivial, tok_short a (by omega)]
    simp only [Option.bind_some]
    cases hx : Lx.toks a.data.toList with
    | error e =>
      have he0 := tok_err0 hx
      rw [if_neg (show ¬ (resT (Except.error e)).2 = 0 from (by show ¬ (e : Int) = 0; omega))]
      rfl
    | ok ts =>
      have hg := Lx.toks_good a.data.toList.length _ ts (Nat.le_refl _) hx
      have hle := toks_le a.data.toList.length _ ts (Nat.le_refl _) hx
      rw [len_data] at hg hle
      have hS2 : Sane (ts.map tk32 ++ [z32]) := by
        refine ⟨by simp; omega, fun t ht => ?_, fun t ht => ?_⟩
        · rcases List.mem_append.1 ht with ht | ht
          · obtain ⟨u, hu, rfl⟩ := List.mem_map.1 ht
            have := (good_le (hg.1 u hu)).2
            show ((u.n : Nat) : Int) ≤ _
            omega
          · rw [List.mem_singleton] at ht; subst ht; simp [z32]
        · rcases List.mem_append.1 ht with ht | ht
          · obtain ⟨u, hu, rfl⟩ := List.mem_map.1 ht
            have := (good_le (hg.1 u hu)).1
            show (ba u.s).size ≤ _
            rw [ba_size]; omega
          · rw [List.mem_singleton] at ht; subst ht; exact (by decide : (0 : Nat) ≤ 500)
      rw [if_pos (show (resT (Except.ok ts)).2 = 0 from rfl)]
      show ((lex_Text.f k (ts.map tk32 ++ [z32])).bind _) = _
      rw [lexText_is _ k (by simp; omega) hS2, textOf_toks ts hg.1]
      simp only [Option.bind_some]
      rw [tok_short _ (by rw [ba_size]; omega), ba_data, Lx.toks_join' ts hg.1]
      simp only [Option.bind_some]
      rw [if_pos (show (resT (Except.ok ts)).2 = 0 from rfl)]
      show ((vidimusref16_Same.f k (ts.map tk32 ++ [z32]) (ts.map tk32 ++ [z32])).bind _) = _
      rw [same_is _ k (by simp; omega) (by simp; omega)]
      rfl
  | succ n ih =>
    intro k a l i h1 h2 h3 ha hl hn hs
    obtain ⟨k, rfl⟩ : ∃ m, k = m + 1 := ⟨k - 1, by omega⟩
    have hi : i < l.length := by omega
    rw [vidimuslaw16_LexTexts.l0, if_pos (by omega), if_pos (by omega), if_pos (by omega), rd_at l i hi]
    by_cases hb : (l[i].f1.size : Int) > 100
    · rw [if_pos hb]
    · rw [if_neg hb, w64 (by omega) (by omega), show (i : Int) + 1 = ((i + 1 : Nat) : Int) by omega]
      refine ih k a l (i + 1) (by omega) (by omega) (by omega) ha hl hn ?_
      intro t ht
      rw [take_snoc l i hi] at ht
      rcases List.mem_append.1 ht with ht | ht
      · exact hs t ht
      · rw [List.mem_singleton] at ht; subst ht; omega
theorem LexTexts_law (a : ByteArray) (l : List S32) (hn : ∀ t ∈ l, t.f2 ≤ 9223372036854775807) : ∃ k, vidimuslaw16_LexTexts.f k a l = some true := by
  refine ⟨5000, ?_⟩
  unfold vidimuslaw16_LexTexts.f
  rw [awake_is (by omega)]
  simp only [Option.bind_some, if_true]
  by_cases ha : (a.size : Int) > 500
  · rw [if_pos ha]; simp only [vidimuslaw16_LexTexts.j0, if_true]
  · rw [if_neg ha]
    by_cases hb : (l.length : Int) > 30
    · rw [decide_eq_true hb]; simp only [vidimuslaw16_LexTexts.j0, if_true]
    · rw [decide_eq_false hb]
      simp only [vidimuslaw16_LexTexts.j0, Bool.false_eq_true, if_false]
      exact texts_l l.length 4999 a l 0 (by omega) (by omega) (by omega) (by omega) (by omega) hn (by simp)
end Go.Proofs.YtcgdncpioafbdaaGreatDoor.Q

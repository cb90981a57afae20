/- The lexer's model: tokens as a text, and back. -/
import Derived.Test.YtcgdncpioafbdaaGreatDoorGap
import Derived.Test.YtcgdncpioafbdaaGreatDoorLeafF
namespace Go.Proofs.YtcgdncpioafbdaaGreatDoor.Lx
open Go.Proofs.YtcgdncpioafbdaaGreatDoor.Q (dupQ digA digits joinB)

theorem all8 {p : UInt8 → Prop} [DecidablePred p] (h : ∀ n : Fin 256, p (UInt8.ofNat n)) (c : UInt8) : p c := by
  have := h ⟨c.toNat, c.toNat_lt⟩
  simpa using this

/-- A token's letters in a text. -/
def piece (t : Tk) : List UInt8 := if t.kind = 2 then digits t.n else if t.kind = 3 then 39 :: (dupQ t.s ++ [39]) else t.s

structure GoodW (t : Tk) : Prop where
  kind : t.kind = 1
  n : t.n = 0
  head : ∃ c r, t.s = c :: r ∧ isLetter c = true
  part : ∀ c ∈ t.s, isPart c = true
  low : t.s.map lowerB = t.s
  len : t.s.length ≤ 30
structure GoodN (t : Tk) : Prop where
  kind : t.kind = 2
  s : t.s = []
  n : t.n ≤ 9223372036854775807
structure GoodS (t : Tk) : Prop where
  kind : t.kind = 3
  n : t.n = 0
  len : t.s.length ≤ 200
structure GoodG (t : Tk) : Prop where
  kind : t.kind = 4
  n : t.n = 0
  s : t.s ∈ twos ∨ ∃ c, c ∈ ones ∧ t.s = [c]
def Good (t : Tk) : Prop := GoodW t ∨ GoodN t ∨ GoodS t ∨ GoodG t

theorem low_letter (c : UInt8) : isLetter c = true → isLetter (lowerB c) = true := all8 (p := fun c => isLetter c = true → isLetter (lowerB c) = true) (by decide +kernel) c
theorem low_part (c : UInt8) : isPart c = true → isPart (lowerB c) = true := all8 (p := fun c => isPart c = true → isPart (lowerB c) = true) (by decide +kernel) c
theorem low_low (c : UInt8) : lowerB (lowerB c) = lowerB c := all8 (p := fun c => lowerB (lowerB c) = lowerB c) (by decide +kernel) c
theorem dig_val (c : UInt8) : isDigit c = true → c.toNat - 48 < 10 := all8 (p := fun c => isDigit c = true → c.toNat - 48 < 10) (by decide +kernel) c

theorem mem_tw {α} {p : α → Bool} {l : List α} {x : α} (h : x ∈ l.takeWhile p) : p x = true := List.all_eq_true.1 (List.all_takeWhile (p := p) (l := l)) x h

/-! ### Numbers -/
theorem digA_len : ∀ (k n : Nat), 1 ≤ k → n < 10 ^ k → (digA k n).length ≤ k
  | 0, n, h, _ => by omega
  | k + 1, n, _, h => by
    simp only [digA]
    split
    · simp
    · rename_i hn
      have hk : 1 ≤ k := by
        rcases Nat.eq_zero_or_pos k with rfl | h1
        · simp at h; omega
        · exact h1
      have := digA_len k (n / 10) hk (by rw [Nat.pow_succ] at h; omega)
      simp; omega
theorem digA_more : ∀ (k n j : Nat), 1 ≤ k → n < 10 ^ k → digA (k + j) n = digA k n
  | 0, n, j, h, _ => by omega
  | k + 1, n, j, _, h => by
    rw [show k + 1 + j = (k + j) + 1 by omega]
    simp only [digA]
    split
    · rfl
    · rename_i hn
      have hk : 1 ≤ k := by
        rcases Nat.eq_zero_or_pos k with rfl | h1
        · simp at h; omega
        · exact h1
      rw [digA_more k (n / 10) j hk (by rw [Nat.pow_succ] at h; omega)]
theorem digits_eq {n k : Nat} (hk : 1 ≤ k) (h : n < 10 ^ k) (h20 : n < 10 ^ 20) : digits n = digA k n := by
  unfold digits
  rcases Nat.le_total k 20 with h1 | h1
  · obtain ⟨j, hj⟩ := Nat.exists_eq_add_of_le h1
    rw [hj]
    exact digA_more k n j hk h
  · obtain ⟨j, hj⟩ := Nat.exists_eq_add_of_le h1
    rw [hj]
    exact (digA_more 20 n j (by decide) h20).symm
theorem digit_of {n : Nat} (h : n < 10) : isDigit (UInt8.ofNat (48 + n)) = true ∧ (UInt8.ofNat (48 + n)).toNat - 48 = n := by
  have : ∀ m : Fin 10, isDigit (UInt8.ofNat (48 + m)) = true ∧ (UInt8.ofNat (48 + m)).toNat - 48 = m := by decide
  exact this ⟨n, h⟩
theorem digA_digit : ∀ (k n : Nat), ∀ c ∈ digA k n, isDigit c = true
  | 0, n, c, h => by simp [digA] at h
  | k + 1, n, c, h => by
    simp only [digA] at h
    split at h
    · rename_i hn
      rw [List.mem_singleton] at h; subst h
      exact (digit_of hn).1
    · rcases List.mem_append.1 h with h | h
      · exact digA_digit k _ c h
      · rw [List.mem_singleton] at h; subst h
        exact (digit_of (Nat.mod_lt n (by decide))).1
theorem digA_ne : ∀ (k n : Nat), 1 ≤ k → digA k n ≠ []
  | 0, n, h => by omega
  | k + 1, n, _ => by
    simp only [digA]
    split <;> simp
theorem numVal_snoc (l : List UInt8) (c : UInt8) : numVal (l ++ [c]) = numVal l * 10 + (c.toNat - 48) := by unfold numVal; rw [List.foldl_append]; rfl
theorem digA_val : ∀ (k n : Nat), 1 ≤ k → n < 10 ^ k → numVal (digA k n) = n
  | 0, n, h, _ => by omega
  | k + 1, n, _, h => by
    simp only [digA]
    split
    · rename_i hn
      have := numVal_snoc [] (UInt8.ofNat (48 + n))
      simp only [List.nil_append] at this
      rw [this, (digit_of hn).2]
      have e : numVal [] = 0 := rfl
      omega
    · rename_i hn
      have hk : 1 ≤ k := by
        rcases Nat.eq_zero_or_pos k with rfl | h1
        · simp at h; omega
        · exact h1
      rw [numVal_snoc, digA_val k (n / 10) hk (by rw [Nat.pow_succ] at h; omega), (digit_of (Nat.mod_lt n (by decide))).2]
      omega
theorem fold_lt : ∀ (l : List UInt8) (acc : Nat), (∀ c ∈ l, isDigit c = true) → l.foldl (fun a c => a * 10 + (c.toNat - 48)) acc < (acc + 1) * 10 ^ l.length
  | [], acc, _ => by simp
  | c :: r, acc, h => by
    have h1 := fold_lt r (acc * 10 + (c.toNat - 48)) (fun x hx => h x (by simp [hx]))
    have h2 := dig_val c (h c (by simp))
    rw [List.foldl_cons, List.length_cons, Nat.pow_succ]
    refine Nat.lt_of_lt_of_le h1 ?_
    have h3 : acc * 10 + (c.toNat - 48) + 1 ≤ (acc + 1) * 10 := by omega
    have h4 := Nat.mul_le_mul_right (10 ^ r.length) h3
    rw [show (acc + 1) * (10 ^ r.length * 10) = (acc + 1) * 10 * 10 ^ r.length by rw [Nat.mul_comm (10 ^ r.length) 10, Nat.mul_assoc]]
    exact h4
theorem numVal_lt (l : List UInt8) (h : ∀ c ∈ l, isDigit c = true) : numVal l < 10 ^ l.length := by
  have := fold_lt l 0 h
  rw [Nat.zero_add, Nat.one_mul] at this
  exact this

/-! ### Strings -/
theorem strA_last' : strA [39] = some ([], 1) := by simp [strA]
theorem strA_two (r : List UInt8) : strA (39 :: 39 :: r) = (strA r).map fun p => (39 :: p.1, p.2 + 2) := by simp [strA]
theorem strA_one (c : UInt8) (r : List UInt8) (h : (c == 39) = false) : strA (c :: r) = (strA r).map fun p => (c :: p.1, p.2 + 1) := by
  cases r with
  | nil => simp only [strA, h]; rfl
  | cons d r => simp only [strA, h]; rfl
theorem strA_dup : ∀ (t : List UInt8), strA (dupQ t ++ [39]) = some (t, (dupQ t).length + 1)
  | [] => by simp [dupQ, strA]
  | c :: r => by
    simp only [dupQ]
    have ih := strA_dup r
    split
    · rename_i hc
      have hc : c = 39 := by simpa using hc
      subst hc
      rw [List.cons_append, List.cons_append, strA_two, ih]
      simp
    · rename_i hc
      have hc : (c == 39) = false := by simpa using hc
      rw [List.cons_append, strA_one c _ hc, ih]
      simp
theorem strA_dupLen : ∀ (l t : List UInt8) (n : Nat), strA l = some (t, n) → (dupQ t).length + 1 ≤ n
  | [], t, n, h => by simp [strA] at h
  | [c], t, n, h => by
    simp only [strA] at h
    split at h
    · simp at h; obtain ⟨rfl, rfl⟩ := h; simp [dupQ]
    · simp at h
  | c :: d :: r, t, n, h => by
    simp only [strA] at h
    split at h
    · split at h
      · cases hs : strA r with
        | none => simp [hs] at h
        | some p =>
          obtain ⟨t', n'⟩ := p
          have := strA_dupLen r t' n' hs
          simp [hs] at h
          obtain ⟨rfl, rfl⟩ := h
          simp [dupQ]; omega
      · simp at h; obtain ⟨rfl, rfl⟩ := h; simp [dupQ]
    · rename_i hc
      cases hs : strA (d :: r) with
      | none => simp [hs] at h
      | some p =>
        obtain ⟨t', n'⟩ := p
        have := strA_dupLen (d :: r) t' n' hs
        simp [hs] at h
        obtain ⟨rfl, rfl⟩ := h
        simp only [dupQ]
        rw [if_neg hc]
        simp; omega

/-! ### A token read is a good one, and its letters are no longer than what was read -/
theorem pow20 {n : Nat} (h : n ≤ 9223372036854775807) : n < 10 ^ 20 := by
  have : (10 : Nat) ^ 20 = 100000000000000000000 := by decide
  omega
theorem tokA_good {l : List UInt8} {t : Tk} {n : Nat} (h : tokA l = .ok (t, n)) : Good t ∧ (piece t).length ≤ n := by
  cases l with
  | nil => simp [tokA] at h
  | cons c r =>
    simp only [tokA] at h
    split at h
    · rename_i hc
      unfold wordA at h
      split at h
      · simp at h
      · rename_i hlen
        simp only [Except.ok.injEq, Prod.mk.injEq] at h
        obtain ⟨rfl, rfl⟩ := h
        have hp := isPart_letter hc
        refine ⟨.inl ⟨rfl, rfl, ?_, ?_, ?_, ?_⟩, ?_⟩
        · refine ⟨lowerB c, (r.takeWhile isPart).map lowerB, ?_, low_letter c hc⟩
          simp [List.takeWhile, hp]
        · intro x hx
          simp only [List.mem_map] at hx
          obtain ⟨y, hy, rfl⟩ := hx
          exact low_part y (mem_tw hy)
        · simp [low_low]
        · simp only [List.length_map]; omega
        · simp [piece]
    · split at h
      · rename_i hc hd
        unfold numA at h
        split at h
        · simp at h
        · split at h
          · simp at h
          · rename_i hv
            simp only [Except.ok.injEq, Prod.mk.injEq] at h
            obtain ⟨rfl, rfl⟩ := h
            have hv' := Nat.le_of_not_gt hv
            refine ⟨.inr (.inl ⟨rfl, rfl, hv'⟩), ?_⟩
            have h1 : 1 ≤ ((c :: r).takeWhile isDigit).length := by simp [List.takeWhile, hd]
            have h2 := numVal_lt ((c :: r).takeWhile isDigit) (fun x hx => mem_tw hx)
            show (digits (numVal ((c :: r).takeWhile isDigit))).length ≤ _
            rw [digits_eq h1 h2 (pow20 hv')]
            exact digA_len _ _ h1 h2
      · split at h
        · unfold textA at h
          split at h
          · simp at h
          · rename_i t' n' hs
            split at h
            · simp at h
            · rename_i hlen
              simp only [Except.ok.injEq, Prod.mk.injEq] at h
              obtain ⟨rfl, rfl⟩ := h
              have := strA_dupLen _ _ _ hs
              refine ⟨.inr (.inr (.inl ⟨rfl, rfl, Nat.le_of_not_gt hlen⟩)), ?_⟩
              show (39 :: (dupQ t' ++ [39])).length ≤ _
              simp; omega
        · unfold signT at h
          split at h
          · simp at h
          · rename_i t' hs
            simp only [Except.ok.injEq, Prod.mk.injEq] at h
            obtain ⟨rfl, rfl⟩ := h
            refine ⟨.inr (.inr (.inr ⟨rfl, rfl, ?_⟩)), Nat.le_refl _⟩
            unfold signA at hs
            split at hs
            · rename_i h2
              cases hs
              exact .inl (by simpa using h2)
            · simp only at hs
              split at hs
              · rename_i ho
                cases hs
                exact .inr ⟨c, by simpa using ho, rfl⟩
              · cases hs

theorem tw_all {α} (p : α → Bool) (l : List α) (h : ∀ x ∈ l, p x = true) : l.takeWhile p = l := by
  induction l with
  | nil => rfl
  | cons c r ih => simp [List.takeWhile, h c (by simp), ih (fun x hx => h x (by simp [hx]))]
theorem dw_all {α} (p : α → Bool) (l : List α) (h : ∀ x ∈ l, p x = true) : l.dropWhile p = [] := by
  induction l with
  | nil => rfl
  | cons c r ih => simp [List.dropWhile, h c (by simp), ih (fun x hx => h x (by simp [hx]))]
theorem digit_letter (c : UInt8) : isDigit c = true → isLetter c = false := all8 (p := fun c => isDigit c = true → isLetter c = false) (by decide +kernel) c

/-- A good token's letters are this token. -/
theorem tokA_piece {t : Tk} (h : Good t) : ∃ c r, piece t = c :: r ∧ tokA (c :: r) = .ok (t, (c :: r).length) ∧ isBlank c = false ∧ (c = 45 → r = []) := by
  rcases h with ⟨hk, hn, ⟨c, r, hs, hl⟩, hp, hlow, hlen⟩ | ⟨hk, hs, hn⟩ | ⟨hk, hn, hlen⟩ | ⟨hk, hn, hs⟩
  · obtain ⟨k, s, n⟩ := t
    simp only at hk hn hs hp hlow hlen
    subst hk hn hs
    have h1 := tw_all isPart (c :: r) hp
    refine ⟨c, r, rfl, ?_, ?_, ?_⟩
    · simp only [tokA, hl, if_true]
      unfold wordA
      rw [h1, hlow, if_neg (by omega)]
    · have : ∀ c : UInt8, isLetter c = true → isBlank c = false := fun c => all8 (p := fun c => isLetter c = true → isBlank c = false) (by decide +kernel) c
      exact this c hl
    · intro e; subst e; exact absurd hl (by decide)
  · obtain ⟨k, s, n⟩ := t
    simp only at hk hn hs
    subst hk hs
    have hd := digA_digit 20 n
    have hv := digA_val 20 n (by decide) (pow20 hn)
    have hne := digA_ne 20 n (by decide)
    have e : piece ⟨2, [], n⟩ = digA 20 n := rfl
    cases hx : digA 20 n with
    | nil => exact absurd hx hne
    | cons c r =>
      rw [hx] at hd hv
      have hc := hd c (by simp)
      refine ⟨c, r, by rw [e, hx], ?_, ?_, ?_⟩
      · simp only [tokA, digit_letter c hc, hc, if_true]
        unfold numA
        rw [tw_all isDigit _ hd, dw_all isDigit _ hd, hv]
        rw [if_neg (Nat.not_lt.2 hn)]
        rfl
      · have : ∀ c : UInt8, isDigit c = true → isBlank c = false := fun c => all8 (p := fun c => isDigit c = true → isBlank c = false) (by decide +kernel) c
        exact this c hc
      · intro e; subst e; exact absurd hc (by decide)
  · obtain ⟨k, s, n⟩ := t
    simp only at hk hn hlen
    subst hk hn
    refine ⟨39, dupQ s ++ [39], rfl, ?_, by decide, fun h => absurd h (by decide)⟩
    have h1 : isLetter 39 = false := by decide
    have h2 : isDigit 39 = false := by decide
    simp only [tokA, h1, h2]
    unfold textA
    rw [strA_dup]
    simp only
    rw [if_neg (Nat.not_lt.2 hlen)]
    simp
  · obtain ⟨k, s, n⟩ := t
    simp only at hk hn hs
    subst hk hn
    have : ∀ s, (s ∈ twos ∨ s ∈ ones.map (fun c => [c])) → ∃ c r, s = c :: r ∧ tokA (c :: r) = .ok (⟨4, s, 0⟩, (c :: r).length) ∧ isBlank c = false ∧ (c = 45 → r = []) := by
      intro s h
      simp only [twos, ones, List.map_cons, List.map_nil, List.mem_cons, List.mem_nil_iff, or_false] at h
      rcases h with (rfl | rfl | rfl | rfl) | (rfl | rfl | rfl | rfl | rfl | rfl | rfl | rfl | rfl | rfl | rfl | rfl)
      all_goals exact ⟨_, _, rfl, by rfl, by decide, by decide⟩
    refine this s ?_
    rcases hs with h | ⟨c, hc, rfl⟩
    · exact .inl h
    · exact .inr (List.mem_map.2 ⟨c, hc, rfl⟩)

theorem skip_piece {c : UInt8} {r : List UInt8} (hb : isBlank c = false) (h45 : c = 45 → r = []) : skipA false (c :: r) = c :: r := by
  simp only [skipA, hb]
  by_cases hc : c = 45
  · subst hc; rw [h45 rfl]; rfl
  · have : (c == 45) = false := by simpa using hc
    simp [this]
theorem toks_piece {t : Tk} (h : Good t) (g : List UInt8) : toks (piece t ++ 32 :: g) = bindTok t (toks g) := by
  obtain ⟨c, r, hp, ht, hb, h45⟩ := tokA_piece h
  rw [hp]
  have h1 := tokA_gap 32 g (by decide) c r
  have h2 : tokA (c :: r ++ 32 :: g) = .ok (t, (c :: r).length) := by
    rcases h1 with h1 | ⟨h1, _⟩
    · rw [h1, ht]
    · rw [ht] at h1; cases h1
  have hs : skipA false (c :: r ++ 32 :: g) = c :: r ++ 32 :: g := by
    have := skipA_gap 32 g (by decide) false (c :: r)
    rw [skip_piece hb h45] at this
    exact this
  have h3 := toks_ok (l := c :: r ++ 32 :: g) (c := c) (r := r ++ 32 :: g) hs h2
  rw [h3]
  have e : (c :: (r ++ 32 :: g)).drop (c :: r).length = 32 :: g := by
    rw [← List.cons_append, List.drop_left]
  rw [e]
  rw [toks_cong (l := 32 :: g) (m := g) rfl]
theorem toks_piece1 {t : Tk} (h : Good t) : toks (piece t) = .ok [t] := by
  obtain ⟨c, r, hp, ht, hb, h45⟩ := tokA_piece h
  rw [hp]
  have h3 := toks_ok (skip_piece hb h45) ht
  rw [h3, List.drop_length, toks_nil rfl]
  rfl
theorem toks_join' : ∀ (ts : List Tk), (∀ t ∈ ts, Good t) → toks (joinB (ts.map piece)) = .ok ts
  | [], _ => toks_nil rfl
  | [t], h => toks_piece1 (h t (by simp))
  | t :: u :: ts, h => by
    have ih := toks_join' (u :: ts) (fun x hx => h x (by simp [hx]))
    have e : joinB ((t :: u :: ts).map piece) = piece t ++ 32 :: joinB ((u :: ts).map piece) := rfl
    rw [e, toks_piece (h t (by simp)), ih]
    rfl

theorem joinB_len : ∀ (x : List UInt8) (xs : List (List UInt8)), (joinB (x :: xs)).length ≤ x.length + 1 + (joinB xs).length
  | x, [] => by simp [joinB]
  | x, y :: r => by
    show (x ++ 32 :: joinB (y :: r)).length ≤ _
    simp; omega
/-- The tokens of a text are good, and their text is not twice as long. -/
theorem toks_good : ∀ (n : Nat) (l : List UInt8) (ts : List Tk), l.length ≤ n → toks l = .ok ts → (∀ t ∈ ts, Good t) ∧ (joinB (ts.map piece)).length ≤ 2 * l.length := by
  intro n
  induction n with
  | zero =>
    intro l ts hl h
    obtain rfl := List.eq_nil_of_length_eq_zero (Nat.le_zero.1 hl)
    rw [toks_nil rfl] at h
    cases h
    exact ⟨by simp, by simp [joinB]⟩
  | succ n ih =>
    intro l ts hl h
    have h2 := skipA_le false l
    cases hs : skipA false l with
    | nil => rw [toks_nil hs] at h; cases h; exact ⟨by simp, by simp [joinB]⟩
    | cons c r =>
      rw [hs] at h2
      cases hk : tokA (c :: r) with
      | error e => rw [toks_err hs hk] at h; cases h
      | ok p =>
        obtain ⟨t, m⟩ := p
        have hle := tokA_le hk
        have hg := tokA_good hk
        rw [toks_ok hs hk] at h
        cases hx : toks ((c :: r).drop m) with
        | error e => rw [hx] at h; cases h
        | ok us =>
          rw [hx] at h
          cases h
          have := ih _ us (by rw [List.length_drop]; simp only [List.length_cons] at h2 hle ⊢; omega) hx
          refine ⟨?_, ?_⟩
          · intro x hx'
            rcases List.mem_cons.1 hx' with rfl | hx'
            · exact hg.1
            · exact this.1 x hx'
          · have h4 := joinB_len (piece t) (us.map piece)
            have h5 := this.2
            rw [List.length_drop] at h5
            have h6 := hg.2
            show (joinB (piece t :: us.map piece)).length ≤ _
            simp only [List.length_cons] at h2 hle h5
            omega
end Go.Proofs.YtcgdncpioafbdaaGreatDoor.Lx

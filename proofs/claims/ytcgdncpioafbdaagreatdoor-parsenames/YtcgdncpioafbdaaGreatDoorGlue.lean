/- Tokens' letters one behind the other, with or without blanks between: the lexer gives these tokens, where no letter behind a token goes on with it. -/
import Derived.Test.YtcgdncpioafbdaaGreatDoorPiece
import Derived.Test.YtcgdncpioafbdaaGreatDoorPlU
namespace Go.Proofs.YtcgdncpioafbdaaGreatDoor.Lx
open Go Go.Proofs.YtcgdncpioafbdaaGreatDoor.Q

/-- May a byte stand behind a token's letters? -/
def nextOk (t : Tk) (c : UInt8) : Bool := if t.kind = 1 ∨ t.kind = 2 then !isPart c else if t.kind = 3 then c != 39 else t.s.length == 2 || (!twos.contains (t.s ++ [c]) && !(t.s == [45] && c == 45))
theorem tw_app {α} (p : α → Bool) (l g : List α) (h : ∀ x ∈ l, p x = true) (hg : ∀ c r, g = c :: r → p c = false) : (l ++ g).takeWhile p = l ∧ (l ++ g).dropWhile p = g := by
  induction l with
  | nil =>
    cases g with
    | nil => exact ⟨rfl, rfl⟩
    | cons c r => simp [List.takeWhile, List.dropWhile, hg c r rfl]
  | cons c r ih =>
    obtain ⟨h1, h2⟩ := ih (fun x hx => h x (by simp [hx]))
    simp [List.takeWhile, List.dropWhile, h c (by simp), h1, h2]
theorem digit_part {c : UInt8} (h : isPart c = false) : isDigit c = false := by
  unfold isPart at h
  simp only [Bool.or_eq_false_iff] at h
  exact h.1.2
theorem strA_glue (g : List UInt8) (hg : ∀ c r, g = c :: r → c ≠ 39) : ∀ (t : List UInt8), strA (dupQ t ++ 39 :: g) = some (t, (dupQ t).length + 1)
  | [] => by
    show strA (39 :: g) = some ([], 1)
    cases g with
    | nil => rfl
    | cons c r =>
      have : (c == 39) = false := by simpa using hg c r rfl
      simp [strA, this]
  | c :: r => by
    have ih := strA_glue g hg r
    by_cases hc : c = 39
    · subst hc
      show strA (39 :: 39 :: (dupQ r ++ 39 :: g)) = _
      rw [strA_two, ih]
      simp [dupQ]
    · have h1 : (c == 39) = false := by simpa using hc
      have e : dupQ (c :: r) = c :: dupQ r := by simp [dupQ, hc]
      rw [e]
      show strA (c :: (dupQ r ++ 39 :: g)) = _
      rw [strA_one c _ h1, ih]
      simp
theorem tokA_glue {t : Tk} (h : Good t) (g : List UInt8) (hg : ∀ c r, g = c :: r → nextOk t c = true) : tokA (piece t ++ g) = .ok (t, (piece t).length) := by
  rcases h with ⟨hk, hn, ⟨c, r, hs, hl⟩, hp, hlow, hlen⟩ | ⟨hk, hs, hn⟩ | ⟨hk, hn, hlen⟩ | ⟨hk, hn, hs⟩
  · obtain ⟨k, s, n⟩ := t
    simp only at hk hn hs hp hlow hlen
    subst hk hn hs
    have e : piece ⟨1, c :: r, 0⟩ = c :: r := rfl
    have h1 := (tw_app isPart (c :: r) g hp (fun d q hd => by have := hg d q hd; simpa [nextOk] using this)).1
    rw [e, List.cons_append]
    rw [List.cons_append] at h1
    simp only [tokA, hl, if_true]
    unfold wordA
    rw [h1, hlow, if_neg (by omega)]
  · obtain ⟨k, s, n⟩ := t
    simp only at hk hn hs
    subst hk hs
    have hd := digA_digit 20 n
    have hv := digA_val 20 n (by decide) (pow20 hn)
    have hne := digA_ne 20 n (by decide)
    have e : piece ⟨2, [], n⟩ = digA 20 n := rfl
    rw [e]
    have hgp : ∀ c r, g = c :: r → isPart c = false := fun d q hd => by have := hg d q hd; simpa [nextOk] using this
    obtain ⟨h1, h2⟩ := tw_app isDigit (digA 20 n) g hd (fun c r hc => digit_part (hgp c r hc))
    cases hx : digA 20 n with
    | nil => exact absurd hx hne
    | cons c r =>
      rw [hx] at hd hv h1 h2
      have hc := hd c (by simp)
      rw [List.cons_append]
      rw [List.cons_append] at h1 h2
      simp only [tokA, digit_letter c hc, hc, if_true]
      unfold numA
      have h3 : ((c :: (r ++ g)).dropWhile isDigit).head?.any isPart = false := by
        rw [h2]
        cases g with
        | nil => rfl
        | cons d q => simp [hgp d q rfl]
      rw [h1, h3, hv, if_neg (Nat.not_lt.2 hn)]
      rfl
  · obtain ⟨k, s, n⟩ := t
    simp only at hk hn hlen
    subst hk hn
    have e : piece ⟨3, s, 0⟩ = 39 :: (dupQ s ++ [39]) := rfl
    rw [e]
    have h1 : isLetter 39 = false := by decide
    have h2 : isDigit 39 = false := by decide
    show tokA (39 :: ((dupQ s ++ [39]) ++ g)) = _
    simp only [tokA, h1, h2]
    unfold textA
    have e2 : (dupQ s ++ [39]) ++ g = dupQ s ++ 39 :: g := by simp
    rw [e2, strA_glue g (fun d q hd => by have := hg d q hd; simpa [nextOk] using this)]
    simp only
    rw [if_neg (Nat.not_lt.2 hlen)]
    simp
  · obtain ⟨k, s, n⟩ := t
    simp only at hk hn hs
    subst hk hn
    have e : piece ⟨4, s, 0⟩ = s := rfl
    rw [e]
    have hS : ∀ s, (s ∈ twos ∨ s ∈ ones.map (fun c => [c])) → (∀ c r, g = c :: r → nextOk ⟨4, s, 0⟩ c = true) → tokA (s ++ g) = .ok (⟨4, s, 0⟩, s.length) := by
      intro s h hg
      have two : ∀ a b : UInt8, isLetter a = false → isDigit a = false → (a == 39) = false → twos.contains [a, b] = true → tokA ([a, b] ++ g) = .ok (⟨4, [a, b], 0⟩, 2) := by
        intro a b h1 h2 h3 h4
        show tokA (a :: b :: g) = _
        simp only [tokA, h1, h2, h3]
        unfold signT signA
        have e3 : (a :: b :: g).take 2 = [a, b] := rfl
        rw [e3, h4]
        rfl
      have one : ∀ a : UInt8, isLetter a = false → isDigit a = false → (a == 39) = false → ones.contains a = true → twos.contains [a] = false → (∀ c r, g = c :: r → twos.contains [a, c] = false) → tokA ([a] ++ g) = .ok (⟨4, [a], 0⟩, 1) := by
        intro a h1 h2 h3 h4 h5 h6
        show tokA (a :: g) = _
        simp only [tokA, h1, h2, h3]
        unfold signT signA
        have e3 : twos.contains ((a :: g).take 2) = false := by
          cases g with
          | nil => exact h5
          | cons c r => exact h6 c r rfl
        rw [e3]
        simp only [Bool.false_eq_true, if_false, h4, if_true]
        rfl
      have hg2 : s.length = 1 → ∀ c r, g = c :: r → twos.contains (s ++ [c]) = false := fun hl c r hc => by
        have := hg c r hc
        simp only [nextOk, hl] at this
        rw [if_neg (by decide), if_neg (by decide)] at this
        cases h2 : twos.contains (s ++ [c]) with
        | false => rfl
        | true => rw [h2] at this; cases this
      simp only [twos, ones, List.map_cons, List.map_nil, List.mem_cons, List.mem_nil_iff, or_false] at h
      rcases h with (rfl | rfl | rfl | rfl) | (rfl | rfl | rfl | rfl | rfl | rfl | rfl | rfl | rfl | rfl | rfl | rfl)
      · exact two _ _ (by decide) (by decide) (by decide) (by decide)
      · exact two _ _ (by decide) (by decide) (by decide) (by decide)
      · exact two _ _ (by decide) (by decide) (by decide) (by decide)
      · exact two _ _ (by decide) (by decide) (by decide) (by decide)
      all_goals exact one _ (by decide) (by decide) (by decide) (by decide) (by decide) (hg2 rfl)
    refine hS s ?_ hg
    rcases hs with h | ⟨c, hc, rfl⟩
    · exact .inl h
    · exact .inr (List.mem_map.2 ⟨c, hc, rfl⟩)
/-- One token ahead. -/
theorem toks_glue {t : Tk} (h : Good t) (g : List UInt8) (hg : ∀ c r, g = c :: r → nextOk t c = true) : toks (piece t ++ g) = bindTok t (toks g) := by
  obtain ⟨c, r, hp, ht, hb, h45⟩ := tokA_piece h
  have h2 := tokA_glue h g hg
  rw [hp] at h2 ⊢
  rw [List.cons_append] at h2 ⊢
  have hs : skipA false (c :: (r ++ g)) = c :: (r ++ g) := by
    simp only [skipA, hb]
    by_cases hc : c = 45
    · subst hc
      rw [h45 rfl] at hp ⊢
      have hh : ((45 : UInt8) == 45 && (([] ++ g).head? == some 45)) = false := by
        cases g with
        | nil => rfl
        | cons d q =>
          have h3 := hg d q rfl
          have hk : t.kind = 4 ∧ t.s = [45] := by
            rcases h with h | h | h | h
            · have : piece t = t.s := by unfold piece; rw [h.kind]; rfl
              rw [this] at hp
              obtain ⟨a, b, hs, hl⟩ := h.head
              rw [hp] at hs
              cases hs
              exact absurd hl (by decide)
            · have hd := digA_digit 20 t.n
              have : piece t = digA 20 t.n := by unfold piece; rw [h.kind]; rfl
              rw [this] at hp
              rw [hp] at hd
              exact absurd (hd 45 (by simp)) (by decide)
            · have : piece t = 39 :: (dupQ t.s ++ [39]) := by unfold piece; rw [h.kind]; rfl
              rw [this] at hp
              simp at hp
            · have : piece t = t.s := by unfold piece; rw [h.kind]; rfl
              exact ⟨h.kind, by rw [← this, hp]⟩
          simp only [nextOk, hk.1, hk.2] at h3
          simp at h3
          simp [h3.2]
      rw [hh]
      rfl
    · have : (c == 45) = false := by simpa using hc
      simp [this]
  rw [toks_ok hs h2]
  have e : (c :: (r ++ g)).drop (c :: r).length = g := by rw [← List.cons_append, List.drop_left]
  rw [e]
theorem toks_blank (g : List UInt8) : toks (32 :: g) = toks g := toks_cong (l := 32 :: g) (m := g) rfl

/-- A text of tokens and blanks. -/
inductive It where
  | bl
  | tk (t : Tk)
def It.text : It → List UInt8
  | .bl => [32]
  | .tk t => piece t
def textIt (l : List It) : List UInt8 := (l.map It.text).flatten
def toksIt : List It → List Tk
  | [] => []
  | .bl :: l => toksIt l
  | .tk t :: l => t :: toksIt l
/-- No token goes on into what stands behind it. -/
def fits : List It → Prop
  | [] => True
  | .bl :: l => fits l
  | .tk t :: l => Good t ∧ (∀ c r, textIt l = c :: r → nextOk t c = true) ∧ fits l
theorem textIt_cons (i : It) (l : List It) : textIt (i :: l) = i.text ++ textIt l := rfl
theorem toks_it : ∀ l : List It, fits l → toks (textIt l) = .ok (toksIt l)
  | [], _ => toks_nil rfl
  | .bl :: l, h => by
    rw [textIt_cons]
    show toks (32 :: textIt l) = _
    rw [toks_blank, toks_it l h]
    rfl
  | .tk t :: l, h => by
    rw [textIt_cons]
    show toks (piece t ++ textIt l) = _
    rw [toks_glue h.1 _ h.2.1, toks_it l h.2.2]
    rfl
theorem good_word {l : List UInt8} (h : (match l with | [] => false | c :: _ => isLetter c && l.all (fun c => isPart c && lowerB c == c) && decide (l.length ≤ 30)) = true) : Good ⟨1, l, 0⟩ := by
  cases l with
  | nil => simp at h
  | cons c r =>
    simp only [Bool.and_eq_true, decide_eq_true_eq] at h
    obtain ⟨⟨h1, h2⟩, h3⟩ := h
    have h4 := List.all_eq_true.1 h2
    refine .inl ⟨rfl, rfl, ⟨c, r, rfl, h1⟩, fun x hx => by have := h4 x hx; simp only [Bool.and_eq_true] at this; exact this.1, ?_, h3⟩
    have : ∀ m : List UInt8, (∀ x ∈ m, lowerB x = x) → m.map lowerB = m := by
      intro m hm
      induction m with
      | nil => rfl
      | cons a b ih => rw [List.map_cons, hm a (by simp), ih (fun x hx => hm x (by simp [hx]))]
    exact this _ (fun x hx => by have := h4 x hx; simp only [Bool.and_eq_true] at this; simpa using this.2)
theorem good_sign {l : List UInt8} (h : (twos.contains l || ones.any (fun c => l == [c])) = true) : Good ⟨4, l, 0⟩ := by
  refine .inr (.inr (.inr ⟨rfl, rfl, ?_⟩))
  simp only [Bool.or_eq_true] at h
  rcases h with h | h
  · left
    simpa using h
  · right
    obtain ⟨c, hc, he⟩ := List.any_eq_true.1 h
    exact ⟨c, hc, by simpa using he⟩
theorem good_num {n : Nat} (h : n ≤ 9223372036854775807) : Good ⟨2, [], n⟩ := .inr (.inl ⟨rfl, rfl, h⟩)
theorem good_str {l : List UInt8} (h : l.length ≤ 200) : Good ⟨3, l, 0⟩ := .inr (.inr (.inl ⟨rfl, rfl, h⟩))
end Go.Proofs.YtcgdncpioafbdaaGreatDoor.Lx

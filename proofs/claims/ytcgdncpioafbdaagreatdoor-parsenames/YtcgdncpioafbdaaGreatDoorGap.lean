/- The lexer's model: a text, then a blank: what stands behind plays no part. -/
import Derived.Test.YtcgdncpioafbdaaGreatDoorLexA
namespace Go.Proofs.YtcgdncpioafbdaaGreatDoor.Lx

/-- Inside a remark at the end? -/
def stA : Bool → List UInt8 → Bool
  | m, [] => m
  | false, c :: r => if isBlank c then stA false r else if c == 45 && r.head? == some 45 then stA true r else false
  | true, c :: r => if c == 10 then stA false r else stA true r

theorem blank_ne45 {d : UInt8} (h : isBlank d = true) : (d == 45) = false := by
  rw [Bool.eq_false_iff]; intro e; rw [beq_iff_eq] at e; subst e; exact absurd h (by decide)
theorem blank_ne39 {d : UInt8} (h : isBlank d = true) : (d == 39) = false := by
  rw [Bool.eq_false_iff]; intro e; rw [beq_iff_eq] at e; subst e; exact absurd h (by decide)
theorem blank_part {d : UInt8} (h : isBlank d = true) : isPart d = false := by
  simp only [isBlank, Bool.or_eq_true, beq_iff_eq] at h
  rcases h with ((rfl | rfl) | rfl) | rfl <;> decide
theorem blank_digit {d : UInt8} (h : isBlank d = true) : isDigit d = false := by
  simp only [isBlank, Bool.or_eq_true, beq_iff_eq] at h
  rcases h with ((rfl | rfl) | rfl) | rfl <;> decide

theorem skipA_gap (d : UInt8) (g : List UInt8) (hd : isBlank d = true) : ∀ (m : Bool) (l : List UInt8), skipA m (l ++ d :: g) = match skipA m l with
    | [] => skipA (stA m l) (d :: g)
    | c :: r => c :: r ++ d :: g
  | m, [] => by cases m <;> rfl
  | true, c :: r => by
    simp only [List.cons_append, skipA, stA]
    split
    · exact skipA_gap d g hd false r
    · exact skipA_gap d g hd true r
  | false, c :: r => by
    simp only [List.cons_append, skipA, stA]
    split
    · exact skipA_gap d g hd false r
    · have hh : ((r ++ d :: g).head? == some 45) = (r.head? == some 45) := by
        cases r with
        | nil => simp only [List.nil_append, List.head?_cons, List.head?_nil]; have := blank_ne45 hd; simp at this; simp [this]
        | cons x r => rfl
      rw [hh]
      split
      · exact skipA_gap d g hd true r
      · rfl

theorem takeWhile_gap (p : UInt8 → Bool) (d : UInt8) (g : List UInt8) (hd : p d = false) (l : List UInt8) : (l ++ d :: g).takeWhile p = l.takeWhile p := by
  induction l with
  | nil => simp [hd]
  | cons c r ih => simp only [List.cons_append, List.takeWhile]; split <;> simp [ih]
theorem dropWhile_gap (p : UInt8 → Bool) (d : UInt8) (g : List UInt8) (hd : p d = false) (l : List UInt8) : (l ++ d :: g).dropWhile p = l.dropWhile p ++ d :: g := by
  induction l with
  | nil => simp [hd]
  | cons c r ih => simp only [List.cons_append, List.dropWhile]; split <;> simp [ih]

theorem strA_gap (d : UInt8) (g : List UInt8) (hd : (d == 39) = false) : ∀ (l : List UInt8) (p), strA l = some p → strA (l ++ d :: g) = some p
  | [], p, h => by simp [strA] at h
  | [c], p, h => by
    simp only [strA] at h
    split at h
    · rename_i hc
      simp only [List.cons_append, List.nil_append, strA, hc, hd]
      exact h
    · simp at h
  | c :: e :: r, p, h => by
    simp only [List.cons_append, strA] at h ⊢
    split
    · rename_i hc
      rw [if_pos hc] at h
      split
      · rename_i he
        rw [if_pos he] at h
        cases hs : strA r with
        | none => rw [hs] at h; simp at h
        | some q =>
          rw [strA_gap d g hd r q hs]
          rw [hs] at h
          exact h
      · rename_i he
        rw [if_neg he] at h
        exact h
    · rename_i hc
      rw [if_neg hc] at h
      cases hs : strA (e :: r) with
      | none => rw [hs] at h; simp at h
      | some q =>
        have := strA_gap d g hd (e :: r) q hs
        rw [List.cons_append] at this
        rw [this]
        rw [hs] at h
        exact h

theorem signA_gap (d : UInt8) (g : List UInt8) (hd : isBlank d = true) (c : UInt8) (r : List UInt8) : signA (c :: r ++ d :: g) = signA (c :: r) := by
  cases r with
  | cons e r => rfl
  | nil =>
    have h1 : twos.contains (List.take 2 [c]) = false := by simp [twos]
    have h2 : twos.contains (List.take 2 ([c] ++ d :: g)) = false := by
      simp only [isBlank, Bool.or_eq_true, beq_iff_eq] at hd
      rcases hd with ((rfl | rfl) | rfl) | rfl <;> simp [twos]
    unfold signA
    rw [h1, h2]
    rfl

/-- A token, then a blank: the same token; or it is a string that goes on. -/
theorem tokA_gap (d : UInt8) (g : List UInt8) (hd : isBlank d = true) (c : UInt8) (r : List UInt8) :
    tokA (c :: r ++ d :: g) = tokA (c :: r) ∨ (tokA (c :: r) = .error 20 ∧ c = 39) := by
  simp only [List.cons_append, tokA]
  split
  · left
    unfold wordA
    rw [← List.cons_append, takeWhile_gap isPart d g (blank_part hd)]
  · split
    · left
      unfold numA
      rw [← List.cons_append, takeWhile_gap isDigit d g (blank_digit hd), dropWhile_gap isDigit d g (blank_digit hd)]
      cases h : List.dropWhile isDigit (c :: r) with
      | nil => simp [blank_part hd]
      | cons x y => rfl
    · split
      · rename_i hc
        unfold textA
        cases hs : strA r with
        | none => right; exact ⟨rfl, by simpa using hc⟩
        | some p => left; rw [strA_gap d g (blank_ne39 hd) r p hs]
      · left
        unfold signT
        rw [← List.cons_append, signA_gap d g hd]

def app (ts : List Tk) : Except Nat (List Tk) → Except Nat (List Tk)
  | .error e => .error e
  | .ok us => .ok (ts ++ us)
theorem app_nil (x) : app [] x = x := by cases x <;> rfl
theorem app_bind (t : Tk) (ts : List Tk) (x) : bindTok t (app ts x) = app (t :: ts) x := by cases x <;> rfl

theorem toks_cong {l m : List UInt8} (h : skipA false l = skipA false m) : toks l = toks m := by
  cases hs : skipA false l with
  | nil => exact (toks_nil hs).trans (toks_nil (h.symm.trans hs)).symm
  | cons c r =>
    cases ht : tokA (c :: r) with
    | error e => exact (toks_err hs ht).trans (toks_err (h.symm.trans hs) ht).symm
    | ok p => obtain ⟨t, n⟩ := p; exact (toks_ok hs ht).trans (toks_ok (h.symm.trans hs) ht).symm

theorem skipA_suffix : ∀ (m : Bool) (l : List UInt8), skipA m l <:+ l
  | m, [] => by cases m <;> exact List.suffix_refl _
  | true, c :: r => by
    simp only [skipA]
    split
    · exact (skipA_suffix false r).trans (List.suffix_cons _ _)
    · exact (skipA_suffix true r).trans (List.suffix_cons _ _)
  | false, c :: r => by
    simp only [skipA]
    split
    · exact (skipA_suffix false r).trans (List.suffix_cons _ _)
    · split
      · exact (skipA_suffix true r).trans (List.suffix_cons _ _)
      · exact List.suffix_refl _

/-- A text, then what is skipped: its tokens, then those of the rest. -/
theorem toks_gap (P : List UInt8 → Prop) (hP : ∀ l l', l' <:+ l → P l → P l') (d : UInt8) (g b : List UInt8) (hd : isBlank d = true) (hg : ∀ l, P l → skipA (stA false l) (d :: g) = skipA false b) :
    ∀ (n : Nat) (l : List UInt8), l.length ≤ n → P l → (∃ e, toks l = .error e ∧ (toks (l ++ d :: g) = .error e ∨ (e = 20 ∧ 39 ∈ l))) ∨ (∃ ts, toks l = .ok ts ∧ toks (l ++ d :: g) = app ts (toks b)) := by
  intro n
  induction n with
  | zero =>
    intro l hl hp
    obtain rfl := List.eq_nil_of_length_eq_zero (Nat.le_zero.1 hl)
    right
    refine ⟨[], toks_nil rfl, ?_⟩
    rw [app_nil]
    exact toks_cong (hg [] hp)
  | succ n ih =>
    intro l hl hp
    have hsk := skipA_gap d g hd false l
    have hsuf := skipA_suffix false l
    cases hs : skipA false l with
    | nil =>
      right
      refine ⟨[], toks_nil hs, ?_⟩
      rw [app_nil]
      rw [hs] at hsk
      exact toks_cong (hsk.trans (hg l hp))
    | cons c r =>
      rw [hs] at hsk hsuf
      simp only at hsk
      rcases tokA_gap d g hd c r with ht | ⟨ht, hc⟩
      · cases hk : tokA (c :: r) with
        | error e =>
          left
          exact ⟨e, toks_err hs hk, .inl (toks_err hsk (ht.trans hk))⟩
        | ok p =>
          obtain ⟨t, m⟩ := p
          have hle := tokA_le hk
          have h1 := toks_ok hs hk
          have h2 := toks_ok hsk (ht.trans hk)
          have h3 : (c :: (r ++ d :: g)).drop m = (c :: r).drop m ++ d :: g := by
            rw [← List.cons_append, List.drop_append_of_le_length hle.2]
          replace h2 : toks (l ++ d :: g) = bindTok t (toks ((c :: (r ++ d :: g)).drop m)) := h2
          rw [h3] at h2
          have hsu : (c :: r).drop m <:+ l := (List.drop_suffix _ _).trans hsuf
          have hlen : ((c :: r).drop m).length ≤ n := by
            have := hsuf.length_le
            simp only [List.length_drop, List.length_cons] at this hle ⊢
            omega
          rcases ih _ hlen (hP _ _ hsu hp) with ⟨e, he, hx⟩ | ⟨ts, he, hx⟩
          · left
            refine ⟨e, by rw [h1, he]; rfl, ?_⟩
            rcases hx with hx | ⟨h20, hm⟩
            · left
              show toks (l ++ d :: g) = _
              rw [h2, hx]; rfl
            · right
              exact ⟨h20, hsu.subset hm⟩
          · right
            refine ⟨t :: ts, by rw [h1, he]; rfl, ?_⟩
            rw [h2, hx, app_bind]
      · left
        refine ⟨20, toks_err hs ht, .inr ⟨rfl, hsuf.subset (by subst hc; simp)⟩⟩

/-- Two texts with a byte 10 between. -/
theorem toks_join (a b : List UInt8) : (∃ e, toks a = .error e ∧ (toks (a ++ 10 :: b) = .error e ∨ (e = 20 ∧ 39 ∈ a))) ∨ (∃ ts, toks a = .ok ts ∧ toks (a ++ 10 :: b) = app ts (toks b)) :=
  toks_gap (fun _ => True) (fun _ _ _ _ => trivial) 10 b b rfl (fun l _ => by cases stA false l <;> rfl) a.length a (Nat.le_refl _) trivial
end Go.Proofs.YtcgdncpioafbdaaGreatDoor.Lx

namespace Go.Proofs.YtcgdncpioafbdaaGreatDoor.Lx

def isBlank (c : UInt8) : Bool := c == 32 || c == 9 || c == 10 || c == 13
def isLetter (c : UInt8) : Bool := (97 ≤ c && c ≤ 122) || (65 ≤ c && c ≤ 90)
def isDigit (c : UInt8) : Bool := 48 ≤ c && c ≤ 57
def isPart (c : UInt8) : Bool := isLetter c || isDigit c || c == 95
def lowerB (c : UInt8) : UInt8 := if 65 ≤ c && c ≤ 90 then c + 32 else c

/-- Without blanks and remarks ahead; true: inside a remark. -/
def skipA : Bool → List UInt8 → List UInt8
  | _, [] => []
  | false, c :: r => if isBlank c then skipA false r else if c == 45 && r.head? == some 45 then skipA true r else c :: r
  | true, c :: r => if c == 10 then skipA false r else skipA true r

structure Tk where
  kind : Nat
  s : List UInt8
  n : Nat
deriving DecidableEq

def numVal (l : List UInt8) : Nat := l.foldl (fun a c => a * 10 + (c.toNat - 48)) 0

/-- What stands behind a quote: the letters, and how many bytes up to behind the end. -/
def strA : List UInt8 → Option (List UInt8 × Nat)
  | [] => none
  | c :: [] => if c == 39 then some ([], 1) else none
  | c :: d :: r => if c == 39 then (if d == 39 then (strA r).map fun p => (39 :: p.1, p.2 + 2) else some ([], 1)) else (strA (d :: r)).map fun p => (c :: p.1, p.2 + 1)

def twos : List (List UInt8) := [[60, 61], [62, 61], [60, 62], [124, 124]]
def ones : List UInt8 := [40, 41, 44, 42, 43, 45, 47, 37, 61, 60, 62, 59]

def signA (l : List UInt8) : Option (List UInt8) :=
  if twos.contains (l.take 2) then some (l.take 2) else match l with
    | [] => none
    | c :: _ => if ones.contains c then some [c] else none

def wordA (l : List UInt8) : Except Nat (Tk × Nat) :=
  if (l.takeWhile isPart).length > 30 then .error 28 else .ok (⟨1, (l.takeWhile isPart).map lowerB, 0⟩, (l.takeWhile isPart).length)
def numA (l : List UInt8) : Except Nat (Tk × Nat) :=
  if (l.dropWhile isDigit).head?.any isPart then .error 20
  else if numVal (l.takeWhile isDigit) > 9223372036854775807 then .error 26 else .ok (⟨2, [], numVal (l.takeWhile isDigit)⟩, (l.takeWhile isDigit).length)
def textA (r : List UInt8) : Except Nat (Tk × Nat) :=
  match strA r with
  | none => .error 20
  | some (t, n) => if t.length > 200 then .error 28 else .ok (⟨3, t, 0⟩, n + 1)
def signT (l : List UInt8) : Except Nat (Tk × Nat) :=
  match signA l with
  | none => .error 20
  | some t => .ok (⟨4, t, 0⟩, t.length)

/-- The token that a text begins with, and how many bytes it has. -/
def tokA (l : List UInt8) : Except Nat (Tk × Nat) :=
  match l with
  | [] => .error 20
  | c :: r => if isLetter c then wordA l else if isDigit c then numA l else if c == 39 then textA r else signT l

def toksA : Nat → List UInt8 → Except Nat (List Tk)
  | 0, _ => .error 0
  | k + 1, l => match skipA false l with
    | [] => .ok []
    | c :: r => match tokA (c :: r) with
      | .error e => .error e
      | .ok (t, n) => match toksA k ((c :: r).drop n) with
        | .error e => .error e
        | .ok ts => .ok (t :: ts)

/-- A text's tokens, without the End; or the error. -/
def lexA (l : List UInt8) : Except Nat (List Tk) := if l.length > 4000 then .error 28 else toksA (l.length + 1) l

/-! ### What each step takes -/
theorem skipA_le (m : Bool) (l : List UInt8) : (skipA m l).length ≤ l.length := by
  induction l generalizing m with
  | nil => cases m <;> simp [skipA]
  | cons c r ih =>
    cases m with
    | false =>
      simp only [skipA]
      split
      · have := ih false; simp; omega
      · split
        · have := ih true; simp; omega
        · simp
    | true =>
      simp only [skipA]
      split
      · have := ih false; simp; omega
      · have := ih true; simp; omega

theorem takeWhile_le {α} (p : α → Bool) (l : List α) : (l.takeWhile p).length ≤ l.length := (List.takeWhile_sublist p).length_le

theorem strA_le : ∀ (l t : List UInt8) (n : Nat), strA l = some (t, n) → n ≤ l.length ∧ 1 ≤ n ∧ t.length < n
  | [], t, n, h => by simp [strA] at h
  | [c], t, n, h => by
    simp only [strA] at h
    split at h
    · simp at h; obtain ⟨rfl, rfl⟩ := h; simp
    · simp at h
  | c :: d :: r, t, n, h => by
    simp only [strA] at h
    split at h
    · split at h
      · cases hs : strA r with
        | none => simp [hs] at h
        | some p =>
          obtain ⟨t', n'⟩ := p
          have := strA_le r t' n' hs
          simp [hs] at h
          obtain ⟨rfl, rfl⟩ := h
          simp; omega
      · simp at h; obtain ⟨rfl, rfl⟩ := h; simp
    · cases hs : strA (d :: r) with
      | none => simp [hs] at h
      | some p =>
        obtain ⟨t', n'⟩ := p
        have := strA_le (d :: r) t' n' hs
        simp [hs] at h
        obtain ⟨rfl, rfl⟩ := h
        simp at this ⊢; omega

theorem isPart_letter {c : UInt8} (h : isLetter c = true) : isPart c = true := by simp [isPart, h]

theorem signA_le {l t : List UInt8} (h : signA l = some t) : 1 ≤ t.length ∧ t.length ≤ l.length := by
  unfold signA at h
  split at h
  · rename_i h2
    simp at h; subst h
    match l, h2 with
    | [], h2 => simp [twos] at h2
    | [c], h2 => simp [twos] at h2
    | c :: d :: r, _ => simp
  · cases l with
    | nil => simp at h
    | cons c r =>
      simp only at h
      split at h
      · simp at h; subst h; simp
      · simp at h

theorem tokA_le {l : List UInt8} {t : Tk} {n : Nat} (h : tokA l = .ok (t, n)) : 1 ≤ n ∧ n ≤ l.length := by
  cases l with
  | nil => simp [tokA] at h
  | cons c r =>
    simp only [tokA] at h
    split at h
    · rename_i hc
      unfold wordA at h
      split at h
      · simp at h
      · simp at h
        obtain ⟨-, rfl⟩ := h
        have := takeWhile_le isPart (c :: r)
        have hp := isPart_letter hc
        simp [hp] at this ⊢
        omega
    · split at h
      · rename_i hd
        unfold numA at h
        split at h
        · simp at h
        · split at h
          · simp at h
          · simp at h
            obtain ⟨-, rfl⟩ := h
            have := takeWhile_le isDigit (c :: r)
            simp [hd] at this ⊢
            omega
      · split at h
        · unfold textA at h
          split at h
          · simp at h
          · rename_i t' n' hs
            split at h
            · simp at h
            · simp at h
              obtain ⟨-, rfl⟩ := h
              have := strA_le _ _ _ hs
              simp; omega
        · unfold signT at h
          split at h
          · simp at h
          · rename_i t' hs
            simp at h
            obtain ⟨-, rfl⟩ := h
            exact signA_le hs

theorem toksA_more : ∀ (k : Nat) (l : List UInt8), l.length < k → ∀ j, toksA (k + j) l = toksA k l
  | 0, l, h, j => by omega
  | k + 1, l, h, j => by
    rw [show k + 1 + j = (k + j) + 1 by omega]
    simp only [toksA]
    split
    · rfl
    · rename_i c r hs
      cases ht : tokA (c :: r) with
      | error e => rfl
      | ok p =>
        obtain ⟨t, n⟩ := p
        simp only
        have h1 := tokA_le ht
        have h2 := skipA_le false l
        rw [hs] at h2
        rw [toksA_more k _ (by simp at h1 h2 ⊢; omega) j]

/-- The tokens, the rounds left aside. -/
def toks (l : List UInt8) : Except Nat (List Tk) := toksA (l.length + 1) l
theorem toksA_eq {k : Nat} {l : List UInt8} (h : l.length < k) : toksA k l = toks l := by
  obtain ⟨j, rfl⟩ : ∃ j, k = l.length + 1 + j := ⟨k - (l.length + 1), by omega⟩
  exact toksA_more _ _ (by omega) j
def bindTok (t : Tk) : Except Nat (List Tk) → Except Nat (List Tk)
  | .error e => .error e
  | .ok ts => .ok (t :: ts)
theorem toks_nil {l : List UInt8} (h : skipA false l = []) : toks l = .ok [] := by unfold toks; simp [toksA, h]
theorem toks_err {l : List UInt8} {c r e} (h : skipA false l = c :: r) (ht : tokA (c :: r) = .error e) : toks l = .error e := by
  unfold toks; simp [toksA, h, ht]
theorem toks_ok {l : List UInt8} {c r t n} (h : skipA false l = c :: r) (ht : tokA (c :: r) = .ok (t, n)) : toks l = bindTok t (toks ((c :: r).drop n)) := by
  have h1 := tokA_le ht
  have h2 := skipA_le false l
  rw [h] at h2
  rw [← toksA_eq (k := l.length) (l := (c :: r).drop n) (by simp at h1 h2 ⊢; omega)]
  unfold toks
  simp only [toksA, h, ht]
  cases toksA l.length ((c :: r).drop n) <;> rfl
theorem lexA_toks (l : List UInt8) : lexA l = if l.length > 4000 then .error 28 else toks l := rfl

end Go.Proofs.YtcgdncpioafbdaaGreatDoor.Lx

/- Plain laws: what several of layer 16's laws use. -/
import Derived.Test.YtcgdncpioafbdaaGreatDoorQlaw16D
import Derived.Test.YtcgdncpioafbdaaGreatDoorTokL
import Derived.Test.YtcgdncpioafbdaaGreatDoorGap
namespace Go.Proofs.YtcgdncpioafbdaaGreatDoor.Q
open Go Go.RowKit Go.Proofs.YtcgdncpioafbdaaGreatDoorW.PrintWords

theorem more {α : Type} {f : Nat → Option α} (hf : ∀ k, LeO (f k) (f (k + 1))) {k : Nat} {r : α} (h : f k = some r) : ∀ j, f (k + j) = some r
  | 0 => h
  | j + 1 => hf (k + j) r (more hf h j)
theorem moreLe {α : Type} {f : Nat → Option α} (hf : ∀ k, LeO (f k) (f (k + 1))) {k : Nat} {r : α} (h : f k = some r) {j : Nat} (hj : k ≤ j) : f j = some r := by
  obtain ⟨i, rfl⟩ := Nat.exists_eq_add_of_le hj
  exact more hf h i

theorem w64 {x : Int} (h1 : -9223372036854775808 ≤ x) (h2 : x ≤ 9223372036854775807) : wrap64 x = x := by unfold wrap64; omega

theorem awake_is : ∀ {k : Nat}, 9 ≤ k → vidimuslaw16_awake.f k = some true := by
  intro k hk
  refine moreLe (f := fun k => vidimuslaw16_awake.f k) vidimuslaw16_awake.mono (k := 9) ?_ hk
  kernel_rfl

theorem same_l : ∀ (n k : Nat) (l : List S32) (i : Nat), l.length - i = n → n < k → i ≤ l.length → l.length < 4611686018427387904 → vidimusref16_Same.l0 k l l (i : Int) = some true := by
  intro n
  induction n with
  | zero =>
    intro k l i h1 h2 h3 h4
    obtain ⟨k, rfl⟩ : ∃ m, k = m + 1 := ⟨k - 1, by omega⟩
    rw [vidimusref16_Same.l0, if_neg (by omega)]
  | succ n ih =>
    intro k l i h1 h2 h3 h4
    obtain ⟨k, rfl⟩ : ∃ m, k = m + 1 := ⟨k - 1, by omega⟩
    rw [vidimusref16_Same.l0, if_pos (by omega), if_pos (by omega), if_pos (by omega)]
    have hx : ∀ x : S32, (!(x.f0 == x.f0) || (!(x.f1.toList == x.f1.toList) || !(x.f2 == x.f2))) = false := fun x => by simp
    rw [hx, if_neg (by simp), w64 (by omega) (by omega)]
    have := ih k l (i + 1) (by omega) (by omega) (by omega) h4
    simpa using this
theorem same_is (l : List S32) (k : Nat) (hk : l.length < k) (hl : l.length < 4611686018427387904) : vidimusref16_Same.f k l l = some true := by
  unfold vidimusref16_Same.f
  rw [if_pos rfl]
  exact same_l l.length k l 0 (by omega) hk (by omega) hl

theorem bt_get (s : ByteArray) (i : Nat) (h : i < s.size) : bt s (i : Int) = ((s[i]'h).toNat : Int) := by
  unfold bt
  rw [dif_pos (by simpa using h)]
  rfl
theorem drop_get (s : ByteArray) (k : Nat) (h : k < s.size) : s.data.toList.drop k = s[k]'h :: s.data.toList.drop (k + 1) := by
  have hl : s.data.toList.length = s.size := by rw [Array.length_toList]; rfl
  rw [List.drop_eq_getElem_cons (by omega)]
  rfl
theorem len_data (s : ByteArray) : s.data.toList.length = s.size := by rw [Array.length_toList]; rfl
theorem u8_nat {c : UInt8} {n : Nat} (h : (c.toNat : Int) = (n : Int)) (hn : n < 256) : c = UInt8.ofNat n := by
  apply UInt8.toNat_inj.1
  have : (UInt8.ofNat n).toNat = n := by simp; omega
  omega

theorem odd_l : ∀ (n k : Nat) (s : ByteArray) (i : Nat), s.size - i = n → n < k → i ≤ s.size → s.size < 4611686018427387904 → vidimuslaw16_odd.l0 k s (s.size : Int) (i : Int) = some ((s.data.toList.drop i).contains 39) := by
  intro n
  induction n with
  | zero =>
    intro k s i h1 h2 h3 h4
    obtain ⟨k, rfl⟩ : ∃ m, k = m + 1 := ⟨k - 1, by omega⟩
    rw [vidimuslaw16_odd.l0, if_neg (by omega), List.drop_of_length_le (by rw [len_data]; omega)]
    rfl
  | succ n ih =>
    intro k s i h1 h2 h3 h4
    obtain ⟨k, rfl⟩ : ∃ m, k = m + 1 := ⟨k - 1, by omega⟩
    have hi : i < s.size := by omega
    rw [vidimuslaw16_odd.l0, if_pos (by omega), if_pos (by omega), if_pos (by omega), bt_get s i hi, drop_get s i hi]
    by_cases hc : s[i]'hi = 39
    · rw [if_pos (by rw [hc]; rfl), hc]; simp
    · rw [if_neg (fun h : ((s[i]'hi).toNat : Int) = 39 => hc (u8_nat (n := 39) h (by decide))), w64 (by omega) (by omega)]
      have := ih k s (i + 1) (by omega) (by omega) (by omega) h4
      rw [show ((i : Int) + 1) = ((i + 1 : Nat) : Int) by omega, this]
      have hc' : ((39 : UInt8) == s[i]'hi) = false := by simpa using Ne.symm hc
      rw [List.contains_cons, hc', Bool.false_or]
theorem odd_is (s : ByteArray) (k : Nat) (hk : s.size < k) (hs : s.size < 4611686018427387904) : vidimuslaw16_odd.f k s = some (s.data.toList.contains 39) := odd_l s.size k s 0 (by omega) hk (by omega) hs

/-- What a reader of a whole text hands back. -/
def resT : Except Nat (List Lx.Tk) → List S32 × Int
  | .error e => ([], (e : Int))
  | .ok ts => (ts.map tk32 ++ [z32], 0)
/-- The tokens of a text that isn't too long. -/
theorem tok_short (s : ByteArray) (h : s.size ≤ 4000) : lex_Tokens.f s = some (resT (Lx.toks s.data.toList)) := by
  unfold lex_Tokens.f tokF
  rw [Lx.lexA_toks, if_neg (by rw [len_data]; omega)]
  cases Lx.toks s.data.toList <;> rfl
theorem toks_le : ∀ (n : Nat) (l : List UInt8) (ts : List Lx.Tk), l.length ≤ n → Lx.toks l = .ok ts → ts.length ≤ l.length := by
  intro n
  induction n with
  | zero =>
    intro l ts hl h
    obtain rfl := List.eq_nil_of_length_eq_zero (Nat.le_zero.1 hl)
    rw [Lx.toks_nil rfl] at h
    cases h
    simp
  | succ n ih =>
    intro l ts hl h
    have h2 := Lx.skipA_le false l
    cases hs : Lx.skipA false l with
    | nil => rw [Lx.toks_nil hs] at h; cases h; simp
    | cons c r =>
      rw [hs] at h2
      cases hk : Lx.tokA (c :: r) with
      | error e => rw [Lx.toks_err hs hk] at h; cases h
      | ok p =>
        obtain ⟨t, m⟩ := p
        have hle := Lx.tokA_le hk
        rw [Lx.toks_ok hs hk] at h
        cases hx : Lx.toks ((c :: r).drop m) with
        | error e => rw [hx] at h; cases h
        | ok us =>
          rw [hx] at h
          cases h
          have := ih _ us (by rw [List.length_drop]; omega) hx
          rw [List.length_drop] at this
          simp only [List.length_cons] at this h2 hle ⊢
          omega
theorem tokA_err0 {l : List UInt8} {e : Nat} (h : Lx.tokA l = .error e) : e ≠ 0 := by
  unfold Lx.tokA Lx.wordA Lx.numA Lx.textA Lx.signT at h
  repeat' (split at h)
  all_goals first | (cases h; decide) | (simp at h; omega) | (simp at h)
theorem tok_err0' : ∀ (n : Nat) (l : List UInt8) (e : Nat), l.length ≤ n → Lx.toks l = .error e → e ≠ 0 := by
  intro n
  induction n with
  | zero =>
    intro l e hl h
    obtain rfl := List.eq_nil_of_length_eq_zero (Nat.le_zero.1 hl)
    rw [Lx.toks_nil rfl] at h
    cases h
  | succ n ih =>
    intro l e hl h
    have h2 := Lx.skipA_le false l
    cases hs : Lx.skipA false l with
    | nil => rw [Lx.toks_nil hs] at h; cases h
    | cons c r =>
      rw [hs] at h2
      cases hk : Lx.tokA (c :: r) with
      | error f => rw [Lx.toks_err hs hk] at h; cases h; exact tokA_err0 hk
      | ok p =>
        obtain ⟨t, m⟩ := p
        have hle := Lx.tokA_le hk
        rw [Lx.toks_ok hs hk] at h
        cases hx : Lx.toks ((c :: r).drop m) with
        | ok us => rw [hx] at h; cases h
        | error f =>
          rw [hx] at h
          cases h
          exact ih _ _ (by rw [List.length_drop]; simp only [List.length_cons] at h2 hle ⊢; omega) hx
theorem tok_err0 {l : List UInt8} {e : Nat} (h : Lx.toks l = .error e) : e ≠ 0 := tok_err0' l.length l e (Nat.le_refl _) h
end Go.Proofs.YtcgdncpioafbdaaGreatDoor.Q

/- THE LAW LexBlanks OF vidimus, FOR EVERY INPUT: the call returns true, and each argument reads as it did. Under what the card says: the listed package-level variables start as the program's text lays them. -/
import Derived.Test.YtcgdncpioafbdaaGreatDoorPlU
import Derived.Test.YtcgdncpioafbdaaGreatDoorOpen
import Derived.Test.YtcgdncpioafbdaaGreatDoorTie
import Derived.Test.YtcgdncpioafbdaaGreatDoorCards
import Derived.Test.YtcgdncpioafbdaaGreatDoorFLexBlanks
import Derived.Test.YtcgdncpioafbdaaGreatDoorQlaw16blanks
namespace Go.Proofs.YtcgdncpioafbdaaGreatDoor.Lx

/-- Do two dashes stand side by side? -/
def dash : List UInt8 → Bool
  | [] => false
  | [_] => false
  | c :: d :: r => (c == 45 && d == 45) || dash (d :: r)
theorem dash_cons {c : UInt8} {r : List UInt8} (h : dash (c :: r) = false) : dash r = false := by
  cases r with
  | nil => rfl
  | cons d r => simp only [dash, Bool.or_eq_false_iff] at h; exact h.2
theorem dash_app : ∀ (p l : List UInt8), dash (p ++ l) = false → dash l = false
  | [], _, h => h
  | _ :: p, l, h => dash_app p l (dash_cons h)
theorem dash_suffix {l l' : List UInt8} (h : l' <:+ l) (hd : dash l = false) : dash l' = false := by
  obtain ⟨p, rfl⟩ := h
  exact dash_app p l' hd
theorem stA_dash : ∀ l : List UInt8, dash l = false → stA false l = false
  | [], _ => rfl
  | c :: r, h => by
    have ih := stA_dash r (dash_cons h)
    simp only [stA]
    split
    · exact ih
    · have : (c == 45 && r.head? == some 45) = false := by
        cases r with
        | nil => simp
        | cons d r =>
          simp only [dash, Bool.or_eq_false_iff] at h
          have h1 := h.1
          simpa using h1
      rw [this]
      rfl
/-- One token, no dashes, then a gap: the token, then the rest's. -/
theorem toks_item (s : List UInt8) (t : Tk) (ht : toks s = .ok [t]) (hd : dash s = false) (d : UInt8) (g rest : List UInt8) (hb : isBlank d = true) (hg : skipA false (d :: g ++ rest) = skipA false rest) :
    toks (s ++ (d :: g ++ rest)) = app [t] (toks rest) := by
  have h := toks_gap (fun l => dash l = false) (fun l l' hs h => dash_suffix hs h) d (g ++ rest) rest hb (fun l hl => by rw [stA_dash l hl]; exact hg) s.length s (Nat.le_refl _) hd
  rcases h with ⟨e, he, _⟩ | ⟨ts, he, hx⟩
  · rw [ht] at he; cases he
  · rw [ht] at he
    cases he
    exact hx
def gap1 : List UInt8 := [9, 10, 13, 32, 32]
def gap2 : List UInt8 := [32, 45, 45, 105, 116, 39, 115, 32, 97, 32, 114, 101, 109, 97, 114, 107, 32, 40, 10]
def gap3 : List UInt8 := [10, 45, 45, 10, 45, 45, 120, 10]
theorem item0 (s : List UInt8) (t : Tk) (ht : toks s = .ok [t]) (hd : dash s = false) (rest : List UInt8) : toks (s ++ ([32] ++ rest)) = app [t] (toks rest) := toks_item s t ht hd 32 [] rest rfl rfl
theorem item1 (s : List UInt8) (t : Tk) (ht : toks s = .ok [t]) (hd : dash s = false) (rest : List UInt8) : toks (s ++ (gap1 ++ rest)) = app [t] (toks rest) := toks_item s t ht hd 9 [10, 13, 32, 32] rest rfl rfl
theorem item2 (s : List UInt8) (t : Tk) (ht : toks s = .ok [t]) (hd : dash s = false) (rest : List UInt8) : toks (s ++ (gap2 ++ rest)) = app [t] (toks rest) := toks_item s t ht hd 32 [45, 45, 105, 116, 39, 115, 32, 97, 32, 114, 101, 109, 97, 114, 107, 32, 40, 10] rest rfl rfl
theorem item3 (s : List UInt8) (t : Tk) (ht : toks s = .ok [t]) (hd : dash s = false) (rest : List UInt8) : toks (s ++ (gap3 ++ rest)) = app [t] (toks rest) := toks_item s t ht hd 10 [45, 45, 10, 45, 45, 120, 10] rest rfl rfl
theorem app_app (a b : List Tk) (x) : app a (app b x) = app (a ++ b) x := by cases x <;> simp [app]
end Go.Proofs.YtcgdncpioafbdaaGreatDoor.Lx
namespace Go.Proofs.YtcgdncpioafbdaaGreatDoor.Q
open Go Go.RowKit Go.Proofs.YtcgdncpioafbdaaGreatDoorW.PrintWords

theorem remark_l : ∀ (n k : Nat) (s : ByteArray) (i : Nat), s.size - i = n → n < k → 1 ≤ i → s.size ≤ 4000 → i ≤ 4001 → vidimuslaw16_remark.l0 k s (i : Int) = some (Lx.dash (s.data.toList.drop (i - 1))) := by
  intro n
  induction n with
  | zero =>
    intro k s i h1 h2 h3 h4 h5
    obtain ⟨k, rfl⟩ : ∃ m, k = m + 1 := ⟨k - 1, by omega⟩
    rw [vidimuslaw16_remark.l0, if_neg (by omega)]
    have hl : (s.data.toList.drop (i - 1)).length ≤ 1 := by rw [List.length_drop, len_data]; omega
    cases hx : s.data.toList.drop (i - 1) with
    | nil => rfl
    | cons c r =>
      rw [hx] at hl
      cases r with
      | nil => rfl
      | cons d r => simp at hl
  | succ n ih =>
    intro k s i h1 h2 h3 h4 h5
    obtain ⟨k, rfl⟩ : ∃ m, k = m + 1 := ⟨k - 1, by omega⟩
    have hi : i < s.size := by omega
    obtain ⟨j, rfl⟩ : ∃ j, i = j + 1 := ⟨i - 1, by omega⟩
    have hj : j < s.size := by omega
    have hw : wrap64 (((j + 1 : Nat) : Int) - 1) = (j : Int) := by rw [w64 (by omega) (by omega)]; omega
    have hw2 : wrap64 (((j + 1 : Nat) : Int) + 1) = ((j + 2 : Nat) : Int) := by rw [w64 (by omega) (by omega)]; omega
    have step := ih k s (j + 2) (by omega) (by omega) (by omega) h4 (by omega)
    rw [show j + 2 - 1 = j + 1 by omega] at step
    rw [show j + 1 - 1 = j by omega, drop_get s j hj, drop_get s (j + 1) hi]
    rw [drop_get s (j + 1) hi] at step
    rw [vidimuslaw16_remark.l0, if_pos (by omega), if_pos (by omega), bt_get s (j + 1) hi, hw, hw2]
    simp only [Lx.dash]
    by_cases hc : s[j + 1]'hi = 45
    · rw [if_pos (by rw [hc]; rfl), if_pos (by omega), if_pos (by omega), bt_get s j hj]
      by_cases hd : s[j]'hj = 45
      · rw [if_pos (by rw [hd]; rfl), hc, hd]; rfl
      · rw [if_neg (fun e : ((s[j]'hj).toNat : Int) = 45 => hd (u8_nat (n := 45) e (by decide))), step]
        have : (s[j]'hj == 45) = false := by simpa using hd
        rw [this, Bool.false_and, Bool.false_or]
    · rw [if_neg (fun e : ((s[j + 1]'hi).toNat : Int) = 45 => hc (u8_nat (n := 45) e (by decide))), step]
      have : (s[j + 1]'hi == 45) = false := by simpa using hc
      rw [this, Bool.and_false, Bool.false_or]
theorem remark_is (s : ByteArray) (k : Nat) (hk : s.size < k) (h : s.size ≤ 4000) : vidimuslaw16_remark.f k s = some (Lx.dash s.data.toList) := by
  have := remark_l (s.size - 1) k s 1 rfl (by omega) (by omega) h (by omega)
  unfold vidimuslaw16_remark.f
  exact this

theorem bba (a b : List UInt8) : ba a ++ ba b = ba (a ++ b) := ba_ext' (by simp [ba])
theorem rdS (l : List ByteArray) (i : Nat) (h : i < l.length) : rdOf ByteArray.empty l (i : Int) = l[i] := by unfold rdOf; simp [h]

/-- What both texts are so far. -/
structure Both (i : Nat) (A B : List UInt8) : Prop where
  ex : ∃ ts : List Lx.Tk, ts.length = i ∧ (∀ rest, Lx.toks (A ++ rest) = Lx.app ts (Lx.toks rest)) ∧ (∀ rest, Lx.toks (B ++ rest) = Lx.app ts (Lx.toks rest)) ∧ A.length ≤ 41 * i ∧ B.length ≤ 59 * i
theorem Both.add {i : Nat} {A B s g : List UInt8} (h : Both i A B) (t : Lx.Tk) (h0 : ∀ rest, Lx.toks (s ++ ([32] ++ rest)) = Lx.app [t] (Lx.toks rest)) (hg : ∀ rest, Lx.toks (s ++ (g ++ rest)) = Lx.app [t] (Lx.toks rest)) (hs : s.length ≤ 40) (hgl : g.length ≤ 19) :
    Both (i + 1) (A ++ (s ++ [32])) (B ++ (s ++ g)) := by
  obtain ⟨ts, h1, h2, h3, h4, h5⟩ := h
  refine ⟨ts ++ [t], by simp [h1], fun rest => ?_, fun rest => ?_, by simp; omega, by simp; omega⟩
  · rw [List.append_assoc, List.append_assoc, h2, h0, Lx.app_app]
  · rw [List.append_assoc, List.append_assoc, h3, hg, Lx.app_app]

theorem j2_step (k : Nat) (l : List ByteArray) (gs : List Int) (A B : ByteArray) (i : Nat) (s : ByteArray) (x28 : List ByteArray) (x29 x30 : Int) (hs : s.size ≤ 40) (hA : A.size ≤ 10000) (hB : B.size ≤ 10000)
    (hn : ∀ g : List UInt8, (g = [32] ∨ g = Lx.gap1 ∨ g = Lx.gap2 ∨ g = Lx.gap3) → vidimuslaw16_LexBlanks.l0 k l gs (A ++ (s ++ (⟨#[32]⟩ : ByteArray))) (B ++ (s ++ ba g)) x28 x29 (wrap64 (x30 + 1)) = some true) :
    vidimuslaw16_LexBlanks.j2 (k + 1) l gs A B (i : Int) s x28 x29 x30 false = some true := by
  have s1 : s.size + 1 ≤ 9223372036854775807 := by omega
  have s5 : s.size + 5 ≤ 9223372036854775807 := by omega
  have s19 : s.size + 19 ≤ 9223372036854775807 := by omega
  have s8 : s.size + 8 ≤ 9223372036854775807 := by omega
  have sl : ∀ g : List UInt8, (s ++ ba g).size = s.size + g.length := fun g => by rw [ByteArray.size_append, ba_size]
  have sA : A.size + (s ++ (⟨#[32]⟩ : ByteArray)).size ≤ 9223372036854775807 := by
    rw [show (s ++ (⟨#[32]⟩ : ByteArray)).size = s.size + 1 from sl [32]]; omega
  have sB : ∀ g : List UInt8, g.length ≤ 19 → B.size + (s ++ ba g).size ≤ 9223372036854775807 := fun g hg => by rw [sl]; omega
  have g0 : B.size + (s ++ (⟨#[32]⟩ : ByteArray)).size ≤ 9223372036854775807 := sB [32] (by decide)
  have g1 : B.size + (s ++ (⟨#[9, 10, 13, 32, 32]⟩ : ByteArray)).size ≤ 9223372036854775807 := sB Lx.gap1 (by decide)
  have g2 : B.size + (s ++ (⟨#[32, 45, 45, 105, 116, 39, 115, 32, 97, 32, 114, 101, 109, 97, 114, 107, 32, 40, 10]⟩ : ByteArray)).size ≤ 9223372036854775807 := sB Lx.gap2 (by decide)
  have g3 : B.size + (s ++ (⟨#[10, 45, 45, 10, 45, 45, 120, 10]⟩ : ByteArray)).size ≤ 9223372036854775807 := sB Lx.gap3 (by decide)
  have n0 : vidimuslaw16_LexBlanks.l0 k l gs (A ++ (s ++ (⟨#[32]⟩ : ByteArray))) (B ++ (s ++ (⟨#[32]⟩ : ByteArray))) x28 x29 (wrap64 (x30 + 1)) = some true := hn [32] (.inl rfl)
  have n1 : vidimuslaw16_LexBlanks.l0 k l gs (A ++ (s ++ (⟨#[32]⟩ : ByteArray))) (B ++ (s ++ (⟨#[9, 10, 13, 32, 32]⟩ : ByteArray))) x28 x29 (wrap64 (x30 + 1)) = some true := hn _ (.inr (.inl rfl))
  have n2 : vidimuslaw16_LexBlanks.l0 k l gs (A ++ (s ++ (⟨#[32]⟩ : ByteArray))) (B ++ (s ++ (⟨#[32, 45, 45, 105, 116, 39, 115, 32, 97, 32, 114, 101, 109, 97, 114, 107, 32, 40, 10]⟩ : ByteArray))) x28 x29 (wrap64 (x30 + 1)) = some true := hn _ (.inr (.inr (.inl rfl)))
  have n3 : vidimuslaw16_LexBlanks.l0 k l gs (A ++ (s ++ (⟨#[32]⟩ : ByteArray))) (B ++ (s ++ (⟨#[10, 45, 45, 10, 45, 45, 120, 10]⟩ : ByteArray))) x28 x29 (wrap64 (x30 + 1)) = some true := hn _ (.inr (.inr (.inr rfl)))
  have hi0 : (0 : Int) ≤ (i : Int) := Int.natCast_nonneg i
  simp only [vidimuslaw16_LexBlanks.j2, Bool.false_eq_true, if_false, if_pos hi0, if_pos s1, if_pos s5, if_pos s19, if_pos s8, if_pos sA, if_pos g0, if_pos g1, if_pos g2, if_pos g3, n0, n1, n2, n3]
  by_cases hg : (i : Int) < (gs.length : Int)
  · rw [if_pos hg]
    by_cases c1 : Int.tmod (rd gs (i : Int)) 4 = 1
    · rw [if_pos c1]
    · rw [if_neg c1]
      by_cases c2 : Int.tmod (rd gs (i : Int)) 4 = 2
      · rw [if_pos c2]
      · rw [if_neg c2]
        by_cases c3 : Int.tmod (rd gs (i : Int)) 4 = 3
        · rw [if_pos c3]
        · rw [if_neg c3]
  · rw [if_neg hg]

theorem blanks_end (k : Nat) (l : List ByteArray) (gs : List Int) (A B : List UInt8) (h4 : l.length ≤ 20) (hk : 100 < k) (hb : Both l.length A B) : vidimuslaw16_LexBlanks.l0 (k + 1) l gs (ba A) (ba B) l (l.length : Int) (l.length : Int) = some true := by
  obtain ⟨ts, b1, b2, b3, b4, b5⟩ := hb
  have hA := b2 []
  have hB := b3 []
  rw [List.append_nil, Lx.toks_nil (l := []) rfl] at hA hB
  have hA' : Lx.toks A = .ok ts := by rw [hA]; simp [Lx.app]
  have hB' : Lx.toks B = .ok ts := by rw [hB]; simp [Lx.app]
  rw [vidimuslaw16_LexBlanks.l0, if_neg (by omega), tok_short (ba A) (by rw [ba_size]; omega), tok_short (ba B) (by rw [ba_size]; omega), ba_data, ba_data, hA', hB']
  rw [Option.bind_some, Option.bind_some]
  rw [if_pos (show (resT (Except.ok ts)).2 = 0 from rfl), if_pos (show (resT (Except.ok ts)).2 = 0 from rfl)]
  have hlen : (resT (Except.ok ts)).1.length = ts.length + 1 := by show (ts.map tk32 ++ [z32]).length = _; simp
  rw [if_pos (by rw [hlen, w64 (by omega) (by omega)]; omega), same_is _ k (by omega) (by omega), Option.bind_some]

theorem blanks_l : ∀ (n k : Nat) (l : List ByteArray) (gs : List Int) (A B : List UInt8) (i : Nat), l.length - i = n → 2 * n + 5000 < k → i ≤ l.length → l.length ≤ 20 → Both i A B →
    vidimuslaw16_LexBlanks.l0 k l gs (ba A) (ba B) l (l.length : Int) (i : Int) = some true := by
  intro n
  induction n with
  | zero =>
    intro k l gs A B i h1 h2 h3 h4 hb
    obtain ⟨k, rfl⟩ : ∃ m, k = m + 1 := ⟨k - 1, by omega⟩
    have : i = l.length := by omega
    subst this
    exact blanks_end k l gs A B h4 (by omega) hb
  | succ n ih =>
    intro k l gs A B i h1 h2 h3 h4 hb
    obtain ⟨k, rfl⟩ : ∃ m, k = m + 2 := ⟨k - 2, by omega⟩
    have hi : i < l.length := by omega
    have j2true : ∀ a b c d e f g h i, vidimuslaw16_LexBlanks.j2 (k + 1) a b c d e f g h i true = some true := by
      intro a b c d e f g h i
      simp only [vidimuslaw16_LexBlanks.j2, if_true]
    rw [vidimuslaw16_LexBlanks.l0, if_pos (by omega), if_pos (by omega), if_pos (by omega), rdS l i hi]
    by_cases h40 : (l[i].size : Int) > 40
    · rw [if_pos h40]
    · rw [if_neg h40]
      have e : vidimusref16_Tokens.f l[i] = lex_Tokens.f l[i] := rfl
      rw [e, tok_short l[i] (by omega), remark_is l[i] (k + 1) (by omega) (by omega)]
      simp only [Option.bind_some]
      by_cases he : (resT (Lx.toks l[i].data.toList)).2 = 0
      · rw [if_pos he]
        by_cases hl2 : ((resT (Lx.toks l[i].data.toList)).1.length : Int) = 2
        · rw [if_pos hl2]
          by_cases hd : Lx.dash l[i].data.toList = true
          · rw [if_pos hd]; exact j2true _ _ _ _ _ _ _ _ _
          · rw [if_neg hd]
            have hd' : Lx.dash l[i].data.toList = false := by simpa using hd
            have hne : (((resT (Lx.toks l[i].data.toList)).1.length : Int) != 2) = false := by rw [hl2]; rfl
            rw [hne]
            obtain ⟨t, ht⟩ : ∃ t, Lx.toks l[i].data.toList = .ok [t] := by
              cases hx : Lx.toks l[i].data.toList with
              | error f => rw [hx] at hl2; exact absurd hl2 (by show ¬ (((([] : List S32)).length : Nat) : Int) = 2; simp)
              | ok ts =>
                rw [hx] at hl2
                have hl3 : (((ts.map tk32 ++ [z32]).length : Nat) : Int) = 2 := hl2
                rw [List.length_append, List.length_map, List.length_singleton] at hl3
                match ts, hl3 with
                | [], h => simp at h
                | [t], _ => exact ⟨t, rfl⟩
                | _ :: _ :: _, h => simp at h; omega
            have hsl : l[i].data.toList.length ≤ 40 := by rw [len_data]; omega
            obtain ⟨_, _, _, _, hAl, hBl⟩ := hb.ex
            have i0 := Lx.item0 _ t ht hd'
            refine j2_step k l gs (ba A) (ba B) i l[i] l (l.length : Int) (i : Int) (by omega) (by rw [ba_size]; omega) (by rw [ba_size]; omega) (fun g hg => ?_)
            have eA : ba A ++ (l[i] ++ (⟨#[32]⟩ : ByteArray)) = ba (A ++ (l[i].data.toList ++ [32])) := by
              rw [← bba, ← bba, ba_of]; rfl
            have eB : ba B ++ (l[i] ++ ba g) = ba (B ++ (l[i].data.toList ++ g)) := by
              rw [← bba, ← bba, ba_of]
            have hg1 : (∀ rest, Lx.toks (l[i].data.toList ++ (g ++ rest)) = Lx.app [t] (Lx.toks rest)) ∧ g.length ≤ 19 := by
              rcases hg with rfl | rfl | rfl | rfl
              · exact ⟨i0, by decide⟩
              · exact ⟨Lx.item1 _ t ht hd', by decide⟩
              · exact ⟨Lx.item2 _ t ht hd', by decide⟩
              · exact ⟨Lx.item3 _ t ht hd', by decide⟩
            rw [show wrap64 ((i : Int) + 1) = ((i + 1 : Nat) : Int) by rw [w64 (by omega) (by omega)]; omega, eA, eB]
            exact ih k l gs _ _ (i + 1) (by omega) (by omega) (by omega) h4 (hb.add t i0 hg1.1 hsl hg1.2)
        · rw [if_neg hl2]; exact j2true _ _ _ _ _ _ _ _ _
      · rw [if_neg he]; exact j2true _ _ _ _ _ _ _ _ _

theorem LexBlanks_law (l : List ByteArray) (gs : List Int) : ∃ k, vidimuslaw16_LexBlanks.f k l gs = some true := by
  refine ⟨6001, ?_⟩
  unfold vidimuslaw16_LexBlanks.f
  rw [awake_is (by omega)]
  simp only [Option.bind_some, if_true]
  by_cases ha : (l.length : Int) > 20
  · rw [if_pos ha]; simp only [vidimuslaw16_LexBlanks.j0, if_true]
  · rw [if_neg ha]
    by_cases hb : (gs.length : Int) > 20
    · rw [decide_eq_true hb]; simp only [vidimuslaw16_LexBlanks.j0, if_true]
    · rw [decide_eq_false hb]
      simp only [vidimuslaw16_LexBlanks.j0, Bool.false_eq_true, if_false]
      refine blanks_l l.length 6000 l gs [] [] 0 (by omega) (by omega) (by omega) (by omega) ⟨[], rfl, fun rest => ?_, fun rest => ?_, by simp, by simp⟩
      · rw [List.nil_append, Lx.app_nil]
      · rw [List.nil_append, Lx.app_nil]
end Go.Proofs.YtcgdncpioafbdaaGreatDoor.Q

namespace Go.Proofs.YtcgdncpioafbdaaGreatDoor.Q
open Go Go.RowKit Go.ChangeShapes Go.WideShapes Go.ChangeAt Go.ChangeMaps Go.Proofs.YtcgdncpioafbdaaGreatDoorW.PrintWords

theorem blanks_walk (A : Option Addr) (c : Nat) (l : List ByteArray) (A1 : Option Addr) (c1 : Nat) (gs : List Int) (w : World) (hr : Kd.C Kd.string w A l.length l) (hc : l.length ≤ c) (hr1 : Kd.C (Kd.int .u8) w A1 gs.length gs) (hc1 : gs.length ≤ c1) (hG : GV w) :
    Calls Tryz.prog 5 #[.slice A l.length c, .slice A1 gs.length c1] w fun e w' => e = .returned (.bool true) ∧ Below w.heap.size w w' := by
  obtain ⟨k, hk⟩ := LexBlanks_law l gs
  exact vidimuslaw16_LexBlanks.calls k A c l A1 c1 gs true w hr hc hr1 hc1 hk hG

set_option maxRecDepth 100000 in
theorem lexBlanks_lifted (os : Os) (started : os.Started) (H : Type) (enc : TypeId × Value → H) :
    ReturnsInHanded {} Tryz.checked os 5 .any (fun w args => (Rows.lexBlanksSpec.pre enc Tryz.prog Tryz.f5 [] false w args ∧ laidMetH Tryz.prog laidL w) ∧ sizedMet enc Tryz.prog Tryz.f5 (OpenSpec.ofChange Rows.lexBlanksSpec) false w args)
      (Rows.lexBlanksSpec.post enc Tryz.prog Tryz.f5 false true false false) := by
  refine returnsIn_law (C := Tryz.checked) (X := fun w _ => laidMetH Tryz.prog laidL w) (fun _ _ _ hh h => h.of_heap hh) ownK started FxLexBlanks.noInit Tryz.func5
    (ChangeSpec.witness_shaped (enc := enc) (C := Tryz.checked) (os := os) (X := fun w _ => laidMetH Tryz.prog laidL w) false (World.laidAll Tryz.prog os laidL) #[.slice none 0 0, .slice none 0 0] 8 (World.laidAll_os _ _ _)
      (World.shaped_of_ZipB (by kernel_rfl) (by kernel_rfl)) (by kernel_rfl) (by kernel_rfl) (by kernel_rfl)
      (by rw [MakeChecks.laidMetH_plain _ _ _ (by kernel_rfl)]; exact laidMet_laidAll _ (by kernel_rfl) (by kernel_rfl))) ?_
  intro W base args ds gs before hval0 hW _ hL hS
  have hval : ∀ (j : Nat) t v, Tryz.f5.params[j]? = some t → args[j]? = some v → Value.okWide Tryz.prog W .any base t v := hval0
  have hW' := hW
  obtain ⟨p, q, hA0, hV, rfl, _, _⟩ := hW
  have hA : DataW.TrodAll enc Tryz.prog W 0 (fun _ => true) true Tryz.f5.params.toList args.toList ds p := hA0
  rw [Tryz.params5] at hA hval
  have hST := fun (W' : World) (hb : Below W.heap.size W W') => args_stay hb (by
    intro t ht
    have h1 : ([35, 36].all fun t => Tryz.prog.readableRec t && decide (t < Tryz.prog.types.size)) = true := by kernel_rfl
    simpa using List.all_eq_true.1 h1 t ht) hA
  obtain ⟨v0, v1, d0, d1, p0, p1, rfl, rfl, rfl, h0, h1⟩ := trodAll_two hA
  obtain ⟨rfl, rfl⟩ := trodVars_none hV
  obtain ⟨A, c, l, rfl, hc, hr, hs⟩ := open_row Kd.string _ Tryz.underlying35 (by kernel_rfl) (one_string Tryz.underlying9) (hval 0 35 v0 rfl rfl) h0
  obtain ⟨A1, c1, gs, rfl, hc1, hr1, hs1⟩ := open_row (Kd.int .u8) _ Tryz.underlying36 (by kernel_rfl) (one_int Tryz.underlying5) (hval 1 36 v1 rfl rfl) h1
  simp only [List.append_nil] at hW'
  refine (blanks_walk A c l A1 c1 gs W hr hc hr1 hc1 (gv_of hL hS)).mono fun e W' ⟨he, hb⟩ => ?_
  subst he
  exact ⟨_, rfl, _, _, _, [], _, [], hW', trodAll_mk1 (shut_bool Tryz.underlying4 _), hST W' hb, rfl, hb.frame _, fun h => by cases h⟩
theorem lexBlanks_holds : Rows.lexBlanksRow.holds Tryz.pinned (OpenSpec.ofChange Rows.lexBlanksSpec) :=
  OpenClaim.holds_of_wide 5 Tryz.f5 rfl rfl rfl rfl rfl rfl rfl ⟨rfl, rfl, rfl, rfl, rfl⟩ rfl rfl rfl rfl rfl FxLexBlanks.name Tryz.func5 FxLexBlanks.joined
    (of_decide_eq_true (by kernel_rfl)) (by unfold Func.isWrapper; first | (rw [if_pos (by decide +kernel)]; kernel_rfl) | (rw [if_neg (by decide +kernel)]; exact ⟨rfl, rfl⟩))
    (fun os started H enc _ => lexBlanks_lifted os started H enc)
end Go.Proofs.YtcgdncpioafbdaaGreatDoor.Q
namespace Go.Proofs.YtcgdncpioafbdaaGreatDoor
open Go Go.RowKit
theorem lexBlanks_card_holds : Rows.LexBlanksCardSaid :=
  Claim7.holds_tied_plain_at .later [] [.data, .data, .data, .data, .sentinel, .sentinel, .pinned, .pinned] true (true, "890fae4095338e243913fac227808f3884bb7d0425187019eadb0545e2bf9cfc") true
    Q.lexBlanks_holds (fun _ h => by cases h) FxLexBlanks.wft (fun _ h => by cases h) lexBlanks_row_tie rfl ⟨rfl, rfl⟩ Fx.pm rfl
    (fun f fn hf hfn => by
      obtain rfl : f = 5 := Option.some.inj (FxLexBlanks.name.symm.trans hf) |>.symm
      obtain rfl : fn = Tryz.f5 := (Option.some.inj (Tryz.func5.symm.trans hfn)).symm
      exact ⟨Fx.pl, fun j t ht => by
        rw [Tryz.params5] at ht
        have hm : t ∈ [35, 36] := by simpa using Array.mem_of_getElem? ht
        exact (show Tryz.prog.wantsStandIn t = false by simpa using List.all_eq_true.1 FxLexBlanks.stand t hm)⟩)
    FxLexBlanks.goes
#print axioms lexBlanks_card_holds
end Go.Proofs.YtcgdncpioafbdaaGreatDoor

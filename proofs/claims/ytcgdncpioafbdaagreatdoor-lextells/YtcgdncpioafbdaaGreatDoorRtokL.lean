/- The document's tokens (the printed plain form) are the lexer's model. -/
import Derived.Test.YtcgdncpioafbdaaGreatDoorRtokQ
import Derived.Test.YtcgdncpioafbdaaGreatDoorPlU
import Derived.Test.YtcgdncpioafbdaaGreatDoorPiece
import Derived.Test.YtcgdncpioafbdaaGreatDoorTokA
namespace Go.Proofs.YtcgdncpioafbdaaGreatDoor.Q
open Go Go.RowKit Go.Proofs.YtcgdncpioafbdaaGreatDoorW.PrintWords

theorem rletter (c : UInt8) : vidimusref16_letter.f (c.toNat : Int) = some (Lx.isLetter c) := all_bytes (p := fun c => vidimusref16_letter.f (c.toNat : Int) = some (Lx.isLetter c)) (by decide +kernel) c
theorem rdigit (c : UInt8) : vidimusref16_digit.f (c.toNat : Int) = some (Lx.isDigit c) := all_bytes (p := fun c => vidimusref16_digit.f (c.toNat : Int) = some (Lx.isDigit c)) (by decide +kernel) c
theorem rpart (c : UInt8) : vidimusref16_part.f (c.toNat : Int) = some (Lx.isPart c) := all_bytes (p := fun c => vidimusref16_part.f (c.toNat : Int) = some (Lx.isPart c)) (by decide +kernel) c
theorem u8_iff (c : UInt8) (n : Nat) (hn : n < 256) : ((c.toNat : Int) = (n : Int)) ↔ c = UInt8.ofNat n :=
  ⟨fun h => u8_nat h hn, fun h => by subst h; simp; omega⟩
theorem numsOne (c : UInt8) : strOfNums [(c.toNat : Int)] = ba [c] := by
  show ba [UInt8.ofNat ((c.toNat : Int)).toNat] = _
  rw [Int.toNat_natCast]
  simp
theorem numsLow (c : UInt8) (h1 : 65 ≤ c.toNat) (h2 : c.toNat ≤ 90) : strOfNums [((c.toNat : Int) + 32) % 256] = ba [Lx.lowerB c] := by
  have : ∀ c : UInt8, 65 ≤ c.toNat → c.toNat ≤ 90 → UInt8.ofNat (c.toNat + 32) = Lx.lowerB c := fun c => all_bytes (p := fun c => 65 ≤ c.toNat → c.toNat ≤ 90 → UInt8.ofNat (c.toNat + 32) = Lx.lowerB c) (by decide +kernel) c
  rw [show ((c.toNat : Int) + 32) % 256 = ((c.toNat + 32 : Nat) : Int) by omega]
  show ba [UInt8.ofNat (((c.toNat + 32 : Nat) : Int)).toNat] = _
  rw [Int.toNat_natCast, this c h1 h2]
theorem lowSame (c : UInt8) (h : ¬ (65 ≤ c.toNat ∧ c.toNat ≤ 90)) : Lx.lowerB c = c := by
  have : ∀ c : UInt8, ¬ (65 ≤ c.toNat ∧ c.toNat ≤ 90) → Lx.lowerB c = c := fun c => all_bytes (p := fun c => ¬ (65 ≤ c.toNat ∧ c.toNat ≤ 90) → Lx.lowerB c = c) (by decide +kernel) c
  exact this c h
theorem rba_app (a b : List UInt8) : ba a ++ ba b = ba (a ++ b) := ba_ext' (by simp [ba])
theorem r_one (s : ByteArray) (i : Nat) (h : i < s.size) : s.extract i (i + 1) = ba [s[i]'h] := by
  apply ba_ext'
  rw [Lib.extract_data, drop_get s i h, ba_data]
  simp
theorem up1 {i : Nat} (h : i < 5000) : wrap64 ((i : Int) + 1) = ((i + 1 : Nat) : Int) := by rw [w64 (by omega) (by omega)]; omega
theorem up2 {i : Nat} (h : i < 5000) : wrap64 ((i : Int) + 2) = ((i + 2 : Nat) : Int) := by rw [w64 (by omega) (by omega)]; omega

abbrev Out := List S32 × Int
/-- The rest behind a remark's beginning. -/
theorem r_l1 (s : ByteArray) (hs : s.size ≤ 4000) (xs : List S32) (r : Out) : ∀ (n i : Nat), s.size - i = n → i ≤ s.size →
    (∀ j, i ≤ j → j ≤ s.size → Lx.skipA true (s.data.toList.drop i) = Lx.skipA false (s.data.toList.drop j) → ∃ k, rtok.l0 k s xs (j : Int) = some r) → ∃ k, rtok.l1 k s xs (i : Int) = some r := by
  intro n
  induction n with
  | zero =>
    intro i h1 h2 h
    have e : s.data.toList.drop i = [] := List.drop_of_length_le (by rw [len_data]; omega)
    obtain ⟨k, hk⟩ := h i (Nat.le_refl _) h2 (by rw [e]; rfl)
    exact ⟨k + 1, by rw [rtok.l1, if_neg (by omega)]; exact hk⟩
  | succ n ih =>
    intro i h1 h2 h
    have hi : i < s.size := by omega
    by_cases hc : s[i]'hi = 10
    · obtain ⟨k, hk⟩ := h i (Nat.le_refl _) h2 (by rw [drop_get s i hi, hc]; rfl)
      exact ⟨k + 1, by rw [rtok.l1, if_pos (by omega), if_pos (by omega), bt_get s i hi, if_pos (by rw [hc]; rfl)]; exact hk⟩
    · have hc2 : (s[i]'hi == 10) = false := by simpa using hc
      obtain ⟨k, hk⟩ := ih (i + 1) (by omega) (by omega) (fun j hj hjs he => h j (by omega) hjs (by
        rw [drop_get s i hi]
        simp only [Lx.skipA, hc2]
        exact he))
      refine ⟨k + 1, ?_⟩
      rw [rtok.l1, if_pos (by omega), if_pos (by omega), bt_get s i hi, if_neg (fun h : ((s[i]'hi).toNat : Int) = 10 => hc (u8_nat (n := 10) h (by decide))), up1 (by omega)]
      exact hk

/-- A word's rest. -/
theorem r_l2 (s : ByteArray) (hs : s.size ≤ 4000) (xs : List S32) (hx : xs.length < 4398046511104) (r : Out) : ∀ (n i : Nat) (w : List UInt8), s.size - i = n → i ≤ s.size → w.length ≤ i →
    (if (w ++ ((s.data.toList.drop i).takeWhile Lx.isPart).map Lx.lowerB).length > 30 then ([], 28) = r else ∃ k, rtok.l0 k s (xs ++ [(⟨1, ba (w ++ ((s.data.toList.drop i).takeWhile Lx.isPart).map Lx.lowerB), 0⟩ : S32)]) ((i + ((s.data.toList.drop i).takeWhile Lx.isPart).length : Nat) : Int) = some r) →
    ∃ k, rtok.l2 k s xs (i : Int) (ba w) = some r := by
  intro n
  have last : ∀ (i : Nat) (w : List UInt8), (if w.length > 30 then ([], 28) = r else ∃ k, rtok.l0 k s (xs ++ [(⟨1, ba w, 0⟩ : S32)]) (i : Int) = some r) → ∃ k, rtok.j5 k s xs (i : Int) (ba w) false = some r := by
    intro i w h
    by_cases hw : w.length > 30
    · rw [if_pos hw] at h
      exact ⟨1, by rw [rtok.j5, if_neg (by decide), if_pos (by rw [ba_size]; omega), h]⟩
    · rw [if_neg hw] at h
      obtain ⟨k, hk⟩ := h
      exact ⟨k + 1, by rw [rtok.j5, if_neg (by decide), if_neg (by rw [ba_size]; omega), if_pos hx]; exact hk⟩
  induction n with
  | zero =>
    intro i w h1 h2 hw h
    have e : s.data.toList.drop i = [] := List.drop_of_length_le (by rw [len_data]; omega)
    rw [e] at h
    simp only [List.takeWhile_nil, List.map_nil, List.append_nil, List.length_nil, Nat.add_zero] at h
    obtain ⟨k, hk⟩ := last i w h
    exact ⟨k + 1, by rw [rtok.l2, if_neg (by omega)]; exact hk⟩
  | succ n ih =>
    intro i w h1 h2 hw h
    have hi : i < s.size := by omega
    rw [drop_get s i hi] at h
    by_cases hp : Lx.isPart (s[i]'hi) = true
    · simp only [List.takeWhile, hp, List.map_cons, List.length_cons] at h
      obtain ⟨k, hk⟩ := ih (i + 1) (w ++ [Lx.lowerB (s[i]'hi)]) (by omega) (by omega) (by simp; omega) (by
        simp only [List.append_assoc, List.singleton_append]
        rw [show i + 1 + ((s.data.toList.drop (i + 1)).takeWhile Lx.isPart).length = i + (((s.data.toList.drop (i + 1)).takeWhile Lx.isPart).length + 1) by omega]
        exact h)
      refine ⟨k + 2, ?_⟩
      rw [rtok.l2, if_pos (by omega), if_pos (by omega), bt_get s i hi, rpart, hp]
      simp only [Option.bind_some]
      rw [rtok.j5, if_pos rfl, if_pos (by omega), if_pos (by omega), bt_get s i hi, up1 (by omega)]
      simp only [Option.bind_some]
      have hsz : ∀ c : UInt8, (ba w).size + (ba [c]).size ≤ 9223372036854775807 := fun c => by rw [ba_size, ba_size]; simp; omega
      by_cases h65 : ((s[i]'hi).toNat : Int) ≥ 65
      · rw [if_pos h65]
        by_cases h90 : ((s[i]'hi).toNat : Int) ≤ 90
        · rw [if_pos h90, numsLow _ (by omega) (by omega), if_pos (hsz _), rba_app]
          exact hk
        · rw [if_neg h90, numsOne, if_pos (hsz _), rba_app]
          rw [lowSame _ (by omega)] at hk
          exact hk
      · rw [if_neg h65, numsOne, if_pos (hsz _), rba_app]
        rw [lowSame _ (by omega)] at hk
        exact hk
    · have hp' : Lx.isPart (s[i]'hi) = false := by simpa using hp
      simp only [List.takeWhile, hp', List.map_nil, List.append_nil, List.length_nil, Nat.add_zero] at h
      obtain ⟨k, hk⟩ := last i w h
      refine ⟨k + 1, ?_⟩
      rw [rtok.l2, if_pos (by omega), if_pos (by omega), bt_get s i hi, rpart, hp']
      exact hk

/-- What stands behind a quote. -/
theorem r_l4 (s : ByteArray) (hs : s.size ≤ 4000) (xs : List S32) (hx : xs.length < 4398046511104) (r : Out) : ∀ (n i : Nat) (t : List UInt8), s.size - i ≤ n → i ≤ s.size → t.length ≤ i →
    (match Lx.strA (s.data.toList.drop i) with
      | none => ([], 20) = r
      | some (u, m) => if (t ++ u).length > 200 then ([], 28) = r else ∃ k, rtok.l0 k s (xs ++ [(⟨3, ba (t ++ u), 0⟩ : S32)]) ((i + m : Nat) : Int) = some r) →
    ∃ k, rtok.l4 k s xs (i : Int) (ba t) false = some r := by
  intro n
  have nil : ∀ (i : Nat) (t : List UInt8), i = s.size → ([], 20) = r → ∃ k, rtok.l4 k s xs (i : Int) (ba t) false = some r := by
    intro i t h h2
    exact ⟨2, by rw [rtok.l4, if_neg (by omega), rtok.j10, if_neg (by decide), if_neg (by decide), h2]⟩
  induction n with
  | zero =>
    intro i t h1 h2 ht h
    have e : s.data.toList.drop i = [] := List.drop_of_length_le (by rw [len_data]; omega)
    rw [e] at h
    exact nil i t (by omega) h
  | succ n ih =>
    intro i t h1 h2 ht h
    by_cases hi : i < s.size
    · rw [drop_get s i hi] at h
      by_cases hc : s[i]'hi = 39
      · rw [hc] at h
        by_cases hd : ∃ h2 : i + 1 < s.size, s[i + 1]'h2 = 39
        · obtain ⟨hi2, hd⟩ := hd
          rw [drop_get s (i + 1) hi2, hd, Lx.strA_two] at h
          obtain ⟨k, hk⟩ := ih (i + 2) (t ++ [39]) (by omega) (by omega) (by simp; omega) (by
            cases hx : Lx.strA (s.data.toList.drop (i + 2)) with
            | none => rw [hx] at h; exact h
            | some p =>
              rw [hx] at h
              obtain ⟨u, m⟩ := p
              simp only [Option.map_some] at h
              simp only [List.append_assoc, List.singleton_append]
              rw [show i + 2 + m = i + (m + 2) by omega]
              exact h)
          refine ⟨k + 2, ?_⟩
          rw [rtok.l4, if_pos (by omega), rtok.j10, if_pos (by decide), if_pos (by omega), if_pos (by omega), bt_get s i hi, if_pos (by rw [hc]; rfl), up1 (by omega), if_pos (by omega), if_pos (by omega), bt_get s (i + 1) hi2, if_pos (by rw [hd]; rfl), if_pos (by rw [ba_size]; omega), up2 (by omega)]
          have e : ba t ++ (⟨#[39]⟩ : ByteArray) = ba (t ++ [39]) := rba_app t [39]
          rw [e]
          exact hk
        · have hl : Lx.strA (39 :: s.data.toList.drop (i + 1)) = some ([], 1) := by
            by_cases h3 : i + 1 < s.size
            · rw [drop_get s (i + 1) h3]
              have : (s[i + 1]'h3 == 39) = false := by
                rw [beq_eq_false_iff_ne]; exact fun e => hd ⟨h3, e⟩
              simp [Lx.strA, this]
            · rw [List.drop_of_length_le (by rw [len_data]; omega)]; rfl
          rw [hl] at h
          simp only [List.append_nil] at h
          have fin4 : ∃ k, rtok.l4 k s xs ((i + 1 : Nat) : Int) (ba t) true = some r := by
            have hj : ∃ k, rtok.j10 k s xs ((i + 1 : Nat) : Int) (ba t) true false = some r := by
              by_cases hl : t.length > 200
              · rw [if_pos hl] at h
                exact ⟨1, by rw [rtok.j10, if_neg (by decide), if_pos rfl, if_pos (by rw [ba_size]; omega), h]⟩
              · rw [if_neg hl] at h
                obtain ⟨k, hk⟩ := h
                exact ⟨k + 1, by rw [rtok.j10, if_neg (by decide), if_pos rfl, if_neg (by rw [ba_size]; omega), if_pos hx]; exact hk⟩
            obtain ⟨k, hk⟩ := hj
            refine ⟨k + 1, ?_⟩
            rw [rtok.l4]
            split <;> exact hk
          obtain ⟨k, hk⟩ := fin4
          refine ⟨k + 2, ?_⟩
          rw [rtok.l4, if_pos (by omega), rtok.j10, if_pos (by decide), if_pos (by omega), if_pos (by omega), bt_get s i hi, if_pos (by rw [hc]; rfl), up1 (by omega)]
          by_cases h3 : i + 1 < s.size
          · rw [if_pos (by omega), if_pos (by omega), bt_get s (i + 1) h3, if_neg (fun e : ((s[i + 1]'h3).toNat : Int) = 39 => hd ⟨h3, u8_nat (n := 39) e (by decide)⟩)]
            exact hk
          · rw [if_neg (by omega)]
            exact hk
      · have hc2 : (s[i]'hi == 39) = false := by simpa using hc
        rw [Lx.strA_one _ _ hc2] at h
        obtain ⟨k, hk⟩ := ih (i + 1) (t ++ [s[i]'hi]) (by omega) (by omega) (by simp; omega) (by
          cases hx : Lx.strA (s.data.toList.drop (i + 1)) with
          | none => rw [hx] at h; exact h
          | some p =>
            rw [hx] at h
            obtain ⟨u, m⟩ := p
            simp only [Option.map_some] at h
            simp only [List.append_assoc, List.singleton_append]
            rw [show i + 1 + m = i + (m + 1) by omega]
            exact h)
        refine ⟨k + 2, ?_⟩
        rw [rtok.l4, if_pos (by omega), rtok.j10, if_pos (by decide), if_pos (by omega), if_pos (by omega), bt_get s i hi, if_neg (fun e : ((s[i]'hi).toNat : Int) = 39 => hc (u8_nat (n := 39) e (by decide))), up1 (by omega), if_pos (by omega), if_pos (by omega), Int.toNat_natCast, Int.toNat_natCast, r_one s i hi, if_pos (by rw [ba_size, ba_size]; simp; omega), rba_app]
        exact hk
    · have e : s.data.toList.drop i = [] := List.drop_of_length_le (by rw [len_data]; omega)
      rw [e] at h
      exact nil i t (by omega) h

/-- A number's rest. -/
theorem dig_le (c : UInt8) (h : Lx.isDigit c = true) : 48 ≤ c.toNat ∧ c.toNat ≤ 57 := digit_range c h
theorem r_l3 (s : ByteArray) (hs : s.size ≤ 4000) (xs : List S32) (hx : xs.length < 4398046511104) (r : Out) : ∀ (n i : Nat) (v : Nat) (o : Bool), s.size - i = n → i ≤ s.size → v ≤ 9223372036854775807 →
    (((s.data.toList.drop i).dropWhile Lx.isDigit).head?.any Lx.isPart = true → ([], 20) = r) →
    (((s.data.toList.drop i).dropWhile Lx.isDigit).head?.any Lx.isPart = false → (o = true ∨ valFrom v ((s.data.toList.drop i).takeWhile Lx.isDigit) > 9223372036854775807) → ([], 26) = r) →
    (((s.data.toList.drop i).dropWhile Lx.isDigit).head?.any Lx.isPart = false → o = false → valFrom v ((s.data.toList.drop i).takeWhile Lx.isDigit) ≤ 9223372036854775807 →
      ∃ k, rtok.l0 k s (xs ++ [(⟨2, (⟨#[]⟩ : ByteArray), (valFrom v ((s.data.toList.drop i).takeWhile Lx.isDigit) : Nat)⟩ : S32)]) ((i + ((s.data.toList.drop i).takeWhile Lx.isDigit).length : Nat) : Int) = some r) →
    ∃ k, rtok.l3 k s xs (i : Int) (v : Int) o = some r := by
  intro n
  have end8 : ∀ (i v : Nat) (o b : Bool), v ≤ 9223372036854775807 → (b = true → ([], 20) = r) → (b = false → o = true → ([], 26) = r) → (b = false → o = false → ∃ k, rtok.l0 k s (xs ++ [(⟨2, (⟨#[]⟩ : ByteArray), (v : Nat)⟩ : S32)]) (i : Int) = some r) → ∃ k, rtok.j8 k s xs (i : Int) (v : Int) o b = some r := by
    intro i v o b hv ha hb hc
    cases b with
    | true => exact ⟨1, by rw [rtok.j8, if_pos rfl, ha rfl]⟩
    | false =>
      cases o with
      | true => exact ⟨1, by rw [rtok.j8, if_neg (by decide), if_pos rfl, hb rfl rfl]⟩
      | false =>
        obtain ⟨k, hk⟩ := hc rfl rfl
        exact ⟨k + 1, by rw [rtok.j8, if_neg (by decide), if_neg (by decide), if_pos hx, w64 (by omega) (by omega)]; exact hk⟩
  -- no digit stands at i
  have end7 : ∀ (i v : Nat) (o : Bool), i ≤ s.size → v ≤ 9223372036854775807 → ((s.data.toList.drop i).head?.any Lx.isPart = true → ([], 20) = r) → ((s.data.toList.drop i).head?.any Lx.isPart = false → o = true → ([], 26) = r) →
      ((s.data.toList.drop i).head?.any Lx.isPart = false → o = false → ∃ k, rtok.l0 k s (xs ++ [(⟨2, (⟨#[]⟩ : ByteArray), (v : Nat)⟩ : S32)]) (i : Int) = some r) → ∃ k, rtok.j7 k s xs (i : Int) (v : Int) o false = some r := by
    intro i v o hi hv ha hb hc
    obtain ⟨k, hk⟩ := end8 i v o _ hv ha hb hc
    refine ⟨k + 1, ?_⟩
    rw [rtok.j7, if_neg (by decide)]
    by_cases hl : i < s.size
    · rw [if_pos (by omega), if_pos (by omega), bt_get s i hl, rpart]
      rw [drop_get s i hl] at hk
      exact hk
    · rw [if_neg (by omega)]
      rw [List.drop_of_length_le (by rw [len_data]; omega)] at hk
      exact hk
  have v0 : ∀ v : Nat, valFrom v [] = v := fun _ => rfl
  induction n with
  | zero =>
    intro i v o h1 h2 hv ha hb hc
    have e : s.data.toList.drop i = [] := List.drop_of_length_le (by rw [len_data]; omega)
    rw [e] at ha hb hc
    obtain ⟨k, hk⟩ := end7 i v o h2 hv (by rw [e]; exact ha) (by rw [e]; exact fun h ho => hb h (.inl ho)) (by rw [e]; exact fun h ho => hc h ho (by show v ≤ _; exact hv))
    exact ⟨k + 1, by rw [rtok.l3, if_neg (by omega)]; exact hk⟩
  | succ n ih =>
    intro i v o h1 h2 hv ha hb hc
    have hi : i < s.size := by omega
    rw [drop_get s i hi] at ha hb hc
    by_cases hd : Lx.isDigit (s[i]'hi) = true
    · have hr := dig_le _ hd
      have e1 : (s[i]'hi :: s.data.toList.drop (i + 1)).dropWhile Lx.isDigit = (s.data.toList.drop (i + 1)).dropWhile Lx.isDigit := by simp [List.dropWhile, hd]
      have e2 : (s[i]'hi :: s.data.toList.drop (i + 1)).takeWhile Lx.isDigit = s[i]'hi :: (s.data.toList.drop (i + 1)).takeWhile Lx.isDigit := by simp [List.takeWhile, hd]
      rw [e1] at ha hb hc
      rw [e2, valFrom_cons] at hb hc
      have hsub : (((s[i]'hi).toNat : Int) - 48) % 256 = (((s[i]'hi).toNat - 48 : Nat) : Int) := by omega
      obtain ⟨d, hdd⟩ : ∃ d, (s[i]'hi).toNat - 48 = d := ⟨_, rfl⟩
      have hd9 : d ≤ 9 := by omega
      rw [hdd] at hb hc hsub
      have hge := fold_ge ((s.data.toList.drop (i + 1)).takeWhile Lx.isDigit) (v * 10 + d)
      have hfin : ∀ (v' : Nat) (o' : Bool), (∃ k, rtok.l3 k s xs ((i + 1 : Nat) : Int) (v' : Int) o' = some r) → (((v : Int) > (9223372036854775807 - (d : Int)) / 10) → v' = v ∧ o' = true) → (¬ ((v : Int) > (9223372036854775807 - (d : Int)) / 10) → v' = v * 10 + d ∧ o' = o) → ∃ k, rtok.l3 k s xs (i : Int) (v : Int) o = some r := by
        intro v' o' ⟨k, hk⟩ hp hn
        refine ⟨k + 2, ?_⟩
        rw [rtok.l3, if_pos (by omega), if_pos (by omega), bt_get s i hi, rdigit, hd]
        simp only [Option.bind_some]
        rw [rtok.j7, if_pos rfl, if_pos (by omega), if_pos (by omega), bt_get s i hi, hsub, up1 (by omega)]
        by_cases hov : (v : Int) > (9223372036854775807 - (d : Int)) / 10
        · obtain ⟨rfl, rfl⟩ := hp hov
          rw [if_pos hov]; exact hk
        · obtain ⟨rfl, rfl⟩ := hn hov
          rw [if_neg hov]
          have e1 : IntKind.u64.wrap (IntKind.u64.wrap ((v : Int) * 10) + (d : Int)) = ((v * 10 + d : Nat) : Int) := by
            have e0 : IntKind.u64.wrap ((v : Int) * 10) = (v : Int) * 10 := by
              simp [IntKind.wrap, IntKind.signed, IntKind.bits]; omega
            rw [e0]
            simp [IntKind.wrap, IntKind.signed, IntKind.bits]; omega
          rw [e1]; exact hk
      by_cases hov : (v : Int) > (9223372036854775807 - (d : Int)) / 10
      · have hbig : v * 10 + d > 9223372036854775807 := by omega
        exact hfin v true (ih (i + 1) v true (by omega) (by omega) hv ha (fun h _ => hb h (.inr (by omega))) (fun _ h => by cases h)) (fun _ => ⟨rfl, rfl⟩) (fun hh => absurd hov hh)
      · refine hfin (v * 10 + d) o (ih (i + 1) (v * 10 + d) o (by omega) (by omega) (by omega) ha hb (fun h ho hl => ?_)) (fun hh => absurd hh hov) (fun _ => ⟨rfl, rfl⟩)
        have h4 := hc h ho hl
        rw [show i + 1 + ((s.data.toList.drop (i + 1)).takeWhile Lx.isDigit).length = i + (s[i]'hi :: (s.data.toList.drop (i + 1)).takeWhile Lx.isDigit).length by rw [List.length_cons]; omega]
        exact h4
    · have hd' : Lx.isDigit (s[i]'hi) = false := by simpa using hd
      have e1 : (s[i]'hi :: s.data.toList.drop (i + 1)).dropWhile Lx.isDigit = s[i]'hi :: s.data.toList.drop (i + 1) := by simp [List.dropWhile, hd']
      have e2 : (s[i]'hi :: s.data.toList.drop (i + 1)).takeWhile Lx.isDigit = [] := by simp [List.takeWhile, hd']
      rw [e1] at ha hb hc
      rw [e2] at hb hc
      obtain ⟨k, hk⟩ := end7 i v o h2 hv (by rw [drop_get s i hi]; exact ha) (by rw [drop_get s i hi]; exact fun h ho => hb h (.inl ho)) (by rw [drop_get s i hi]; exact fun h ho => hc h ho (by show v ≤ _; exact hv))
      exact ⟨k + 1, by rw [rtok.l3, if_pos (by omega), if_pos (by omega), bt_get s i hi, rdigit, hd']; exact hk⟩

/-! ### Signs -/
def twoB : List ByteArray := [(⟨#[60, 61]⟩ : ByteArray), (⟨#[62, 61]⟩ : ByteArray), (⟨#[60, 62]⟩ : ByteArray), (⟨#[124, 124]⟩ : ByteArray)]
def oneI : List Int := [40, 41, 44, 42, 43, 45, 47, 37, 61, 60, 62, 59]
theorem r_end (s : ByteArray) (xs : List S32) (hx : xs.length < 4398046511104) (i n : Nat) (hi : i + n ≤ s.size) (hs : s.size ≤ 4000) (k : Nat) :
    (if 0 ≤ (i : Int) then (if (i : Int) ≤ wrap64 ((i : Int) + (n : Int)) then (if wrap64 ((i : Int) + (n : Int)) ≤ (s.size : Int) then (if xs.length < 4398046511104 then (rtok.l0 k s (xs ++ [(⟨4, s.extract ((i : Int)).toNat (wrap64 ((i : Int) + (n : Int))).toNat, 0⟩ : S32)]) (wrap64 ((i : Int) + (n : Int)))) else none) else none) else none) else none)
      = rtok.l0 k s (xs ++ [(⟨4, ba ((s.data.toList.drop i).take n), 0⟩ : S32)]) ((i + n : Nat) : Int) := by
  have e : wrap64 ((i : Int) + (n : Int)) = ((i + n : Nat) : Int) := by rw [w64 (by omega) (by omega)]; omega
  rw [e, if_pos (by omega), if_pos (by omega), if_pos (by omega), if_pos hx, Int.toNat_natCast, Int.toNat_natCast]
  have e2 : s.extract i (i + n) = ba ((s.data.toList.drop i).take n) := by
    apply ba_ext'
    rw [Lib.extract_data, ba_data, show i + n - i = n by omega]
  rw [e2]
theorem r_l6 (s : ByteArray) (hs : s.size ≤ 4000) (xs : List S32) (hx : xs.length < 4398046511104) (r : Out) (i : Nat) (hi : i < s.size) : ∀ (n j : Nat) (m : Nat), 12 - j = n → j ≤ 12 → (m = 0 ∨ m = 1) →
    ((m = 1 ∨ (oneI.drop j).contains ((s[i]'hi).toNat : Int) = true) → ∃ k, rtok.l0 k s (xs ++ [(⟨4, ba ((s.data.toList.drop i).take 1), 0⟩ : S32)]) ((i + 1 : Nat) : Int) = some r) →
    (m = 0 → (oneI.drop j).contains ((s[i]'hi).toNat : Int) = false → ([], 20) = r) →
    ∃ k, rtok.l6 k s xs (i : Int) ((s[i]'hi).toNat : Int) (m : Int) oneI 12 (j : Int) = some r := by
  intro n
  induction n with
  | zero =>
    intro j m h1 h2 hm ha hb
    rcases hm with rfl | rfl
    · have : j = 12 := by omega
      subst this
      have := hb rfl rfl
      exact ⟨1, by rw [rtok.l6, if_neg (by omega), if_pos (by omega), this]⟩
    · obtain ⟨k, hk⟩ := ha (.inl rfl)
      exact ⟨k + 1, by rw [rtok.l6, if_neg (by omega), if_neg (by decide)]; exact (r_end s xs hx i 1 (by omega) hs k).trans hk⟩
  | succ n ih =>
    intro j m h1 h2 hm ha hb
    have hj : j < oneI.length := by show j < 12; omega
    have hl : oneI.drop j = rd oneI (j : Int) :: oneI.drop (j + 1) := by
      rw [List.drop_eq_getElem_cons hj]
      simp [rd, hj]
    rw [hl] at ha hb
    by_cases hc : ((s[i]'hi).toNat : Int) = rd oneI (j : Int)
    · obtain ⟨k, hk⟩ := ih (j + 1) 1 (by omega) (by omega) (.inr rfl) (fun _ => ha (.inr (by rw [List.contains_cons, hc]; simp))) (fun h => by omega)
      refine ⟨k + 1, ?_⟩
      rw [rtok.l6, if_pos (by omega), if_pos (by omega), if_pos (by show (j : Int) < 12; omega), if_pos hc, up1 (by omega)]
      exact hk
    · have hc2 : (((s[i]'hi).toNat : Int) == rd oneI (j : Int)) = false := by simpa using hc
      rw [List.contains_cons, hc2, Bool.false_or] at ha hb
      obtain ⟨k, hk⟩ := ih (j + 1) m (by omega) (by omega) hm ha hb
      refine ⟨k + 1, ?_⟩
      rw [rtok.l6, if_pos (by omega), if_pos (by omega), if_pos (by show (j : Int) < 12; omega), if_neg hc, up1 (by omega)]
      exact hk
theorem r_l5 (s : ByteArray) (hs : s.size ≤ 4000) (xs : List S32) (hx : xs.length < 4398046511104) (r : Out) (i : Nat) (hi : i < s.size) : ∀ (n j : Nat) (m : Nat), 4 - j = n → j ≤ 4 → (m = 0 ∨ (m = 2 ∧ i + 2 ≤ s.size)) →
    ((m = 2 ∨ ((twoB.drop j).map (·.toList)).contains ((s.data.toList.drop i).take 2) = true) → ∃ k, rtok.l0 k s (xs ++ [(⟨4, ba ((s.data.toList.drop i).take 2), 0⟩ : S32)]) ((i + 2 : Nat) : Int) = some r) →
    (m = 0 → ((twoB.drop j).map (·.toList)).contains ((s.data.toList.drop i).take 2) = false → ∃ k, rtok.l6 k s xs (i : Int) ((s[i]'hi).toNat : Int) 0 oneI 12 0 = some r) →
    ∃ k, rtok.l5 k s xs (i : Int) ((s[i]'hi).toNat : Int) (m : Int) twoB 4 (j : Int) = some r := by
  intro n
  induction n with
  | zero =>
    intro j m h1 h2 hm ha hb
    rcases hm with rfl | ⟨rfl, hi2⟩
    · have : j = 4 := by omega
      subst this
      obtain ⟨k, hk⟩ := hb rfl rfl
      exact ⟨k + 1, by rw [rtok.l5, if_neg (by omega), if_pos (by omega)]; exact hk⟩
    · obtain ⟨k, hk⟩ := ha (.inl rfl)
      exact ⟨k + 1, by rw [rtok.l5, if_neg (by omega), if_neg (by decide)]; exact (r_end s xs hx i 2 hi2 hs k).trans hk⟩
  | succ n ih =>
    intro j m h1 h2 hm ha hb
    have hj : j < twoB.length := by show j < 4; omega
    have hl : twoB.drop j = rdOf ByteArray.empty twoB (j : Int) :: twoB.drop (j + 1) := by
      rw [List.drop_eq_getElem_cons hj]
      simp [rdOf, hj]
    rw [hl, List.map_cons, List.contains_cons] at ha hb
    have h2len : (rdOf ByteArray.empty twoB (j : Int)).toList.length = 2 := by
      have : ∀ j : Fin 4, (rdOf ByteArray.empty twoB (j.val : Int)).toList.length = 2 := by decide +kernel
      exact this ⟨j, by omega⟩
    by_cases hi2 : i + 2 ≤ s.size
    · have e2 : (s.extract i (i + 2)).toList = (s.data.toList.drop i).take 2 := by
        rw [Lib.toList_data, Lib.extract_data, show i + 2 - i = 2 by omega]
      by_cases hc : (s.data.toList.drop i).take 2 = (rdOf ByteArray.empty twoB (j : Int)).toList
      · obtain ⟨k, hk⟩ := ih (j + 1) 2 (by omega) (by omega) (.inr ⟨rfl, hi2⟩) (fun _ => ha (.inr (by rw [hc]; simp))) (fun h => by omega)
        refine ⟨k + 1, ?_⟩
        rw [rtok.l5, if_pos (by omega), if_pos (by omega), if_pos (by show (j : Int) < 4; omega), up2 (by omega), if_pos (by omega), if_pos (by omega), if_pos (by omega), Int.toNat_natCast, Int.toNat_natCast, e2, if_pos hc, up1 (by omega)]
        exact hk
      · have hc2 : ((s.data.toList.drop i).take 2 == (rdOf ByteArray.empty twoB (j : Int)).toList) = false := by simpa using hc
        rw [hc2, Bool.false_or] at ha hb
        obtain ⟨k, hk⟩ := ih (j + 1) m (by omega) (by omega) hm ha hb
        refine ⟨k + 1, ?_⟩
        rw [rtok.l5, if_pos (by omega), if_pos (by omega), if_pos (by show (j : Int) < 4; omega), up2 (by omega), if_pos (by omega), if_pos (by omega), if_pos (by omega), Int.toNat_natCast, Int.toNat_natCast, e2, if_neg hc, up1 (by omega)]
        exact hk
    · have hc2 : ((s.data.toList.drop i).take 2 == (rdOf ByteArray.empty twoB (j : Int)).toList) = false := by
        rw [beq_eq_false_iff_ne]
        intro e
        have := congrArg List.length e
        rw [h2len, List.length_take, List.length_drop, len_data] at this
        omega
      rw [hc2, Bool.false_or] at ha hb
      obtain ⟨k, hk⟩ := ih (j + 1) m (by omega) (by omega) hm ha hb
      refine ⟨k + 1, ?_⟩
      rw [rtok.l5, if_pos (by omega), if_pos (by omega), if_pos (by show (j : Int) < 4; omega), up2 (by omega), if_neg (by omega), up1 (by omega)]
      exact hk

theorem twoB_is : (twoB.map (·.toList)) = Lx.twos := by decide +kernel
theorem oneI_is (c : UInt8) : oneI.contains (c.toNat : Int) = Lx.ones.contains c := all_bytes (p := fun c => oneI.contains (c.toNat : Int) = Lx.ones.contains c) (by decide +kernel) c

/-! ### All of it -/
theorem blank_iff (c : UInt8) : Lx.isBlank c = true → (c.toNat : Int) = 32 ∨ (c.toNat : Int) = 9 ∨ (c.toNat : Int) = 10 ∨ (c.toNat : Int) = 13 := all_bytes (p := fun c => Lx.isBlank c = true → (c.toNat : Int) = 32 ∨ (c.toNat : Int) = 9 ∨ (c.toNat : Int) = 10 ∨ (c.toNat : Int) = 13) (by decide +kernel) c
theorem blank_not (c : UInt8) : Lx.isBlank c = false → (c.toNat : Int) ≠ 32 ∧ (c.toNat : Int) ≠ 9 ∧ (c.toNat : Int) ≠ 10 ∧ (c.toNat : Int) ≠ 13 := all_bytes (p := fun c => Lx.isBlank c = false → (c.toNat : Int) ≠ 32 ∧ (c.toNat : Int) ≠ 9 ∧ (c.toNat : Int) ≠ 10 ∧ (c.toNat : Int) ≠ 13) (by decide +kernel) c
theorem l0_to_j1 (s : ByteArray) (xs : List S32) (i : Nat) (hi : i < s.size) (r : Out) (h : ∃ k, rtok.j1 k s xs (i : Int) ((s[i]'hi).toNat : Int) (Lx.isBlank (s[i]'hi)) = some r) : ∃ k, rtok.l0 k s xs (i : Int) = some r := by
  obtain ⟨k, hk⟩ := h
  refine ⟨k + 1, ?_⟩
  rw [rtok.l0, if_pos (by omega), if_pos (by omega), bt_get s i hi]
  cases hb : Lx.isBlank (s[i]'hi) with
  | true =>
    rw [hb] at hk
    rcases blank_iff _ hb with e | e | e | e <;> rw [e] at hk ⊢ <;> exact hk
  | false =>
    rw [hb] at hk
    obtain ⟨h1, h2, h3, h4⟩ := blank_not _ hb
    have h5 : (((s[i]'hi).toNat : Int) == 13) = false := by simpa using h4
    rw [if_neg h1, if_neg h2, if_neg h3, h5]
    exact hk

theorem map_snoc (acc : List Lx.Tk) (t : Lx.Tk) : (acc ++ [t]).map tk32 = acc.map tk32 ++ [tk32 t] := by simp
theorem r_all (s : ByteArray) (hs : s.size ≤ 4000) : ∀ (n i : Nat) (acc : List Lx.Tk), s.size - i ≤ n → i ≤ s.size → acc.length ≤ i → ∃ k, rtok.l0 k s (acc.map tk32) (i : Int) = some (fin acc (Lx.toks (s.data.toList.drop i))) := by
  intro n
  have nil : ∀ (i : Nat) (acc : List Lx.Tk), i = s.size → acc.length ≤ i → ∃ k, rtok.l0 k s (acc.map tk32) (i : Int) = some (fin acc (Lx.toks (s.data.toList.drop i))) := by
    intro i acc hi ha
    refine ⟨1, ?_⟩
    rw [rtok.l0, if_neg (by omega), if_pos (by rw [List.length_map]; omega), List.drop_of_length_le (by rw [len_data]; omega), Lx.toks_nil rfl, fin_nil]
    rfl
  induction n with
  | zero => intro i acc h1 h2 ha; exact nil i acc (by omega) ha
  | succ n ih =>
    intro i acc h1 h2 ha
    by_cases hi : i < s.size
    · have hx : (acc.map tk32).length < 4398046511104 := by rw [List.length_map]; omega
      have hdl : (s.data.toList.drop (i + 1)).length = s.size - (i + 1) := by rw [List.length_drop, len_data]
      refine l0_to_j1 s _ i hi _ ?_
      rw [drop_get s i hi]
      cases hb : Lx.isBlank (s[i]'hi) with
      | true =>
        obtain ⟨k, hk⟩ := ih (i + 1) acc (by omega) (by omega) (by omega)
        refine ⟨k + 1, ?_⟩
        rw [rtok.j1, if_pos rfl, up1 (by omega), hk, Lx.toks_cong (l := s[i]'hi :: s.data.toList.drop (i + 1)) (m := s.data.toList.drop (i + 1)) (by simp [Lx.skipA, hb])]
      | false =>
        -- a remark?
        have hj1 : ∀ (r : Out), (∃ k, rtok.j2 k s (acc.map tk32) (i : Int) ((s[i]'hi).toNat : Int) (s[i]'hi == 45 && (s.data.toList.drop (i + 1)).head? == some 45) = some r) → ∃ k, rtok.j1 k s (acc.map tk32) (i : Int) ((s[i]'hi).toNat : Int) false = some r := by
          intro r ⟨k, hk⟩
          refine ⟨k + 1, ?_⟩
          rw [rtok.j1, if_neg (by decide)]
          by_cases h45 : s[i]'hi = 45
          · rw [if_pos (by rw [h45]; rfl), up1 (by omega)]
            by_cases h3 : i + 1 < s.size
            · rw [if_pos (by omega), if_pos (by omega), bt_get s (i + 1) h3]
              rw [drop_get s (i + 1) h3] at hk
              have e : (((s[i + 1]'h3).toNat : Int) == 45) = (s[i + 1]'h3 == 45) := by
                rw [Bool.eq_iff_iff, beq_iff_eq, beq_iff_eq]
                exact u8_iff _ 45 (by decide)
              rw [e]
              have e2 : (s[i]'hi == 45 && (s[i + 1]'h3 :: s.data.toList.drop (i + 1 + 1)).head? == some 45) = (s[i + 1]'h3 == 45) := by rw [h45]; simp
              rw [e2] at hk
              exact hk
            · rw [if_neg (by omega)]
              have e2 : (s[i]'hi == 45 && (s.data.toList.drop (i + 1)).head? == some 45) = false := by
                rw [List.drop_of_length_le (by rw [len_data]; omega)]; simp
              rw [e2] at hk
              exact hk
          · rw [if_neg (fun e : ((s[i]'hi).toNat : Int) = 45 => h45 (u8_nat (n := 45) e (by decide)))]
            have e2 : (s[i]'hi == 45) = false := by simpa using h45
            rw [e2, Bool.false_and] at hk
            exact hk
        refine hj1 _ ?_
        cases hd : (s[i]'hi == 45 && (s.data.toList.drop (i + 1)).head? == some 45) with
        | true =>
          have hc : s[i]'hi = 45 := by
            have := hd
            rw [Bool.and_eq_true, beq_iff_eq] at this
            exact this.1
          obtain ⟨k, hk⟩ := r_l1 s hs (acc.map tk32) (fin acc (Lx.toks (s[i]'hi :: s.data.toList.drop (i + 1)))) (s.size - (i + 1)) (i + 1) rfl (by omega) (fun j hj hjs he => by
            have h5 := ih j acc (by omega) hjs (by omega)
            rw [Lx.toks_cong (l := s[i]'hi :: s.data.toList.drop (i + 1)) (m := s.data.toList.drop j) (by
              simp only [Lx.skipA, hb, hd]
              exact he)]
            exact h5)
          refine ⟨k + 2, ?_⟩
          rw [rtok.j2, if_pos rfl, rtok.l1, if_pos (by omega), if_pos (by omega), bt_get s i hi, if_neg (by rw [hc]; decide), up1 (by omega)]
          exact hk
        | false =>
          have hsk : Lx.skipA false (s[i]'hi :: s.data.toList.drop (i + 1)) = s[i]'hi :: s.data.toList.drop (i + 1) := by
            simp only [Lx.skipA, hb, hd]
            rfl
          have bad : ∀ e : Nat, Lx.tokA (s[i]'hi :: s.data.toList.drop (i + 1)) = .error e → (([] : List S32), (e : Int)) = fin acc (Lx.toks (s[i]'hi :: s.data.toList.drop (i + 1))) := by
            intro e he
            rw [Lx.toks_err hsk he]; rfl
          have good : ∀ (t : Lx.Tk) (m : Nat), Lx.tokA (s[i]'hi :: s.data.toList.drop (i + 1)) = .ok (t, m) → ∃ k, rtok.l0 k s (acc.map tk32 ++ [tk32 t]) ((i + m : Nat) : Int) = some (fin acc (Lx.toks (s[i]'hi :: s.data.toList.drop (i + 1)))) := by
            intro t m ht
            have hle := Lx.tokA_le ht
            rw [List.length_cons, hdl] at hle
            obtain ⟨k, hk⟩ := ih (i + m) (acc ++ [t]) (by omega) (by omega) (by simp; omega)
            refine ⟨k, ?_⟩
            rw [map_snoc] at hk
            rw [hk, Lx.toks_ok hsk ht, fin_bind, ← drop_get s i hi, List.drop_drop]
          have hsrt : ∀ r : Out, (∃ k, (if Lx.isLetter (s[i]'hi) = true then rtok.l2 k s (acc.map tk32) (i : Int) (ba []) else if Lx.isDigit (s[i]'hi) = true then rtok.l3 k s (acc.map tk32) (i : Int) ((0 : Nat) : Int) false else if s[i]'hi = 39 then rtok.l4 k s (acc.map tk32) ((i + 1 : Nat) : Int) (ba []) false else rtok.l5 k s (acc.map tk32) (i : Int) ((s[i]'hi).toNat : Int) ((0 : Nat) : Int) twoB 4 ((0 : Nat) : Int)) = some r) → ∃ k, rtok.j2 k s (acc.map tk32) (i : Int) ((s[i]'hi).toNat : Int) false = some r := by
            intro r ⟨k, hk⟩
            refine ⟨k + 1, ?_⟩
            rw [rtok.j2, if_neg (by decide), rletter]
            simp only [Option.bind_some]
            by_cases hl : Lx.isLetter (s[i]'hi) = true
            · rw [if_pos hl] at hk ⊢; exact hk
            · rw [if_neg hl] at hk ⊢
              rw [rdigit]
              simp only [Option.bind_some]
              by_cases hg : Lx.isDigit (s[i]'hi) = true
              · rw [if_pos hg] at hk ⊢; exact hk
              · rw [if_neg hg] at hk ⊢
                by_cases hq : s[i]'hi = 39
                · rw [if_pos hq] at hk
                  rw [if_pos (by rw [hq]; rfl), up1 (by omega)]
                  exact hk
                · rw [if_neg hq] at hk
                  rw [if_neg (fun e : ((s[i]'hi).toNat : Int) = 39 => hq (u8_nat (n := 39) e (by decide)))]
                  exact hk
          refine hsrt _ ?_
          by_cases hl : Lx.isLetter (s[i]'hi) = true
          · have ht : Lx.tokA (s[i]'hi :: s.data.toList.drop (i + 1)) = Lx.wordA (s[i]'hi :: s.data.toList.drop (i + 1)) := by simp only [Lx.tokA, hl, if_true]
            have := r_l2 s hs (acc.map tk32) hx (fin acc (Lx.toks (s[i]'hi :: s.data.toList.drop (i + 1)))) (s.size - i) i [] rfl h2 (by simp) (by
              rw [drop_get s i hi, List.nil_append]
              by_cases h30 : ((s[i]'hi :: s.data.toList.drop (i + 1)).takeWhile Lx.isPart).length > 30
              · rw [if_pos (by rw [List.length_map]; exact h30)]
                exact bad 28 (by rw [ht]; unfold Lx.wordA; rw [if_pos h30])
              · rw [if_neg (by rw [List.length_map]; exact h30)]
                exact good _ _ (by rw [ht]; unfold Lx.wordA; rw [if_neg h30]))
            obtain ⟨k, hk⟩ := this
            exact ⟨k, by rw [if_pos hl]; exact hk⟩
          · have hl' : Lx.isLetter (s[i]'hi) = false := by simpa using hl
            by_cases hg : Lx.isDigit (s[i]'hi) = true
            · have ht : Lx.tokA (s[i]'hi :: s.data.toList.drop (i + 1)) = Lx.numA (s[i]'hi :: s.data.toList.drop (i + 1)) := by simp only [Lx.tokA, hl', hg, if_true]; rfl
              have hv : ∀ l, valFrom 0 l = Lx.numVal l := fun _ => rfl
              have := r_l3 s hs (acc.map tk32) hx (fin acc (Lx.toks (s[i]'hi :: s.data.toList.drop (i + 1)))) (s.size - i) i 0 false rfl h2 (by omega) (by
                rw [drop_get s i hi]
                intro hp
                exact bad 20 (by rw [ht]; unfold Lx.numA; rw [if_pos hp])) (by
                rw [drop_get s i hi]
                intro hp hbig
                rw [hv] at hbig
                exact bad 26 (by rw [ht]; unfold Lx.numA; rw [if_neg (by rw [hp]; decide), if_pos (by rcases hbig with h | h; exact absurd h (by decide); exact h)])) (by
                rw [drop_get s i hi]
                intro hp _ hle
                rw [hv] at hle ⊢
                exact good _ _ (by rw [ht]; unfold Lx.numA; rw [if_neg (by rw [hp]; decide), if_neg (Nat.not_lt.2 hle)]))
              obtain ⟨k, hk⟩ := this
              exact ⟨k, by rw [if_neg hl, if_pos hg]; exact hk⟩
            · have hg' : Lx.isDigit (s[i]'hi) = false := by simpa using hg
              by_cases hq : s[i]'hi = 39
              · have ht : Lx.tokA (s[i]'hi :: s.data.toList.drop (i + 1)) = Lx.textA (s.data.toList.drop (i + 1)) := by
                  have h1 : Lx.isLetter 39 = false := by decide
                  have h2 : Lx.isDigit 39 = false := by decide
                  rw [hq]
                  simp only [Lx.tokA, h1, h2]
                  rfl
                have := r_l4 s hs (acc.map tk32) hx (fin acc (Lx.toks (s[i]'hi :: s.data.toList.drop (i + 1)))) (s.size - (i + 1)) (i + 1) [] (Nat.le_refl _) (by omega) (by simp) (by
                  cases hst : Lx.strA (s.data.toList.drop (i + 1)) with
                  | none => exact bad 20 (by rw [ht]; unfold Lx.textA; rw [hst])
                  | some p =>
                    obtain ⟨u, m⟩ := p
                    simp only [List.nil_append]
                    by_cases h200 : u.length > 200
                    · rw [if_pos h200]
                      exact bad 28 (by rw [ht]; unfold Lx.textA; rw [hst]; simp only; rw [if_pos h200])
                    · rw [if_neg h200]
                      have := good _ _ (show _ = Except.ok ((⟨3, u, 0⟩ : Lx.Tk), m + 1) by rw [ht]; unfold Lx.textA; rw [hst]; simp only; rw [if_neg h200])
                      rw [show i + 1 + m = i + (m + 1) by omega]
                      exact this)
                obtain ⟨k, hk⟩ := this
                exact ⟨k, by rw [if_neg hl, if_neg hg, if_pos hq]; exact hk⟩
              · have hq' : (s[i]'hi == 39) = false := by simpa using hq
                have ht : Lx.tokA (s[i]'hi :: s.data.toList.drop (i + 1)) = Lx.signT (s[i]'hi :: s.data.toList.drop (i + 1)) := by simp only [Lx.tokA, hl', hg', hq']; rfl
                have h1 : (s[i]'hi :: s.data.toList.drop (i + 1)).take 1 = [s[i]'hi] := rfl
                have := r_l5 s hs (acc.map tk32) hx (fin acc (Lx.toks (s[i]'hi :: s.data.toList.drop (i + 1)))) i hi 4 0 0 rfl (by omega) (.inl rfl) (by
                  rw [drop_get s i hi]
                  intro hor
                  rcases hor with h | h
                  · exact absurd h (by decide)
                  · rw [List.drop_zero, twoB_is] at h
                    have hs2 : Lx.signA (s[i]'hi :: s.data.toList.drop (i + 1)) = some ((s[i]'hi :: s.data.toList.drop (i + 1)).take 2) := by unfold Lx.signA; rw [if_pos h]
                    have hl2 : ((s[i]'hi :: s.data.toList.drop (i + 1)).take 2).length = 2 := by
                      have : ∀ l ∈ Lx.twos, l.length = 2 := by decide
                      exact this _ (by simpa using h)
                    have := good _ _ (show _ = Except.ok ((⟨4, (s[i]'hi :: s.data.toList.drop (i + 1)).take 2, 0⟩ : Lx.Tk), ((s[i]'hi :: s.data.toList.drop (i + 1)).take 2).length) by rw [ht]; unfold Lx.signT; rw [hs2])
                    rw [hl2] at this
                    exact this) (by
                  rw [drop_get s i hi]
                  intro _ hno
                  rw [List.drop_zero, twoB_is] at hno
                  refine r_l6 s hs (acc.map tk32) hx _ i hi 12 0 0 rfl (by omega) (.inl rfl) ?_ ?_
                  · rw [drop_get s i hi]
                    intro hor
                    rcases hor with h | h
                    · exact absurd h (by decide)
                    · rw [List.drop_zero, oneI_is] at h
                      have hs1 : Lx.signA (s[i]'hi :: s.data.toList.drop (i + 1)) = some [s[i]'hi] := by unfold Lx.signA; rw [if_neg (by rw [hno]; decide)]; simp only; rw [if_pos h]
                      exact good _ _ (show _ = Except.ok ((⟨4, [s[i]'hi], 0⟩ : Lx.Tk), [s[i]'hi].length) by rw [ht]; unfold Lx.signT; rw [hs1])
                  · intro _ h
                    rw [List.drop_zero, oneI_is] at h
                    have hs1 : Lx.signA (s[i]'hi :: s.data.toList.drop (i + 1)) = none := by unfold Lx.signA; rw [if_neg (by rw [hno]; decide)]; simp only; rw [if_neg (by rw [h]; decide)]
                    exact bad 20 (by rw [ht]; unfold Lx.signT; rw [hs1]))
                obtain ⟨k, hk⟩ := this
                exact ⟨k, by rw [if_neg hl, if_neg hg, if_neg hq]; exact hk⟩
    · exact nil i acc (by omega) ha

theorem rtok_is (s : ByteArray) : ∃ k, rtok.f k s = tokF s := by
  unfold tokF
  rw [Lx.lexA_toks, len_data]
  by_cases h : s.size > 4000
  · exact ⟨0, by unfold rtok.f; rw [if_pos (by omega), if_pos h]; rfl⟩
  · obtain ⟨k, hk⟩ := r_all s (by omega) s.size 0 [] (by omega) (by omega) (by simp)
    refine ⟨k, ?_⟩
    unfold rtok.f
    rw [if_neg (by omega), if_neg h]
    refine Eq.trans hk ?_
    rw [List.drop_zero]
    cases Lx.toks s.data.toList <;> simp [fin]
end Go.Proofs.YtcgdncpioafbdaaGreatDoor.Q

/- The document's tokens: the contract of vidimusref16.Tokens. -/
namespace Go.Proofs.YtcgdncpioafbdaaGreatDoor.Q
open Go Go.RowKit Go.Proofs.YtcgdncpioafbdaaGreatDoorW.PrintWords

theorem vidimusref16_Tokens.calls (a0 : ByteArray) (r1 : List S32) (r2 : Int) (w : World) (h : vidimusref16_Tokens.f a0 = some (r1, r2)) :
    Calls Tryz.prog 17 #[.string a0] w fun e w' => ∃ v0_ : Value, e = .returned (.tuple #[v0_, .int .i64 r2]) ∧ Kd.R k32 32 w' w.heap.size (fun _ => True) v0_ r1 ∧ Below w.heap.size w w' := by
  obtain ⟨k, hk⟩ := rtok_is a0
  exact rtok.calls k a0 r1 r2 w (hk.trans h)
end Go.Proofs.YtcgdncpioafbdaaGreatDoor.Q

/- The lexer's tokens are as the parser wants them: an End stands last, they are few, their texts are short. -/
import Derived.Test.YtcgdncpioafbdaaGreatDoorPx2
import Derived.Test.YtcgdncpioafbdaaGreatDoorPiece
namespace Go.Proofs.YtcgdncpioafbdaaGreatDoor.Q
open Go Go.RowKit Go.Proofs.YtcgdncpioafbdaaGreatDoorW.PrintWords

theorem good_short {t : Lx.Tk} (h : Lx.Good t) : t.s.length ≤ 1000 := by
  rcases h with h | h | h | h
  · have := h.len; omega
  · have := h.s; rw [this]; simp
  · have := h.len; omega
  · rcases h.s with h | ⟨c, _, h⟩
    · have : ∀ x ∈ Lx.twos, x.length ≤ 1000 := by decide +kernel
      exact this _ h
    · rw [h]; simp
theorem toks_few : ∀ (n : Nat) (l : List UInt8) (ts : List Lx.Tk), l.length ≤ n → Lx.toks l = .ok ts → ts.length ≤ l.length ∧ ∀ t ∈ ts, Lx.Good t := by
  intro n
  induction n with
  | zero =>
    intro l ts hl h
    have h0 : l = [] := List.length_eq_zero_iff.1 (by omega)
    subst h0
    rw [Lx.toks_nil (by rfl)] at h
    cases h
    exact ⟨Nat.le_refl _, by simp⟩
  | succ n ih =>
    intro l ts hl h
    cases hs : Lx.skipA false l with
    | nil =>
      rw [Lx.toks_nil hs] at h
      cases h
      exact ⟨Nat.zero_le _, by simp⟩
    | cons c r =>
      have hle := Lx.skipA_le false l
      rw [hs] at hle
      cases ht : Lx.tokA (c :: r) with
      | error e => rw [Lx.toks_err hs ht] at h; cases h
      | ok p =>
        obtain ⟨t, m⟩ := p
        rw [Lx.toks_ok hs ht] at h
        have h1 := Lx.tokA_le ht
        cases hr : Lx.toks ((c :: r).drop m) with
        | error e => rw [hr] at h; cases h
        | ok us =>
          rw [hr] at h
          cases h
          obtain ⟨g1, g2⟩ := ih _ us (by rw [List.length_drop]; omega) hr
          rw [List.length_drop] at g1
          refine ⟨by simp only [List.length_cons] at *; omega, fun u hu => ?_⟩
          rcases List.mem_cons.1 hu with rfl | hu
          · exact (Lx.tokA_good ht).1
          · exact g2 u hu
theorem toks_ne0 : ∀ (n : Nat) (l : List UInt8), l.length ≤ n → Lx.toks l ≠ .error 0 := by
  intro n
  induction n with
  | zero =>
    intro l hl h
    have h0 : l = [] := List.length_eq_zero_iff.1 (by omega)
    subst h0
    rw [Lx.toks_nil (by rfl)] at h
    cases h
  | succ n ih =>
    intro l hl h
    cases hs : Lx.skipA false l with
    | nil => rw [Lx.toks_nil hs] at h; cases h
    | cons c r =>
      have hle := Lx.skipA_le false l
      rw [hs] at hle
      cases ht : Lx.tokA (c :: r) with
      | error e => rw [Lx.toks_err hs ht] at h; cases h; exact tokA_err ht rfl
      | ok p =>
        obtain ⟨t, m⟩ := p
        rw [Lx.toks_ok hs ht] at h
        have h1 := Lx.tokA_le ht
        cases hr : Lx.toks ((c :: r).drop m) with
        | error e => rw [hr] at h; cases h; exact ih _ (by rw [List.length_drop]; omega) hr
        | ok us => rw [hr] at h; cases h
theorem tok_toks {s : ByteArray} {ts : List S32} {c : Int} (h : lex_Tokens.f s = some (ts, c)) (hc : c = 0) : Toks ts := by
  subst hc
  unfold lex_Tokens.f tokF at h
  cases hl : Lx.lexA s.data.toList with
  | error e =>
    rw [hl] at h
    simp only [Option.some.injEq, Prod.mk.injEq] at h
    obtain ⟨rfl, h⟩ := h
    have he : e = 0 := by omega
    subst he
    rw [Lx.lexA_toks] at hl
    split at hl
    · cases hl
    · exact absurd hl (toks_ne0 _ _ (Nat.le_refl _))
  | ok us =>
    rw [hl] at h
    simp only [Option.some.injEq, Prod.mk.injEq] at h
    obtain ⟨rfl, _⟩ := h
    rw [Lx.lexA_toks] at hl
    split at hl
    · cases hl
    · rename_i hlen
      obtain ⟨g1, g2⟩ := toks_few _ _ us (Nat.le_refl _) hl
      refine ⟨⟨us.map tk32, z32, rfl, rfl⟩, by simp; omega, fun t ht => ?_⟩
      rcases List.mem_append.1 ht with ht | ht
      · obtain ⟨u, hu, rfl⟩ := List.mem_map.1 ht
        show (ba u.s).size ≤ 100000
        rw [ba_size]
        have := good_short (g2 u hu)
        omega
      · rw [List.mem_singleton.1 ht]
        show (0 : Nat) ≤ 100000
        omega

/-- What Parse answers, of a text. -/
def parseS (s : ByteArray) : S60 × Int := match tokF s with
  | none => (z60, 0)
  | some p => parseP p
/-- Parse, of any text. -/
theorem parse_calls {w : World} (s : ByteArray) (hG : GV w) : Calls Tryz.prog 46 #[.string s] w fun e w' => ∃ v, e = .returned (.tuple #[v, .int .i64 (parseS s).2]) ∧ Vst w.heap.size w' (parseS s).1 v ∧ Below w.heap.size w w' := by
  cases h : tokF s with
  | none =>
    unfold tokF at h
    cases hl : Lx.lexA s.data.toList with
    | error e => rw [hl] at h; cases h
    | ok us => rw [hl] at h; cases h
  | some p =>
    obtain ⟨ts, c⟩ := p
    have e : parseS s = parseP (ts, c) := by unfold parseS; rw [h]
    rw [e]
    exact parse_out hG h (fun hc => tok_toks h hc)
end Go.Proofs.YtcgdncpioafbdaaGreatDoor.Q

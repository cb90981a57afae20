/- How much the parser takes. -/
import Derived.Test.YtcgdncpioafbdaaGreatDoorPs
namespace Go.Proofs.YtcgdncpioafbdaaGreatDoor.Ps
open Go Go.Proofs.YtcgdncpioafbdaaGreatDoor.Q

theorem nx_len {ts r : List S32} {t : S32} (h : nx ts = some (t, r)) : r.length + 1 = ts.length ∧ t.f0 ≠ 0 ∧ ts = t :: r := by
  cases ts with
  | nil => simp [nx] at h
  | cons a b =>
    simp only [nx] at h
    split at h
    · cases h
    · cases h; exact ⟨rfl, by assumption, rfl⟩
theorem tk_len {s : ByteArray} {ts r : List S32} {b : Bool} (h : tk s ts = some (b, r)) : r.length ≤ ts.length ∧ (b = true → r.length < ts.length) ∧ (b = false → r = ts) := by
  unfold tk at h
  split at h
  · cases hn : nx ts with
    | none => rw [hn] at h; cases h
    | some p =>
      obtain ⟨t, r'⟩ := p
      rw [hn] at h
      cases h
      have := nx_len hn
      exact ⟨by simp only; omega, fun _ => by simp only; omega, by simp⟩
  · cases h; exact ⟨Nat.le_refl _, by simp, by simp⟩
theorem ms_len : ∀ {l : List ByteArray} {ts r : List S32}, ms l ts = some r → r.length ≤ ts.length
  | [], ts, r, h => by simp only [ms] at h; cases h; exact Nat.le_refl _
  | s :: l, ts, r, h => by
    simp only [ms] at h
    cases ht : tk s ts with
    | none => rw [ht] at h; cases h
    | some p =>
      obtain ⟨b, r'⟩ := p
      rw [ht] at h
      cases b with
      | false => cases h
      | true =>
        have h1 := ms_len h
        have h2 := (tk_len ht).1
        omega
theorem nm_len {ts r : List S32} {s : ByteArray} (h : nm ts = some (s, r)) : r.length < ts.length := by
  unfold nm at h
  cases hn : nx ts with
  | none => rw [hn] at h; cases h
  | some p =>
    obtain ⟨t, r'⟩ := p
    rw [hn] at h
    simp only at h
    have := nx_len hn
    split at h
    · split at h
      · cases h
      · cases h; omega
    · cases h
theorem all_len (k : Nat) : (∀ least ts e r, expr k least ts = some (e, r) → r.length < ts.length) ∧ (∀ least x ts e r, more k least x ts = some (e, r) → r.length ≤ ts.length) ∧ (∀ ts e r, first k ts = some (e, r) → r.length < ts.length) := by
  induction k with
  | zero => exact ⟨fun _ _ _ _ h => by simp [expr] at h, fun _ _ _ _ _ h => by simp [more] at h, fun _ _ _ h => by simp [first] at h⟩
  | succ k ih =>
    obtain ⟨ih1, ih2, ih3⟩ := ih
    refine ⟨fun least ts e r h => ?_, fun least x ts e r h => ?_, fun ts e r h => ?_⟩
    · simp only [expr] at h
      split at h
      · cases h
      · split at h
        · cases h
        · rename_i e' r' hf
          have h1 := ih3 _ _ _ hf
          have h2 := ih2 _ _ _ _ _ h
          omega
    · simp only [more] at h
      split at h
      · cases h; exact Nat.le_refl _
      · split at h
        · cases h; exact Nat.le_refl _
        · split at h
          · cases h
          · rename_i t r1 hn
            have h0 := nx_len hn
            split at h
            · split at h
              · cases h
              · rename_i no r2 ht
                have h1 := tk_len ht
                split at h
                · cases h
                · rename_i r3 hm
                  have h2 := ms_len hm
                  have h3 := ih2 _ _ _ _ _ h
                  omega
            · split at h
              · cases h
              · rename_i y r2 he
                have h1 := ih1 _ _ _ _ he
                have h2 := ih2 _ _ _ _ _ h
                omega
    · simp only [first] at h
      split at h
      · cases h
      · rename_i t r1 hn
        have h0 := nx_len hn
        repeat' (split at h)
        all_goals first
          | (cases h; done)
          | (cases h; omega)
          | skip
        all_goals (try cases h)
        all_goals (try have h1 := ih1 _ _ _ _ (by assumption))
        all_goals (try have h2 := ms_len (by assumption))
        all_goals first | omega | skip
        all_goals (rename_i h3 _ _ _ _ _ _; have h4 := ms_len h3; omega)
theorem expr_len {k : Nat} {least : Int} {ts r : List S32} {e : S43} (h : expr k least ts = some (e, r)) : r.length < ts.length := (all_len k).1 _ _ _ _ h
theorem more_len {k : Nat} {least : Int} {x : S43} {ts r : List S32} {e : S43} (h : more k least x ts = some (e, r)) : r.length ≤ ts.length := (all_len k).2.1 _ _ _ _ _ h
theorem first_len {k : Nat} {ts r : List S32} {e : S43} (h : first k ts = some (e, r)) : r.length < ts.length := (all_len k).2.2 _ _ _ h
end Go.Proofs.YtcgdncpioafbdaaGreatDoor.Ps

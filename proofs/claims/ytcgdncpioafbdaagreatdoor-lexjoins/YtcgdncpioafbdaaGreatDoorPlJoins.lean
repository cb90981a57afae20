/- Plain law: LexJoins. -/
import Derived.Test.YtcgdncpioafbdaaGreatDoorPlU
namespace Go.Proofs.YtcgdncpioafbdaaGreatDoor.Q
open Go Go.RowKit Go.Proofs.YtcgdncpioafbdaaGreatDoorW.PrintWords

theorem joins_j1_err (k : Nat) (x5 x7 x9 : List S32) (x6 x8 x10 : Int) (h : x6 ≠ 0) (he : x10 = x6) (b : Bool) : vidimuslaw16_LexJoins.j1 (k + 1) x5 x6 x7 x8 x9 x10 b = some true := by
  cases b with
  | true => simp only [vidimuslaw16_LexJoins.j1, if_true]
  | false =>
    simp only [vidimuslaw16_LexJoins.j1, Bool.false_eq_true, if_false]
    rw [if_neg h, he]
    simp
theorem joins_j1_second (k : Nat) (x5 x7 x9 : List S32) (x8 : Int) (h : x8 ≠ 0) : vidimuslaw16_LexJoins.j1 (k + 1) x5 0 x7 x8 x9 x8 false = some true := by
  simp only [vidimuslaw16_LexJoins.j1, Bool.false_eq_true, if_false]
  rw [if_pos trivial, if_neg h]
  simp
theorem joins_j1_good (k : Nat) (xs ys : List S32) (z : S32) (h1 : xs.length + ys.length < 1000000) (hk : xs.length + ys.length < k) : vidimuslaw16_LexJoins.j1 (k + 1) (xs ++ [z]) 0 ys 0 (xs ++ ys) 0 false = some true := by
  simp only [vidimuslaw16_LexJoins.j1, Bool.false_eq_true, if_false, Option.bind_some, if_true]
  have hlen : (xs ++ [z]).length = xs.length + 1 := by simp
  have hw : wrap64 (((xs ++ [z]).length : Int) - 1) = (xs.length : Int) := by rw [hlen, w64 (by omega) (by omega)]; omega
  have ht : (xs ++ [z]).take xs.length = xs := by simp
  rw [hw, if_pos (by omega), if_pos (by omega)]
  simp only [Int.toNat_natCast, ht, List.nil_append, Option.bind_some, List.length_nil, Nat.zero_add]
  rw [if_pos (by omega), if_pos (by omega)]
  rw [same_is _ _ (by simp; omega) (by simp; omega)]
  rfl
theorem LexJoins_law (a b : ByteArray) : ∃ k, vidimuslaw16_LexJoins.f k a b = some true := by
  refine ⟨4000, ?_⟩
  unfold vidimuslaw16_LexJoins.f
  rw [awake_is (by omega)]
  simp only [Option.bind_some, if_true]
  by_cases ha : (a.size : Int) > 500
  · rw [if_pos ha]; simp only [vidimuslaw16_LexJoins.j0, if_true]
  · rw [if_neg ha]
    by_cases hb : (b.size : Int) > 500
    · rw [decide_eq_true hb]; simp only [vidimuslaw16_LexJoins.j0, if_true]
    · rw [decide_eq_false hb]
      simp only [vidimuslaw16_LexJoins.j0, Bool.false_eq_true, if_false]
      have hz : ((a ++ (⟨#[10]⟩ : ByteArray)) ++ b).data.toList = a.data.toList ++ 10 :: b.data.toList := by simp
      have hzs : ((a ++ (⟨#[10]⟩ : ByteArray)) ++ b).size = a.size + 1 + b.size := by rw [← len_data, hz, List.length_append, List.length_cons, len_data, len_data]; omega
      have h1s : (a ++ (⟨#[10]⟩ : ByteArray)).size = a.size + 1 := by rw [ByteArray.size_append]; rfl
      rw [tok_short a (by omega), tok_short b (by omega), tok_short _ (by omega), hz, odd_is a _ (by omega) (by omega)]
      simp only [Option.bind_some]
      rw [if_pos (by omega), if_pos (by omega)]
      have hj := Lx.toks_join a.data.toList b.data.toList
      have hla := toks_le a.data.toList.length a.data.toList
      have hlb := toks_le b.data.toList.length b.data.toList
      rw [len_data] at hla hlb
      rcases hj with ⟨e, he, hx⟩ | ⟨ts, he, hx⟩
      · have he0 := tok_err0 he
        rcases hx with hx | ⟨rfl, hm⟩
        · rw [he, hx]
          split
          · exact joins_j1_err _ _ _ _ _ _ _ (show (e : Int) ≠ 0 by omega) rfl _
          · exact joins_j1_err _ _ _ _ _ _ _ (show (e : Int) ≠ 0 by omega) rfl _
        · rw [he, show a.data.toList.contains 39 = true by simpa using hm, if_pos (show (resT (Except.error 20)).2 = 20 from rfl)]
          simp only [vidimuslaw16_LexJoins.j1, if_true]
      · rw [he, hx]
        have hl1 := hla ts (Nat.le_of_eq (len_data a)) he
        cases hy : Lx.toks b.data.toList with
        | error f =>
          have hf0 := tok_err0 hy
          rw [if_neg (show ¬ (resT (Except.ok ts)).2 = 20 from (by decide : ¬ (0 : Int) = 20))]
          exact joins_j1_second _ _ _ _ (f : Int) (by omega)
        | ok us =>
          have hl2 := hlb us (Nat.le_of_eq (len_data b)) hy
          rw [if_neg (show ¬ (resT (Except.ok ts)).2 = 20 from (by decide : ¬ (0 : Int) = 20))]
          have := joins_j1_good 3998 (ts.map tk32) (us.map tk32 ++ [z32]) z32 (by simp; omega) (by simp; omega)
          have e : (List.map tk32 (ts ++ us) ++ [z32]) = ts.map tk32 ++ (us.map tk32 ++ [z32]) := by simp
          rw [← e] at this
          exact this
end Go.Proofs.YtcgdncpioafbdaaGreatDoor.Q

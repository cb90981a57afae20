/- An expression's text, plain; a literal's text as the printed functions reckon it. -/
import Derived.Test.YtcgdncpioafbdaaGreatDoorPd
import Derived.Test.YtcgdncpioafbdaaGreatDoorPlTexts
namespace Go.Proofs.YtcgdncpioafbdaaGreatDoor.Q
open Go Go.RowKit Go.Proofs.YtcgdncpioafbdaaGreatDoorW.PrintWords

def lit (v : S40) : ByteArray :=
  if v.f0 = 0 then ⟨#[110, 117, 108, 108]⟩
  else if v.f0 = 1 then (if v.f1 < 0 then (⟨#[45]⟩ : ByteArray) ++ ba (digA 20 (-v.f1).toNat) else ba (digA 20 v.f1.toNat))
  else ba (39 :: (dupQ v.f2.data.toList ++ [39]))
def innT (l : List ByteArray) (i : Nat) : ByteArray := match l[i]? with
  | some t => ((⟨#[40]⟩ : ByteArray) ++ t) ++ (⟨#[41]⟩ : ByteArray)
  | none => ⟨#[40, 41]⟩
def bigB (s : ByteArray) : Bool := decide (Ps.binds s > 3) && !(s.toList == [105, 115])
def txtB (op : ByteArray) (v : S40) (name : ByteArray) (l : List ByteArray) : ByteArray :=
  if op.toList = [118, 97, 108] then lit v
  else if op.toList = [99, 111, 108] then name
  else if op.toList = [111, 114] then (((innT l 0 ++ (⟨#[32]⟩ : ByteArray)) ++ op) ++ (⟨#[32]⟩ : ByteArray)) ++ innT l 1
  else if op.toList = [97, 110, 100] then (((innT l 0 ++ (⟨#[32]⟩ : ByteArray)) ++ op) ++ (⟨#[32]⟩ : ByteArray)) ++ innT l 1
  else if op.toList = [110, 111, 116] then (⟨#[110, 111, 116, 32]⟩ : ByteArray) ++ innT l 0
  else if op.toList = [110, 101, 103] then (⟨#[45]⟩ : ByteArray) ++ innT l 0
  else if op.toList = [105, 115, 110, 117, 108, 108] then innT l 0 ++ (⟨#[32, 105, 115, 32, 110, 117, 108, 108]⟩ : ByteArray)
  else if op.toList = [99, 111, 117, 110, 116] then ⟨#[99, 111, 117, 110, 116, 40, 42, 41]⟩
  else if op.toList = [115, 117, 109] then op ++ innT l 0
  else if op.toList = [109, 105, 110] then op ++ innT l 0
  else if op.toList = [109, 97, 120] then op ++ innT l 0
  else if bigB op = true then (innT l 0 ++ op) ++ innT l 1
  else ⟨#[]⟩
mutual
def txt : S43 → ByteArray
  | ⟨op, v, name, l⟩ => txtB op v name (txts l)
def txts : List S43 → List ByteArray
  | [] => []
  | x :: l => txt x :: txts l
end
theorem txt_eq (x : S43) : txt x = txtB x.f0 x.f1 x.f2 (txts x.f3) := by cases x; rw [txt]
theorem txts_map : ∀ l : List S43, txts l = l.map txt
  | [] => by rw [txts]; rfl
  | x :: l => by rw [txts, txts_map l]; rfl
/-- A kid between parentheses. -/
def inn (l : List S43) (i : Nat) : ByteArray := innT (txts l) i
theorem inn_def (l : List S43) (i : Nat) : inn l i = innT (txts l) i := rfl
theorem inn_some {l : List S43} {i : Nat} (h : i < l.length) : inn l i = ((⟨#[40]⟩ : ByteArray) ++ txt l[i]) ++ (⟨#[41]⟩ : ByteArray) := by
  unfold inn innT
  rw [txts_map, List.getElem?_map, List.getElem?_eq_getElem h]
  rfl
theorem inn_none {l : List S43} {i : Nat} (h : l.length ≤ i) : inn l i = ⟨#[40, 41]⟩ := by
  unfold inn innT
  rw [txts_map, List.getElem?_map, List.getElem?_eq_none h]
  rfl
/-! Numbers are of 64 bits, all through. -/
mutual
def TG : S43 → Prop
  | ⟨_, v, _, l⟩ => (-9223372036854775808 ≤ v.f1 ∧ v.f1 ≤ 9223372036854775807 ∧ v.f2.size ≤ 500) ∧ TGs l
def TGs : List S43 → Prop
  | [] => True
  | x :: l => TG x ∧ TGs l
end
theorem TG_eq (x : S43) : TG x ↔ (-9223372036854775808 ≤ x.f1.f1 ∧ x.f1.f1 ≤ 9223372036854775807 ∧ x.f1.f2.size ≤ 500) ∧ TGs x.f3 := by cases x; rw [TG]
mutual
def tgB : S43 → Bool
  | ⟨_, v, _, l⟩ => decide (-9223372036854775808 ≤ v.f1) && decide (v.f1 ≤ 9223372036854775807) && decide (v.f2.size ≤ 500) && tgsB l
def tgsB : List S43 → Bool
  | [] => true
  | x :: l => tgB x && tgsB l
end
mutual
theorem TG_of : ∀ x : S43, tgB x = true → TG x
  | ⟨_, v, _, l⟩, h => by
    rw [tgB] at h
    simp only [Bool.and_eq_true, decide_eq_true_eq] at h
    rw [TG]
    exact ⟨⟨h.1.1.1, h.1.1.2, h.1.2⟩, TGs_of l h.2⟩
theorem TGs_of : ∀ l : List S43, tgsB l = true → TGs l
  | [], _ => by rw [TGs]; trivial
  | x :: l, h => by
    rw [tgsB] at h
    simp only [Bool.and_eq_true] at h
    rw [TGs]
    exact ⟨TG_of x h.1, TGs_of l h.2⟩
end
theorem TGs_mem {x : S43} : ∀ {l : List S43}, x ∈ l → TGs l → TG x
  | y :: l, h, h2 => by
    rw [TGs] at h2
    rcases List.mem_cons.1 h with rfl | h
    · exact h2.1
    · exact TGs_mem h h2.2
theorem dupQ_ge : ∀ l : List UInt8, l.length ≤ (dupQ l).length
  | [] => by simp
  | c :: r => by
    have := dupQ_ge r
    simp only [dupQ]
    split <;> simp <;> omega
theorem lit_text {v : S40} (h0 : v.f0 ≠ 0) (h1 : v.f0 ≠ 1) : lit v = ba (39 :: (dupQ v.f2.data.toList ++ [39])) := by
  unfold lit; rw [if_neg h0, if_neg h1]
theorem lit_size {v : S40} (h0 : v.f0 ≠ 0) (h1 : v.f0 ≠ 1) : v.f2.size + 2 ≤ (lit v).size := by
  rw [lit_text h0 h1, ba_size]
  have := dupQ_ge v.f2.data.toList
  rw [len_data] at this
  simp; omega
/-! ### The printed literal -/
theorem u64w {x : Int} (h0 : 0 ≤ x) (h1 : x < 18446744073709551616) : IntKind.u64.wrap x = x := by
  simp [IntKind.wrap, IntKind.bits, IntKind.signed]
  omega
theorem one_dig (m : Nat) (hm : m < 10) : strOfNums [(48 + ((m : Int) % 256)) % 256] = ba [UInt8.ofNat (48 + m)] := by
  have e : (48 + ((m : Int) % 256)) % 256 = ((48 + m : Nat) : Int) := by omega
  rw [e]
  show ba [UInt8.ofNat (((48 + m : Nat) : Int)).toNat] = _
  rw [Int.toNat_natCast]
theorem pDigits : ∀ (j k n : Nat), 1 ≤ j → n < 10 ^ j → j ≤ k → j ≤ 100 → n ≤ 9223372036854775808 → parse_digits.f k (n : Int) = some (ba (digA j n))
  | 0, k, n, h, _, _, _, _ => by omega
  | j + 1, k, n, _, h, hk, hj100, hn => by
    obtain ⟨k, rfl⟩ : ∃ m, k = m + 1 := ⟨k - 1, by omega⟩
    rw [parse_digits.f]
    simp only [digA]
    by_cases h10 : n < 10
    · rw [if_pos (by omega), if_pos h10, one_dig n h10]
    · rw [if_neg (by omega), if_neg h10]
      have hj : 1 ≤ j := by
        rcases Nat.eq_zero_or_pos j with rfl | h1
        · simp at h; omega
        · exact h1
      obtain ⟨k, rfl⟩ : ∃ m, k = m + 1 := ⟨k - 1, by omega⟩
      have hq : Int.tdiv (n : Int) 10 = ((n / 10 : Nat) : Int) := by rw [Int.tdiv_eq_ediv_of_nonneg (by omega)]; omega
      have hr : Int.tmod (n : Int) 10 = ((n % 10 : Nat) : Int) := by rw [Int.tmod_eq_emod_of_nonneg (by omega)]; omega
      have h9 : parse_digits.f (k + 1) ((n % 10 : Nat) : Int) = some (ba [UInt8.ofNat (48 + n % 10)]) := by
        rw [parse_digits.f, if_pos (by omega), one_dig (n % 10) (by omega)]
      rw [hq, hr, u64w (by omega) (by omega), pDigits j (k + 1) (n / 10) hj (by rw [Nat.pow_succ] at h; omega) (by omega) (by omega) (by omega)]
      simp only [Option.bind_some]
      rw [h9]
      simp only [Option.bind_some]
      rw [if_pos, ba_app]
      rw [ba_size, ba_size]
      have := Lx.digA_len j (n / 10) hj (by rw [Nat.pow_succ] at h; omega)
      simp
      omega
theorem pow20b {n : Nat} (h : n ≤ 9223372036854775808) : n < 10 ^ 20 := by
  have : (10 : Nat) ^ 20 = 100000000000000000000 := rfl
  omega
theorem pLit {v : S40} {k : Nat} (hk : 30 ≤ k) (h1 : -9223372036854775808 ≤ v.f1) (h2 : v.f1 ≤ 9223372036854775807) (hz : (lit v).size ≤ 1000000000) : parse_literal.f k v.f0 v.f1 v.f2 = some (lit v) := by
  have hs : v.f0 ≠ 0 → v.f0 ≠ 1 → v.f2.size ≤ 1000000000 := fun h0 h1 => by have := lit_size h0 h1; omega
  obtain ⟨k, rfl⟩ : ∃ m, k = m + 1 := ⟨k - 1, by omega⟩
  unfold parse_literal.f lit
  by_cases c0 : v.f0 = 0
  · rw [if_pos c0, if_pos c0]
  · rw [if_neg c0, if_neg c0]
    have T : v.f0 ≠ 1 → parse_literal.j0 (k + 1) true v.f0 v.f1 v.f2 = some (ba (39 :: (dupQ v.f2.data.toList ++ [39]))) := fun hn => by
      have hs := hs c0 hn
      rw [parse_literal.j0, if_pos rfl]
      unfold strings_ReplaceAll.f
      have e1 : (⟨#[39]⟩ : ByteArray).data.toList = [39] := rfl
      have e2 : (⟨#[39, 39]⟩ : ByteArray).data.toList = [39, 39] := rfl
      rw [if_pos e1, if_pos e2, if_pos (by omega)]
      simp only [Option.bind_some]
      have hd := dupQ_le v.f2.data.toList
      rw [len_data] at hd
      have e3 : (⟨#[39]⟩ : ByteArray) = ba [39] := rfl
      rw [if_pos (by rw [ba_size]; omega), if_pos (by rw [ByteArray.size_append, ba_size, e3, ba_size]; simp; omega), e3, ba_app, ba_app]
      simp
    by_cases c2 : v.f0 = 2
    · rw [if_pos c2, if_neg (by omega), T (by omega)]
    · rw [if_neg c2]
      by_cases c1 : v.f0 = 1
      · have : (v.f0 != 1) = false := bne_eq_false_iff_eq.mpr c1
        rw [if_pos c1, this, parse_literal.j0, if_neg (by simp)]
        by_cases cn : v.f1 < 0
        · rw [if_pos cn, if_pos cn]
          have e : IntKind.u64.wrap (wrap64 (-v.f1)) = ((-v.f1).toNat : Int) := by
            by_cases hm : v.f1 = -9223372036854775808
            · rw [hm]; decide +kernel
            · rw [w64 (by omega) (by omega), u64w (by omega) (by omega)]; omega
          rw [e, pDigits 20 k (-v.f1).toNat (by decide) (pow20b (by omega)) (by omega) (by decide) (by omega)]
          simp only [Option.bind_some]
          rw [if_pos]
          rw [ba_size]
          have := Lx.digA_len 20 (-v.f1).toNat (by decide) (pow20b (by omega))
          omega
        · rw [if_neg cn, if_neg cn]
          have e : IntKind.u64.wrap v.f1 = (v.f1.toNat : Int) := by
            rw [u64w (by omega) (by omega)]; omega
          rw [e, pDigits 20 k v.f1.toNat (by decide) (pow20b (by omega)) (by omega) (by decide) (by omega)]
          rfl
      · have : (v.f0 != 1) = true := bne_iff_ne.mpr c1
        rw [this, if_neg c1, T c1]
theorem rNumber {n : Int} {k : Nat} (hk : 30 ≤ k) (h1 : -9223372036854775808 ≤ n) (h2 : n ≤ 9223372036854775807) : vidimusref17_number.f k n = some (if n < 0 then (⟨#[45]⟩ : ByteArray) ++ ba (digA 20 (-n).toNat) else ba (digA 20 n.toNat)) := by
  unfold vidimusref17_number.f
  by_cases cn : n < 0
  · rw [if_neg (by omega), if_pos cn]
    by_cases hm : n = -9223372036854775808
    · rw [if_pos hm, hm]
      decide +kernel
    · rw [if_neg hm, w64 (by omega) (by omega)]
      have e : -n = ((-n).toNat : Int) := by omega
      rw [e, refDigits 20 k (-n).toNat (by decide) (Lx.pow20 (by omega)) (by omega) (by decide) (by omega)]
      simp only [Option.bind_some]
      rw [if_pos]
      · rw [Int.toNat_natCast]
      · rw [ba_size]
        have := Lx.digA_len 20 (-n).toNat (by decide) (Lx.pow20 (by omega))
        omega
  · rw [if_pos (by omega), if_neg cn]
    have e : n = (n.toNat : Int) := by omega
    rw [e, refDigits 20 k n.toNat (by decide) (Lx.pow20 (by omega)) (by omega) (by decide) (by omega)]
    simp only [Option.bind_some, Int.toNat_natCast]
end Go.Proofs.YtcgdncpioafbdaaGreatDoor.Q

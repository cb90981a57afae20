/- lex.Tokens: the loop over the tokens, walked by hand (the reader is a function value). -/
import Derived.Test.YtcgdncpioafbdaaGreatDoorNumW
import Derived.Test.YtcgdncpioafbdaaGreatDoorStrW
namespace Go.Proofs.YtcgdncpioafbdaaGreatDoor.Q
open Go Go.RowKit Go.Proofs.YtcgdncpioafbdaaGreatDoorW.PrintWords Go.Proofs.YtcgdncpioafbdaaGreatDoorW.PrintLast Go.Proofs.YtcgdncpioafbdaaGreatDoorW.PrintMore
set_option linter.unusedVariables false
set_option linter.unusedSimpArgs false

def fin (acc : List Lx.Tk) : Except Nat (List Lx.Tk) → List S32 × Int
  | .error e => ([], (e : Int))
  | .ok ts => ((acc ++ ts).map tk32 ++ [z32], 0)
theorem fin_nil (acc : List Lx.Tk) : fin acc (.ok []) = (acc.map tk32 ++ [z32], 0) := by simp [fin]
theorem fin_bind (acc : List Lx.Tk) (t : Lx.Tk) (x) : fin acc (Lx.bindTok t x) = fin (acc ++ [t]) x := by cases x <;> simp [fin, Lx.bindTok]

/-- A call of a function that a tmp holds. -/
theorem goesT_ {P : Program} {ops : Array Oper} {Q : Exit → Act → World → Prop} {rest : List Oper} {oi : Oper} {a : Act} {w : World} (N : Option Tmp) (hd : oi.dst = N) (hg : oi.guard = none) {f : FuncId} {fn : Func} {x : Operand} {oa : Array Operand} {ts : Array TypeId} (hf : P.funcs[f]? = some fn) (hname : (fn.name == "runtime.NumGoroutine") = false) (hb : fn.body.isSome = true) (args : Array Value)
    (hop : oi.op = .call { callee := .value x, args := oa, argTypes := ts }) (hx : a.eval x = .func (.func f) #[] #[]) (hargs : oa.map a.eval = args)
    (h : Calls P f args w fun e w' => ∃ v, e = .returned v ∧ wpList P ops Q rest (a.put N v) w') : wpList P ops Q (oi :: rest) a w := by
  refine wpList_plain hg fun K hK => ?_
  have he := enters_ hf hname hb args w
  have hrun : (execOp a.eval oi).run P w = .ok (.enter f args) w := by
    unfold execOp
    simp [hop, resolve, Deferred.ofValue, invoke, hx, hargs, he]
  unfold Oper.wp
  rw [hrun, Oper.upon_enter]
  refine h.mono fun e w'' hh => ?_
  obtain ⟨v, rfl, hk⟩ := hh
  subst hd
  exact hK _ _ hk

/-- What a reader of one token does at a text. -/
structure Reads (s : ByteArray) (v : Value) : Prop where
  ex : ∃ g fn, v = .func (.func g) #[] #[] ∧ Tryz.prog.funcs[g]? = some fn ∧ (fn.name == "runtime.NumGoroutine") = false ∧ fn.body.isSome = true ∧
    ∀ w, GV w → Calls Tryz.prog g #[.string s] w fun e w' => e = .returned (tokVal (Lx.tokA s.data.toList)) ∧ Below w.heap.size w w'

theorem k58 {s : ByteArray} {c : UInt8} {l : List UInt8} (hl : s.data.toList = c :: l) (hc : Lx.isLetter c = true) (hs : s.size ≤ 4000) : Reads s (.func (.func 58) #[] #[]) := by
  refine ⟨58, _, rfl, Tryz.func58, by kernel_rfl, rfl, fun w _ => ?_⟩
  have h := lex_word.calls s _ _ _ _ _ w (word_is s hs)
  rw [show Lx.tokA s.data.toList = Lx.wordA s.data.toList by rw [hl]; simp [Lx.tokA, hc]]
  exact h
theorem k59 {s : ByteArray} {c : UInt8} {l : List UInt8} (hl : s.data.toList = c :: l) (h1 : Lx.isLetter c = false) (hc : Lx.isDigit c = true) (hs : s.size ≤ 4000) : Reads s (.func (.func 59) #[] #[]) := by
  refine ⟨59, _, rfl, Tryz.func59, by kernel_rfl, rfl, fun w hG => ?_⟩
  have h := num_calls s hs c l hl hc w hG
  rw [show Lx.tokA s.data.toList = Lx.numA s.data.toList by rw [hl]; simp [Lx.tokA, hc, h1]]
  exact h
theorem rdk60 {s : ByteArray} {c : UInt8} {l : List UInt8} (hl : s.data.toList = c :: l) (h1 : Lx.isLetter c = false) (h2 : Lx.isDigit c = false) (hc : c = 39) (hs : s.size ≤ 4000) : Reads s (.func (.func 60) #[] #[]) := by
  refine ⟨60, _, rfl, Tryz.func60, by kernel_rfl, rfl, fun w _ => ?_⟩
  have h := str_calls s hs c l hl w
  rw [show Lx.tokA s.data.toList = Lx.textA l by rw [hl]; simp [Lx.tokA, hc, h1, h2]; subst hc; simp [h1, h2]]
  exact h
theorem k56 {s : ByteArray} {c : UInt8} {l : List UInt8} (hl : s.data.toList = c :: l) (h1 : Lx.isLetter c = false) (h2 : Lx.isDigit c = false) (hc : c ≠ 39) : Reads s (.func (.func 56) #[] #[]) := by
  refine ⟨56, _, rfl, Tryz.func56, by kernel_rfl, rfl, fun w _ => ?_⟩
  have h := lex_sign.calls 1 s _ _ _ _ _ w (sign_of s c l hl)
  rw [show Lx.tokA s.data.toList = Lx.signT s.data.toList by rw [hl]; simp [Lx.tokA, hc, h1, h2]]
  exact h

theorem tokA_err {l : List UInt8} {e : Nat} (h : Lx.tokA l = .error e) : e ≠ 0 := by
  have h20 : ∀ {x : Nat}, (20 : Nat) = x → x ≠ 0 := fun h => by omega
  have h28 : ∀ {x : Nat}, (28 : Nat) = x → x ≠ 0 := fun h => by omega
  have h26 : ∀ {x : Nat}, (26 : Nat) = x → x ≠ 0 := fun h => by omega
  unfold Lx.tokA Lx.wordA Lx.numA Lx.textA Lx.signT at h
  repeat' (split at h)
  all_goals first | (cases h; decide) | (simp at h; omega) | (simp at h)

structure TokInv (kq : Nat) (s : ByteArray) (xs : List S32) (r : List S32 × Int) : Prop where
  ex : ∃ m acc, s.data.toList = Lx.skipA false m ∧ s.size ≤ 4000 ∧ acc.length + s.size ≤ 4000 ∧ xs = acc.map tk32 ∧ fin acc (Lx.toks m) = r ∧ s.size < kq
theorem TokInv.nil {kq s xs r} (h : TokInv kq s xs r) (hs : s.data.toList = []) : (xs ++ [(⟨0, (⟨#[]⟩ : ByteArray), 0⟩ : S32)], (0 : Int)) = r := by
  obtain ⟨m, acc, h1, _, _, rfl, h5, _⟩ := h
  rw [← h5, Lx.toks_nil (h1.symm.trans hs), fin_nil]
  rfl
theorem data_len (s : ByteArray) : s.data.toList.length = s.size := by rw [Array.length_toList]; rfl
theorem TokInv.step {k : Nat} {s : ByteArray} {xs : List S32} {r : List S32 × Int} (h : TokInv (k + 1) s xs r) {c : UInt8} {l : List UInt8} (hl : s.data.toList = c :: l) {t1 : Int} {t2 : ByteArray} {t3 t4 t5 : Int} (ht : tokFlat (Lx.tokA s.data.toList) = (t1, t2, t3, t4, t5)) :
    (t5 ≠ 0 ∧ (([] : List S32), t5) = r) ∨ (t5 = 0 ∧ xs.length < 4398046511104 ∧ 0 ≤ t4 ∧ t4 ≤ (s.size : Int) ∧ TokInv k (ba (Lx.skipA false (s.extract t4.toNat s.size).data.toList)) (xs ++ [(⟨t1, t2, t3⟩ : S32)]) r ∧ lex_skip.f 4001 (s.extract t4.toNat s.size) = some (ba (Lx.skipA false (s.extract t4.toNat s.size).data.toList))) := by
  obtain ⟨m, acc, h1, h2, h3, rfl, h5, h6⟩ := h
  have hsk : Lx.skipA false m = c :: l := h1.symm.trans hl
  have hn := data_len s
  rw [hl] at ht
  cases htk : Lx.tokA (c :: l) with
  | error e =>
    rw [htk] at ht
    simp only [tokFlat, Prod.mk.injEq] at ht
    obtain ⟨_, _, _, _, rfl⟩ := ht
    left
    refine ⟨by have := tokA_err htk; omega, ?_⟩
    rw [← h5, Lx.toks_err hsk htk]
    rfl
  | ok p =>
    obtain ⟨t, n⟩ := p
    rw [htk] at ht
    simp only [tokFlat, Prod.mk.injEq] at ht
    obtain ⟨rfl, rfl, rfl, rfl, rfl⟩ := ht
    right
    have hle := Lx.tokA_le htk
    rw [← hl, hn] at hle
    have hx : (s.extract ((n : Int)).toNat s.size).data.toList = s.data.toList.drop n := by
      rw [Lib.extract_data, Int.toNat_natCast, List.take_of_length_le (by rw [List.length_drop]; omega)]
    have hxs : (s.extract ((n : Int)).toNat s.size).size = s.size - n := by rw [← data_len, hx, List.length_drop, hn]
    have hsl := Lx.skipA_le false (s.data.toList.drop n)
    rw [List.length_drop, hn] at hsl
    refine ⟨rfl, by rw [List.length_map]; omega, by omega, by omega, ⟨s.data.toList.drop n, acc ++ [t], ?_, ?_, ?_, ?_, ?_, ?_⟩, skip_is 4000 4001 _ (by omega) (by omega) (by omega)⟩
    · rw [ba_data, hx]
    · rw [ba_size, hx]; omega
    · rw [ba_size, hx, List.length_append]; simp; omega
    · simp [tk32]
    · rw [← h5, Lx.toks_ok hsk htk, fin_bind, hl]
    · rw [ba_size, hx]; omega
theorem TokInv.size {kq s xs r} (h : TokInv kq s xs r) : s.size ≤ 4000 := by obtain ⟨m, acc, h1, h2, _⟩ := h; exact h2
theorem TokInv.len {kq s xs r} (h : TokInv kq s xs r) : xs.length < 4398046511104 := by obtain ⟨m, acc, h1, h2, h3, rfl, _⟩ := h; rw [List.length_map]; omega
theorem bt0 {s : ByteArray} {c : UInt8} {l : List UInt8} (hl : s.data.toList = c :: l) : bt s 0 = (c.toNat : Int) := bt_of s 0 c (by rw [hl]; rfl)
theorem has_let {s : ByteArray} {c : UInt8} {l : List UInt8} (hl : s.data.toList = c :: l) : lex_has.f letB (bt s 0) = some (Lx.isLetter c) := by rw [bt0 hl, has_is, let_is]
theorem has_dig {s : ByteArray} {c : UInt8} {l : List UInt8} (hl : s.data.toList = c :: l) : lex_has.f digB (bt s 0) = some (Lx.isDigit c) := by rw [bt0 hl, has_is, dig_is]
end Go.Proofs.YtcgdncpioafbdaaGreatDoor.Q

/- Plain: what Parse makes of a word where a name may stand. -/
import Derived.Test.YtcgdncpioafbdaaGreatDoorAw
import Derived.Test.YtcgdncpioafbdaaGreatDoorGlue
namespace Go.Proofs.YtcgdncpioafbdaaGreatDoor.Q
open Go Go.RowKit Go.Proofs.YtcgdncpioafbdaaGreatDoorW.PrintWords
theorem tl_mk (a : Array UInt8) : (⟨a⟩ : ByteArray).toList = a.toList := tl_data _
abbrev wd (s : ByteArray) : S32 := ⟨1, s, 0⟩
abbrev sg (s : ByteArray) : S32 := ⟨4, s, 0⟩
abbrev nmT (n : Int) : S32 := ⟨2, ⟨#[]⟩, n⟩
theorem z32e : z32 = ⟨0, ⟨#[]⟩, 0⟩ := rfl
/-! ### Reserved -/
theorem res_l (s : ByteArray) (x5 : List ByteArray) (hl : x5.length < 4611686018427387904) : ∀ (n k i : Nat), x5.length - i = n → n < k → i ≤ x5.length → vidimusref17_Reserved.l0 k s x5 (x5.length : Int) (i : Int) = some ((x5.drop i).any fun x => x.toList == s.toList)
  | n, 0, i, _, h, _ => by omega
  | 0, k + 1, i, hn, _, hi => by
    rw [vidimusref17_Reserved.l0, if_neg (by omega), List.drop_of_length_le (by omega)]
    rfl
  | n + 1, k + 1, i, hn, hk, hi => by
    have hlt : i < x5.length := by omega
    rw [vidimusref17_Reserved.l0, if_pos (by omega), if_pos (by omega), if_pos (by omega)]
    have e : rdOf ByteArray.empty x5 (i : Int) = x5[i] := by
      unfold rdOf
      rw [Int.toNat_natCast, List.getD_eq_getElem?_getD, List.getElem?_eq_getElem hlt]
      rfl
    have ew : wrap64 ((i : Int) + 1) = ((i + 1 : Nat) : Int) := by rw [w64 (by omega) (by omega)]; omega
    rw [e, List.drop_eq_getElem_cons hlt, List.any_cons, ew]
    by_cases h : x5[i].toList = s.toList
    · rw [if_pos h, h]
      simp
    · rw [if_neg h, res_l s x5 hl n k (i + 1) (by omega) (by omega) (by omega), beq_eq_false_iff_ne.mpr h]
      rfl
theorem Reserved_is (s : ByteArray) (k : Nat) (hk : 40 ≤ k) : vidimusref17_Reserved.f k s = some (Ps.reserved s) := by
  unfold vidimusref17_Reserved.f
  simp only [Option.bind_some]
  rw [show (0 : Int) = ((0 : Nat) : Int) from rfl, res_l s _ (by decide) 29 k 0 rfl (by omega) (by omega)]
  unfold Ps.reserved Ps.resL
  rw [List.drop_zero, List.contains_eq_any_beq]
  simp only [List.any_cons, List.any_nil, tl_mk, Bool.beq_comm (a := s.toList)]
/-! ### Texts -/
theorem data_app (a b : ByteArray) : (a ++ b).data.toList = a.data.toList ++ b.data.toList := by simp
structure SmallW (s : ByteArray) : Prop where
  low : ∀ c ∈ s.data.toList, 97 ≤ c ∧ c ≤ 122
  one : 1 ≤ s.size
  len : s.size ≤ 30
theorem small_letter (c : UInt8) : 97 ≤ c ∧ c ≤ 122 → Lx.isLetter c = true ∧ Lx.isPart c = true ∧ Lx.lowerB c = c ∧ Lx.isBlank c = false := Lx.all8 (p := fun c => 97 ≤ c ∧ c ≤ 122 → Lx.isLetter c = true ∧ Lx.isPart c = true ∧ Lx.lowerB c = c ∧ Lx.isBlank c = false) (by decide +kernel) c
theorem SmallW.good {s : ByteArray} (h : SmallW s) : Lx.Good ⟨1, s.data.toList, 0⟩ := by
  refine Lx.good_word ?_
  have h1 := h.one
  have h2 := h.len
  have hl := len_data s
  cases e : s.data.toList with
  | nil => rw [e] at hl; simp at hl; omega
  | cons c r =>
    simp only [Bool.and_eq_true, decide_eq_true_eq]
    refine ⟨⟨(small_letter c (h.low c (by rw [e]; simp))).1, List.all_eq_true.2 fun x hx => ?_⟩, ?_⟩
    · obtain ⟨_, p1, p2, _⟩ := small_letter x (h.low x (by rw [e]; exact hx))
      simp [p1, p2]
    · rw [← e, hl]; exact h2
theorem SmallW.ne {s : ByteArray} (h : SmallW s) : s.data.toList ≠ [] := by
  intro e
  have := len_data s
  rw [e] at this
  have := h.one
  simp at *
  omega
theorem parseS_toks {s : ByteArray} {ts : List Lx.Tk} (hs : s.size ≤ 4000) (h : Lx.toks s.data.toList = .ok ts) : parseS s = parseA (ts.map tk32 ++ [z32]) := by
  unfold parseS tokF
  rw [Lx.lexA_toks, if_neg (by rw [len_data]; omega), h]
  rfl
theorem fits_bl {t : Lx.Tk} {l : List Lx.It} (hg : Lx.Good t) (h : Lx.nextOk t 32 = true) (hl : Lx.fits l) : Lx.fits (.tk t :: .bl :: l) :=
  ⟨hg, fun c r hc => by
    rw [Lx.textIt_cons] at hc
    simp only [Lx.It.text, List.cons_append, List.cons.injEq] at hc
    rw [← hc.1]; exact h, hl⟩
theorem fits_tk {t u : Lx.Tk} {l : List Lx.It} (hg : Lx.Good t) (h : ∀ c r, Lx.piece u = c :: r → Lx.nextOk t c = true) (hl : Lx.fits (.tk u :: l)) : Lx.fits (.tk t :: .tk u :: l) :=
  ⟨hg, fun c r hc => by
    obtain ⟨d, q, hp, _⟩ := Lx.tokA_piece hl.1
    rw [Lx.textIt_cons] at hc
    simp only [Lx.It.text, hp, List.cons_append, List.cons.injEq] at hc
    rw [← hc.1]; exact h d q hp, hl⟩
theorem fits_end {t : Lx.Tk} (hg : Lx.Good t) : Lx.fits [.tk t] := ⟨hg, fun c r hc => (by cases hc), trivial⟩
theorem ok_open (c : UInt8) : Lx.nextOk ⟨4, [40], 0⟩ c = true := by
  have h1 : Lx.twos.contains [40, c] = false := by simp [Lx.twos]
  have : Lx.nextOk ⟨4, [40], 0⟩ c = (false || (!Lx.twos.contains [40, c] && !(([40] : List UInt8) == [45] && c == 45))) := rfl
  rw [this, h1]
  rfl
theorem word_blank (l : List UInt8) : Lx.nextOk ⟨1, l, 0⟩ 32 = true := by
  have : Lx.nextOk ⟨1, l, 0⟩ 32 = !Lx.isPart 32 := rfl
  rw [this]; decide
def T1 (s : ByteArray) : ByteArray := (⟨#[100, 114, 111, 112, 32, 116, 97, 98, 108, 101, 32]⟩ : ByteArray) ++ s
theorem T1_parse {s : ByteArray} (h : SmallW s) : parseS (T1 s) = parseA [⟨1, ⟨#[100, 114, 111, 112]⟩, 0⟩, ⟨1, ⟨#[116, 97, 98, 108, 101]⟩, 0⟩, wd s, z32] := by
  have hf : Lx.fits [.tk ⟨1, [100, 114, 111, 112], 0⟩, .bl, .tk ⟨1, [116, 97, 98, 108, 101], 0⟩, .bl, .tk ⟨1, s.data.toList, 0⟩] := (fits_bl (Lx.good_word (by decide)) (word_blank _) (fits_bl (Lx.good_word (by decide)) (word_blank _) (fits_end h.good)))
  have ht := Lx.toks_it _ hf
  have e : Lx.textIt [.tk ⟨1, [100, 114, 111, 112], 0⟩, .bl, .tk ⟨1, [116, 97, 98, 108, 101], 0⟩, .bl, .tk ⟨1, s.data.toList, 0⟩] = (T1 s).data.toList := by
    unfold T1
    simp only [data_app]
    simp [Lx.textIt, Lx.It.text, Lx.piece, digits, digA]
  rw [e] at ht
  rw [parseS_toks (by unfold T1; have := h.len; rw [ByteArray.size_append, show (⟨#[100, 114, 111, 112, 32, 116, 97, 98, 108, 101, 32]⟩ : ByteArray).size = 11 from rfl]; omega) ht]
  simp only [Lx.toksIt, List.map_cons, List.map_nil, tk32, ba_of, List.cons_append, List.nil_append]
  rfl
def T2 (s : ByteArray) : ByteArray := ((⟨#[99, 114, 101, 97, 116, 101, 32, 116, 97, 98, 108, 101, 32, 116, 32, 40]⟩ : ByteArray) ++ s) ++ (⟨#[32, 105, 110, 116, 32, 107, 101, 121, 41]⟩ : ByteArray)
theorem T2_parse {s : ByteArray} (h : SmallW s) : parseS (T2 s) = parseA [⟨1, ⟨#[99, 114, 101, 97, 116, 101]⟩, 0⟩, ⟨1, ⟨#[116, 97, 98, 108, 101]⟩, 0⟩, ⟨1, ⟨#[116]⟩, 0⟩, ⟨4, ⟨#[40]⟩, 0⟩, wd s, ⟨1, ⟨#[105, 110, 116]⟩, 0⟩, ⟨1, ⟨#[107, 101, 121]⟩, 0⟩, ⟨4, ⟨#[41]⟩, 0⟩, z32] := by
  have hf : Lx.fits [.tk ⟨1, [99, 114, 101, 97, 116, 101], 0⟩, .bl, .tk ⟨1, [116, 97, 98, 108, 101], 0⟩, .bl, .tk ⟨1, [116], 0⟩, .bl, .tk ⟨4, [40], 0⟩, .tk ⟨1, s.data.toList, 0⟩, .bl, .tk ⟨1, [105, 110, 116], 0⟩, .bl, .tk ⟨1, [107, 101, 121], 0⟩, .tk ⟨4, [41], 0⟩] := (fits_bl (Lx.good_word (by decide)) (word_blank _) (fits_bl (Lx.good_word (by decide)) (word_blank _) (fits_bl (Lx.good_word (by decide)) (word_blank _) (fits_tk (Lx.good_sign (by decide)) (fun c _ _ => ok_open c) (fits_bl h.good (word_blank _) (fits_bl (Lx.good_word (by decide)) (word_blank _) (fits_tk (Lx.good_word (by decide)) (by intro c r hc; cases hc; decide) (fits_end (Lx.good_sign (by decide))))))))))
  have ht := Lx.toks_it _ hf
  have e : Lx.textIt [.tk ⟨1, [99, 114, 101, 97, 116, 101], 0⟩, .bl, .tk ⟨1, [116, 97, 98, 108, 101], 0⟩, .bl, .tk ⟨1, [116], 0⟩, .bl, .tk ⟨4, [40], 0⟩, .tk ⟨1, s.data.toList, 0⟩, .bl, .tk ⟨1, [105, 110, 116], 0⟩, .bl, .tk ⟨1, [107, 101, 121], 0⟩, .tk ⟨4, [41], 0⟩] = (T2 s).data.toList := by
    unfold T2
    simp only [data_app]
    simp [Lx.textIt, Lx.It.text, Lx.piece, digits, digA]
  rw [e] at ht
  rw [parseS_toks (by unfold T2; have := h.len; rw [ByteArray.size_append, ByteArray.size_append, show (⟨#[99, 114, 101, 97, 116, 101, 32, 116, 97, 98, 108, 101, 32, 116, 32, 40]⟩ : ByteArray).size = 16 from rfl, show (⟨#[32, 105, 110, 116, 32, 107, 101, 121, 41]⟩ : ByteArray).size = 9 from rfl]; omega) ht]
  simp only [Lx.toksIt, List.map_cons, List.map_nil, tk32, ba_of, List.cons_append, List.nil_append]
  rfl
def T3 (s : ByteArray) : ByteArray := ((⟨#[117, 112, 100, 97, 116, 101, 32, 116, 32, 115, 101, 116, 32]⟩ : ByteArray) ++ s) ++ (⟨#[32, 61, 32, 49]⟩ : ByteArray)
theorem T3_parse {s : ByteArray} (h : SmallW s) : parseS (T3 s) = parseA [⟨1, ⟨#[117, 112, 100, 97, 116, 101]⟩, 0⟩, ⟨1, ⟨#[116]⟩, 0⟩, ⟨1, ⟨#[115, 101, 116]⟩, 0⟩, wd s, ⟨4, ⟨#[61]⟩, 0⟩, ⟨2, ⟨#[]⟩, 1⟩, z32] := by
  have hf : Lx.fits [.tk ⟨1, [117, 112, 100, 97, 116, 101], 0⟩, .bl, .tk ⟨1, [116], 0⟩, .bl, .tk ⟨1, [115, 101, 116], 0⟩, .bl, .tk ⟨1, s.data.toList, 0⟩, .bl, .tk ⟨4, [61], 0⟩, .bl, .tk ⟨2, [], 1⟩] := (fits_bl (Lx.good_word (by decide)) (word_blank _) (fits_bl (Lx.good_word (by decide)) (word_blank _) (fits_bl (Lx.good_word (by decide)) (word_blank _) (fits_bl h.good (word_blank _) (fits_bl (Lx.good_sign (by decide)) (by decide) (fits_end (Lx.good_num (by decide))))))))
  have ht := Lx.toks_it _ hf
  have e : Lx.textIt [.tk ⟨1, [117, 112, 100, 97, 116, 101], 0⟩, .bl, .tk ⟨1, [116], 0⟩, .bl, .tk ⟨1, [115, 101, 116], 0⟩, .bl, .tk ⟨1, s.data.toList, 0⟩, .bl, .tk ⟨4, [61], 0⟩, .bl, .tk ⟨2, [], 1⟩] = (T3 s).data.toList := by
    unfold T3
    simp only [data_app]
    simp [Lx.textIt, Lx.It.text, Lx.piece, digits, digA]
  rw [e] at ht
  rw [parseS_toks (by unfold T3; have := h.len; rw [ByteArray.size_append, ByteArray.size_append, show (⟨#[117, 112, 100, 97, 116, 101, 32, 116, 32, 115, 101, 116, 32]⟩ : ByteArray).size = 13 from rfl, show (⟨#[32, 61, 32, 49]⟩ : ByteArray).size = 4 from rfl]; omega) ht]
  simp only [Lx.toksIt, List.map_cons, List.map_nil, tk32, ba_of, List.cons_append, List.nil_append]
  rfl
def T4 (s : ByteArray) : ByteArray := (⟨#[100, 101, 108, 101, 116, 101, 32, 102, 114, 111, 109, 32, 116, 32, 119, 104, 101, 114, 101, 32]⟩ : ByteArray) ++ s
theorem T4_parse {s : ByteArray} (h : SmallW s) : parseS (T4 s) = parseA [⟨1, ⟨#[100, 101, 108, 101, 116, 101]⟩, 0⟩, ⟨1, ⟨#[102, 114, 111, 109]⟩, 0⟩, ⟨1, ⟨#[116]⟩, 0⟩, ⟨1, ⟨#[119, 104, 101, 114, 101]⟩, 0⟩, wd s, z32] := by
  have hf : Lx.fits [.tk ⟨1, [100, 101, 108, 101, 116, 101], 0⟩, .bl, .tk ⟨1, [102, 114, 111, 109], 0⟩, .bl, .tk ⟨1, [116], 0⟩, .bl, .tk ⟨1, [119, 104, 101, 114, 101], 0⟩, .bl, .tk ⟨1, s.data.toList, 0⟩] := (fits_bl (Lx.good_word (by decide)) (word_blank _) (fits_bl (Lx.good_word (by decide)) (word_blank _) (fits_bl (Lx.good_word (by decide)) (word_blank _) (fits_bl (Lx.good_word (by decide)) (word_blank _) (fits_end h.good)))))
  have ht := Lx.toks_it _ hf
  have e : Lx.textIt [.tk ⟨1, [100, 101, 108, 101, 116, 101], 0⟩, .bl, .tk ⟨1, [102, 114, 111, 109], 0⟩, .bl, .tk ⟨1, [116], 0⟩, .bl, .tk ⟨1, [119, 104, 101, 114, 101], 0⟩, .bl, .tk ⟨1, s.data.toList, 0⟩] = (T4 s).data.toList := by
    unfold T4
    simp only [data_app]
    simp [Lx.textIt, Lx.It.text, Lx.piece, digits, digA]
  rw [e] at ht
  rw [parseS_toks (by unfold T4; have := h.len; rw [ByteArray.size_append, show (⟨#[100, 101, 108, 101, 116, 101, 32, 102, 114, 111, 109, 32, 116, 32, 119, 104, 101, 114, 101, 32]⟩ : ByteArray).size = 20 from rfl]; omega) ht]
  simp only [Lx.toksIt, List.map_cons, List.map_nil, tk32, ba_of, List.cons_append, List.nil_append]
  rfl
theorem read_ok {ts : List S32} {x : S60} (h : Ps.read KP ts = some x) (h1 : longB x = false) (h2 : twiceB x = false) : parseA ts = (x, 0) := by
  unfold parseA
  rw [h]
  simp only [h1, h2]
  rfl
theorem not_res {s : ByteArray} (hr : Ps.reserved s = false) : ∀ x ∈ Ps.resL, s.toList ≠ x := by
  intro x hx e
  unfold Ps.reserved at hr
  rw [e] at hr
  have := List.contains_iff_mem.2 hx
  rw [hr] at this
  cases this
theorem KPs : KP = (KP - 30) + 30 := by decide
theorem t_free : Ps.reserved ⟨#[116]⟩ = false := by decide +kernel
theorem b_none : Ps.binds ⟨#[]⟩ = 0 := by decide +kernel
theorem names_free {s : ByteArray} (h : SmallW s) (hr : Ps.reserved s = false) : (parseS (T1 s)).2 = 0 ∧ (parseS (T2 s)).2 = 0 ∧ (parseS (T3 s)).2 = 0 ∧ parseS (T4 s) = ({ Ps.st0 with f0 := 6, f1 := ⟨#[116]⟩, f7 := [⟨Ps.sCol, Ps.v0, s, []⟩] }, 0) := by
  have hs : s.toList ≠ [] := by rw [tl_data]; exact h.ne
  have hn := not_res hr
  have n1 := hn [110, 111, 116] (by decide)
  have n2 := hn [110, 117, 108, 108] (by decide)
  have n3 := hn [99, 111, 117, 110, 116] (by decide)
  have n4 := hn [115, 117, 109] (by decide)
  have n5 := hn [109, 105, 110] (by decide)
  have n6 := hn [109, 97, 120] (by decide)
  have low : ∀ c, c < 97 → s.toList ≠ [c] := fun c hc e => by
    rw [tl_data] at e
    have := (h.low c (by rw [e]; simp)).1
    exact absurd this (UInt8.not_le.2 hc)
  have n7 := low 45 (by decide)
  have n8 := low 40 (by decide)
  have h1 := t_free
  have h2 := b_none
  rw [T1_parse h, T2_parse h, T3_parse h, T4_parse h]
  refine ⟨?_, ?_, ?_, ?_⟩
  · rw [read_ok (x := { Ps.st0 with f0 := 2, f1 := s }) (by simp [Ps.read, Ps.stmt, Ps.head, Ps.ms, Ps.tk, Ps.pk, Ps.nx, Ps.nm, Ps.fin, hr, tl_mk, z32e]) (by kernel_rfl) (by kernel_rfl)]
  · rw [read_ok (x := { Ps.st0 with f0 := 1, f1 := ⟨#[116]⟩, f2 := [⟨s, 1, 0⟩], f3 := s }) (by rw [KPs]; simp [Ps.read, Ps.stmt, Ps.head, Ps.ms, Ps.tk, Ps.pk, Ps.nx, Ps.nm, Ps.fin, Ps.list, Ps.lst, Ps.column, Ps.colB, hr, tl_mk, z32e, hs, h1]) (by kernel_rfl) (by kernel_rfl)]
  · rw [read_ok (x := { Ps.st0 with f0 := 5, f1 := ⟨#[116]⟩, f6 := [⟨s, Ps.val ⟨1, 1, ⟨#[]⟩⟩⟩] }) (by rw [KPs]; simp [Ps.read, Ps.stmt, Ps.head, Ps.ms, Ps.tk, Ps.pk, Ps.nx, Ps.nm, Ps.fin, Ps.list, Ps.lst, Ps.setU, Ps.set, Ps.whr, Ps.expr, Ps.first, Ps.more, hr, tl_mk, z32e, hs, h1, h2, Ps.st0, z60]) (by kernel_rfl) (by kernel_rfl)]
  · rw [read_ok (x := { Ps.st0 with f0 := 6, f1 := ⟨#[116]⟩, f7 := [⟨Ps.sCol, Ps.v0, s, []⟩] }) (by rw [KPs]; simp [Ps.read, Ps.stmt, Ps.head, Ps.ms, Ps.tk, Ps.pk, Ps.nx, Ps.nm, Ps.fin, Ps.whr, Ps.expr, Ps.first, Ps.more, hr, tl_mk, z32e, hs, h1, h2, n1, n2, n3, n4, n5, n6, n7, n8]) (by kernel_rfl) (by kernel_rfl)]
theorem names_all : (Ps.resL.all fun l => decide ((parseS (T1 (ba l))).2 ≠ 0 ∧ (parseS (T2 (ba l))).2 ≠ 0 ∧ (parseS (T3 (ba l))).2 ≠ 0 ∧ ((parseS (T4 (ba l))).2 = 0 ↔ l = [110, 117, 108, 108]))) = true := by decide +kernel
theorem names_res {s : ByteArray} (hr : Ps.reserved s = true) : (parseS (T1 s)).2 ≠ 0 ∧ (parseS (T2 s)).2 ≠ 0 ∧ (parseS (T3 s)).2 ≠ 0 ∧ ((parseS (T4 s)).2 = 0 ↔ s.toList = [110, 117, 108, 108]) := by
  unfold Ps.reserved at hr
  have hm := List.contains_iff_mem.1 hr
  have := List.all_eq_true.1 names_all _ hm
  rw [tl_data, ba_of] at this
  rw [tl_data]
  simpa using this
end Go.Proofs.YtcgdncpioafbdaaGreatDoor.Q

/- lex.str: what stands between quotes at the beginning of a text. -/
import Derived.Test.YtcgdncpioafbdaaGreatDoorNumW
namespace Go.Proofs.YtcgdncpioafbdaaGreatDoor.Q
open Go Go.RowKit Go.Proofs.YtcgdncpioafbdaaGreatDoorW.PrintWords

theorem wbyte (B b : Nat) (acc : List UInt8) (c : UInt8) (w : World) (h : Lib.IsBuilder 169 5 B b (Lib.byteCells acc) w) (hlen : acc.length + 1 ≤ 5000) (hBw : B ≤ w.heap.size) :
    Calls Tryz.prog 127 #[.pointer (some ⟨b, 0, none⟩), .int .u8 (c.toNat : Int)] w fun e w' => e = .returned .nilIface ∧ Lib.IsBuilder 169 5 B b (Lib.byteCells (acc ++ [c])) w' ∧ Below B w w' := by
  have hc := Any.Builder_WriteByte (ρ := Tryz.lays159_ren) { Tryz.lays159 with } Tryz.Builder_Extra_159 B b (Lib.byteCells acc) (c.toNat : Int) w h (by rw [Lib.byteCells_length]; omega) hBw
  refine Calls.mono hc ?_
  rintro e w' ⟨rfl, h1, hb⟩
  refine ⟨rfl, .inr ?_, hb⟩
  rw [Lib.byteCells_append]
  exact h1

def StrRel (l : List UInt8) (w : World) (i : Value) (wr : World) : Prop :=
  ∃ (k : Nat) (acc : List UInt8), i = .int .i64 k ∧ 1 ≤ k ∧ k ≤ l.length ∧ Lib.IsBuilder 169 5 (w.heap.size + 1) (w.heap.size + 1) (Lib.byteCells acc) wr ∧ Res w.heap.size (.int .i64 0) (.string ⟨#[]⟩) (.int .i64 0) w wr ∧ acc.length + 1 ≤ k ∧
    Lx.strA (l.drop 1) = (Lx.strA (l.drop k)).map fun p => (acc ++ p.1, p.2 + (k - 1))
def StrEnd (l : List UInt8) (w : World) (e : Ending) (w' : World) : Prop := e = .returned (tokVal (Lx.textA (l.drop 1))) ∧ Below w.heap.size w w'

theorem Res.above {B B' : Nat} {a b c : Value} {w0 w w1 : World} (h : Res B a b c w0 w) (hb : Below B' w w1) (hB : B < B') : Res B a b c w0 w1 :=
  ⟨(hb.cell (p := ⟨B, 0, none⟩) hB).trans h.c0, (hb.cell (p := ⟨B, 1, none⟩) hB).trans h.c1, (hb.cell (p := ⟨B, 2, none⟩) hB).trans h.c2,
    (hb.frozen (p := ⟨B, 0, none⟩) hB).trans h.f0, (hb.frozen (p := ⟨B, 1, none⟩) hB).trans h.f1, (hb.frozen (p := ⟨B, 2, none⟩) hB).trans h.f2, Nat.lt_of_lt_of_le h.sz hb.size, h.bl.trans (hb.mono (Nat.le_of_lt hB))⟩

theorem strA_other (c : UInt8) (r : List UInt8) (h : c ≠ 39) : Lx.strA (c :: r) = (Lx.strA r).map fun p => (c :: p.1, p.2 + 1) := by
  have h1 : (c == 39) = false := by simpa using h
  cases r with
  | nil => simp [Lx.strA, h]
  | cons d r => simp only [Lx.strA, h1]; rfl
theorem strA_twice (r : List UInt8) : Lx.strA (39 :: 39 :: r) = (Lx.strA r).map fun p => (39 :: p.1, p.2 + 2) := by simp [Lx.strA]
theorem strA_last (r : List UInt8) (h : r.head? ≠ some 39) : Lx.strA (39 :: r) = some ([], 1) := by
  cases r with
  | nil => simp [Lx.strA]
  | cons d r =>
    have h1 : (d == 39) = false := by simpa using h
    simp only [Lx.strA, h1]
    rfl
theorem drop_at (s : ByteArray) (k : Nat) (h : k < s.size) : s.data.toList.drop k = s[k]'h :: s.data.toList.drop (k + 1) := by
  have hl : s.data.toList.length = s.size := by rw [Array.length_toList]; rfl
  rw [List.drop_eq_getElem_cons (by omega)]
  rfl
theorem strA_more {x : Option (List UInt8 × Nat)} {acc : List UInt8} {k j : Nat} {c : UInt8} {y : Option (List UInt8 × Nat)} (hk : 1 ≤ k) (h : y = (x.map fun p => (c :: p.1, p.2 + j)).map fun p => (acc ++ p.1, p.2 + (k - 1))) :
    y = x.map fun p => ((acc ++ [c]) ++ p.1, p.2 + (k + j - 1)) := by
  rw [h]
  cases x with
  | none => rfl
  | some p =>
    simp only [Option.map_some]
    congr 2
    · simp
    · omega
theorem len_calls (B b : Nat) (acc : List UInt8) (w : World) (h : Lib.IsBuilder 169 5 B b (Lib.byteCells acc) w) :
    Calls Tryz.prog 125 #[.pointer (some ⟨b, 0, none⟩)] w fun e w' => e = .returned (.int .i64 (acc.length : Int)) ∧ w' = w := by
  have := Tryz.Builder_Len B b (Lib.byteCells acc) w h
  rw [Lib.byteCells_length] at this
  exact this
theorem string_calls (B b : Nat) (acc : List UInt8) (w : World) (h : Lib.IsBuilder 169 5 B b (Lib.byteCells acc) w) (hB : B ≤ w.heap.size) :
    Calls Tryz.prog 126 #[.pointer (some ⟨b, 0, none⟩)] w fun e w' => e = .returned (.string (ba acc)) ∧ Below B w w' := Tryz.Builder_String_any B b acc w h hB

theorem strA_start (l : List UInt8) : Lx.strA (l.drop 1) = (Lx.strA (l.drop 1)).map fun p => ([] ++ p.1, p.2 + (1 - 1)) := by
  cases Lx.strA (l.drop 1) <;> rfl

set_option maxHeartbeats 4000000 in
set_option maxRecDepth 100000 in
theorem str_walk (s : ByteArray) (hs : s.size ≤ 4000) (h1 : 1 ≤ s.size) (w : World) :
    Calls Tryz.prog 60 #[.string s] w (StrEnd s.data.toList w) := by
  have hls : s.data.toList.length = s.size := by rw [Array.length_toList]; rfl
  have HL := Lib.hid hls
  have h0 : StrRel s.data.toList w (.int .i64 (1 : Nat)) ((w.alloc (.cells #[.int .i64 0, .string ⟨#[]⟩, .int .i64 0] 32)).alloc (.cells #[.pointer none, .slice none 0 0] 169)) := by
    refine ⟨1, [], rfl, Nat.le_refl _, by omega, ?_, ?_, by simp, strA_start _⟩
    · have := Lib.fresh_isBuilder 169 5 (w.alloc (.cells #[.int .i64 0, .string ⟨#[]⟩, .int .i64 0] 32))
      have e : Lib.byteCells [] = [] := rfl
      rw [e]
      simpa using this
    · exact (Res.new w _ _ _ _).below ((Below.refl _ _).alloc (Nat.le_refl _) _)
  have H0 := Lib.hid h0
  clear h0 hls
  go_enter Tryz.func60, Tryz.ntmps60
  go_wp2
  go_loopw [6] (fun i wr => StrRel s.data.toList w i wr) (fun i _ => s.size - (intOf i).toNat)
  case atStart => exact H0.out
  case round =>
    obtain ⟨k, acc, rfl, hk1, hk2, hB, hR, hacc, hA⟩ := hrel
    have hkl : k ≤ s.size := by have := HL.out; omega
    have HA := Lib.hid hA
    clear hk2 hA H0
    by_cases hlt : k < s.size
    · have c1 : decide ((k : Nat) < s.size) = true := decide_eq_true hlt
      by_cases hq : s[k]'hlt = 39
      · have c2 : (((s[k]'hlt).toNat : Int) == 39) = true := by rw [hq]; rfl
        have hbs : w.heap.size + 1 ≤ wr.heap.size := hR.sz
        by_cases hd : ∃ h : k + 1 < s.size, s[k + 1]'h = 39
        · obtain ⟨hl2, hd⟩ := hd
          have c3 : (((k : Int) + 1) == (s.size : Int)) = false := by rw [beq_eq_false_iff_ne]; omega
          have c4 : (((s[k + 1]'hl2).toNat : Int) != 39) = false := by rw [hd]; rfl
          have HD := Lib.hid hd
          have HQ := Lib.hid hq
          clear hd hq
          go_wp2_with (go_at_call 127; refine (wbyte (w.heap.size + 1) _ acc (s[k + 1]'hl2) _ hB (by omega) hbs).mono ?_; rintro e w1 ⟨rfl, hB1, hb1⟩)
          go_roundw
          case rel =>
            refine ⟨k + 2, acc ++ [s[k + 1]'hl2], by go_num, by omega, by have := HL.out; omega, hB1, hR.above hb1 (by omega), by simp; omega, ?_⟩
            have h2 := HA.out
            rw [drop_at s k hlt, drop_at s (k + 1) hl2, HQ.out, HD.out, strA_twice] at h2
            rw [HD.out]
            exact strA_more hk1 h2
          case measure => simp [intOf]; omega
        · have hlast : Lx.strA (s.data.toList.drop 1) = some (acc, k) := by
            have h2 := HA.out
            rw [drop_at s k hlt, hq, strA_last] at h2
            · rw [h2]
              simp only [Option.map_some, List.append_nil]
              congr 2
              omega
            · intro h
              have hl2 : k + 1 < s.size := by
                rcases Nat.lt_or_ge (k + 1) s.size with h3 | h3
                · exact h3
                · rw [List.drop_of_length_le (by have := HL.out; omega)] at h
                  simp at h
              rw [drop_at s (k + 1) hl2] at h
              exact hd ⟨hl2, by simpa using h⟩
          have HT : Hid (tokVal (Lx.textA (s.data.toList.drop 1)) = tokVal (if acc.length > 200 then .error 28 else .ok (⟨3, acc, 0⟩, k + 1))) := Lib.hid (by unfold Lx.textA; rw [hlast])
          have R1 := hR
          clear hlast hR
          have c34 : ((((k : Int) + 1) == (s.size : Int)) = true) ∨ (((((k : Int) + 1) == (s.size : Int)) = false) ∧ ∃ h : k + 1 < s.size, (((s[k + 1]'h).toNat : Int) != 39) = true) := by
            by_cases h3 : k + 1 = s.size
            · left; rw [beq_iff_eq]; omega
            · right
              have h4 : k + 1 < s.size := by omega
              refine ⟨by rw [beq_eq_false_iff_ne]; omega, h4, ?_⟩
              rw [bne_iff_ne]
              intro h5
              exact hd ⟨h4, UInt8.toNat_inj.1 (by have e : (39 : UInt8).toNat = 39 := rfl; omega)⟩
          clear hd hq HA
          by_cases hlen : acc.length > 200
          · have c5 : decide (200 < (acc.length : Int)) = true := decide_eq_true (by omega)
            rw [if_pos hlen] at HT
            obtain ⟨k0, k1, k2, z0, z1, z2, sz, bl⟩ := R1
            rcases c34 with c3 | ⟨c3, hl2, c4⟩
            all_goals
              go_wp2_with (go_at_call 125; refine (len_calls (w.heap.size + 1) _ acc _ hB).mono ?_; rintro e w1 ⟨rfl, rfl⟩)
              refine bodyPost_ret (v := .tuple #[.agg #[.int .i64 0, .string ⟨#[]⟩, .int .i64 0], .int .i64 0, .int .i64 28]) ?_ rfl ⟨?_, ?_⟩
              · simp [results, Tryz.results60, go_sem, k0, k1, k2, z0, z1, z2, sz]
              · rw [HT.out]; rfl
              · exact ((bl.setCell (by simp) _).setCell (by simp) _).setCell (by simp) _
          · have c5 : decide (200 < (acc.length : Int)) = false := decide_eq_false (by omega)
            rw [if_neg hlen] at HT
            rcases c34 with c3 | ⟨c3, hl2, c4⟩
            all_goals
              go_wp2_with (first | (go_at_call 125; refine (len_calls (w.heap.size + 1) _ acc _ hB).mono ?_; rintro e w1 ⟨rfl, rfl⟩) | (go_at_call 126; refine (string_calls (w.heap.size + 1) _ acc _ hB hbs).mono ?_; rintro e w1 ⟨rfl, hb1⟩; obtain ⟨k0, k1, k2, z0, z1, z2, sz, bl⟩ := R1.above hb1 (by omega)))
              refine bodyPost_ret (v := .tuple #[.agg #[.int .i64 3, .string (ba acc), .int .i64 0], .int .i64 (k + 1), .int .i64 0]) ?_ rfl ⟨?_, ?_⟩
              · simp [results, Tryz.results60, go_sem, k0, k1, k2, z0, z1, z2, sz]
              · rw [HT.out]; rfl
              · exact ((bl.setCell (by simp) _).setCell (by simp) _).setCell (by simp) _
      · have c2 : (((s[k]'hlt).toNat : Int) == 39) = false := by
          rw [beq_eq_false_iff_ne]
          intro h
          exact hq (UInt8.toNat_inj.1 (by have e : (39 : UInt8).toNat = 39 := rfl; omega))
        have hbs : w.heap.size + 1 ≤ wr.heap.size := hR.sz
        go_wp2_with (go_at_call 127; refine (wbyte (w.heap.size + 1) _ acc (s[k]'hlt) _ hB (by omega) hbs).mono ?_; rintro e w1 ⟨rfl, hB1, hb1⟩)
        go_roundw
        case rel =>
          refine ⟨k + 1, acc ++ [s[k]'hlt], by go_num, by omega, by have := HL.out; omega, hB1, hR.above hb1 (by omega), by simp; omega, ?_⟩
          have h2 := HA.out
          rw [drop_at s k hlt, strA_other _ _ hq] at h2
          exact strA_more hk1 h2
        case measure => simp [intOf]; omega
    · have c1 : decide ((k : Nat) < s.size) = false := decide_eq_false hlt
      obtain ⟨k0, k1, k2, z0, z1, z2, sz, bl⟩ := hR
      go_wp2
      refine bodyPost_ret (v := .tuple #[.agg #[.int .i64 0, .string ⟨#[]⟩, .int .i64 0], .int .i64 0, .int .i64 20]) ?_ rfl ⟨?_, ?_⟩
      · simp [results, Tryz.results60, go_sem, k0, k1, k2, z0, z1, z2, sz]
      · have e1 : s.data.toList.drop k = [] := List.drop_of_length_le (by have := HL.out; omega)
        have e2 := HA.out
        rw [e1] at e2
        have e3 : Lx.strA (s.data.toList.drop 1) = none := by rw [e2]; rfl
        unfold Lx.textA
        rw [e3]
        rfl
      · exact ((bl.setCell (by simp) _).setCell (by simp) _).setCell (by simp) _

/-- lex.str: the string that a text begins with. -/
theorem str_calls (s : ByteArray) (hs : s.size ≤ 4000) (c : UInt8) (r : List UInt8) (hl : s.data.toList = c :: r) (w : World) :
    Calls Tryz.prog 60 #[.string s] w fun e w' => e = .returned (tokVal (Lx.textA r)) ∧ Below w.heap.size w w' := by
  have hls : s.data.toList.length = s.size := by rw [Array.length_toList]; rfl
  have h := str_walk s hs (by rw [hl] at hls; simp at hls; omega) w
  have e : s.data.toList.drop 1 = r := by rw [hl]; rfl
  unfold StrEnd at h
  rw [e] at h
  exact h
end Go.Proofs.YtcgdncpioafbdaaGreatDoor.Q

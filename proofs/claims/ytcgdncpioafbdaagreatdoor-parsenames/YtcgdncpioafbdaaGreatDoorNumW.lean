/- lex.num: a number at the beginning. -/
import Derived.Test.YtcgdncpioafbdaaGreatDoorNum
import Derived.Test.YtcgdncpioafbdaaGreatDoorQlex
import Derived.Test.YtcgdncpioafbdaaGreatDoorTokL
import Derived.Test.YtcgdncpioafbdaaGreatDoorLib
import Derived.Lib.ParseIntBCases
import Derived.WalkLawsBesides
namespace Go.Proofs.YtcgdncpioafbdaaGreatDoor.Q
open Go Go.RowKit Go.Proofs.YtcgdncpioafbdaaGreatDoorW.PrintWords

theorem digit_range (c : UInt8) : Lx.isDigit c = true → 48 ≤ c.toNat ∧ c.toNat ≤ 57 := all_bytes (p := fun c => Lx.isDigit c = true → 48 ≤ c.toNat ∧ c.toNat ≤ 57) (by decide +kernel) c
def valFrom (acc : Nat) (l : List UInt8) : Nat := l.foldl (fun a c => a * 10 + (c.toNat - 48)) acc
theorem valFrom_cons (acc : Nat) (c : UInt8) (r : List UInt8) : valFrom acc (c :: r) = valFrom (acc * 10 + (c.toNat - 48)) r := by unfold valFrom; rw [List.foldl_cons]
theorem fold_ge : ∀ (l : List UInt8) (acc : Nat), acc ≤ valFrom acc l
  | [], acc => Nat.le_refl _
  | c :: r, acc => by
    have := fold_ge r (acc * 10 + (c.toNat - 48))
    rw [valFrom_cons]
    omega
theorem parseM (M : Nat) (hM : M = 18446744073709551615) (l : List UInt8) : ∀ (acc : Nat), (∀ c ∈ l, Lx.isDigit c = true) → acc ≤ M → Lib.parseUintM M acc l = if valFrom acc l ≤ M then .ok (valFrom acc l) else .range := by
  induction l with
  | nil =>
    intro acc _ h
    rw [show valFrom acc [] = acc by unfold valFrom; rw [List.foldl_nil], if_pos h]
    rfl
  | cons c r ih =>
    intro acc hd h
    have hc := digit_range c (hd c (by simp))
    have hge := fold_ge r (acc * 10 + (c.toNat - 48))
    rw [valFrom_cons, Lib.parseUintM, if_pos hc]
    by_cases h1 : 1844674407370955162 ≤ acc
    · rw [if_pos h1, if_neg (by omega)]
    · rw [if_neg h1]
      by_cases h2 : M < acc * 10 + (c.toNat - 48)
      · rw [if_pos h2, if_neg (by omega)]
      · rw [if_neg h2]
        exact ih _ (fun x hx => hd x (by simp [hx])) (by omega)

theorem parse_digits (l : List UInt8) (hne : l ≠ []) (hd : ∀ c ∈ l, Lx.isDigit c = true) : Lib.parseIntB 64 l = if Lx.numVal l > 9223372036854775807 then .range else .ok (Lx.numVal l : Int) := by
  cases l with
  | nil => exact absurd rfl hne
  | cons c r =>
    have hc := digit_range c (hd c (by simp))
    rw [Lib.parseIntB_plain 64 c r (by omega) (by omega)]
    unfold Lib.parseUintB
    rw [if_neg (by simp)]
    have hM : (2 ^ 64 - 1 : Nat) = 18446744073709551615 := by decide
    have hC : (2 ^ (64 - 1) : Nat) = 9223372036854775808 := by decide
    rw [hC]
    generalize hMM : (2 ^ 64 - 1 : Nat) = M
    rw [hM] at hMM
    rw [parseM M hMM.symm (c :: r) 0 hd (by omega)]
    have hv : valFrom 0 (c :: r) = Lx.numVal (c :: r) := rfl
    rw [hv]
    generalize Lx.numVal (c :: r) = v
    by_cases h1 : v ≤ M
    · rw [if_pos h1]
      simp only [Lib.signlessC]
      by_cases h2 : 9223372036854775808 ≤ v
      · rw [if_pos h2, if_pos (by omega)]
      · rw [if_neg h2, if_neg (by omega)]
    · rw [if_neg h1, if_pos (by omega)]
      rfl

/-- What a reader of one token hands back, as a value. -/
def tokVal (x : Except Nat (Lx.Tk × Nat)) : Value := .tuple #[.agg #[.int .i64 (tokFlat x).1, .string (tokFlat x).2.1, .int .i64 (tokFlat x).2.2.1], .int .i64 (tokFlat x).2.2.2.1, .int .i64 (tokFlat x).2.2.2.2]

/-- A result's block: three cells, and it lies below the heap's end. -/
structure Res (B : Nat) (a b c : Value) (w0 w : World) : Prop where
  c0 : w.cell? ⟨B, 0, none⟩ = some a
  c1 : w.cell? ⟨B, 1, none⟩ = some b
  c2 : w.cell? ⟨B, 2, none⟩ = some c
  f0 : w.frozen? ⟨B, 0, none⟩ = false
  f1 : w.frozen? ⟨B, 1, none⟩ = false
  f2 : w.frozen? ⟨B, 2, none⟩ = false
  sz : B < w.heap.size
  bl : Below B w0 w
theorem Res.below {B : Nat} {a b c : Value} {w0 w w1 : World} (h : Res B a b c w0 w) (hb : Below w.heap.size w w1) : Res B a b c w0 w1 :=
  ⟨(hb.cell (p := ⟨B, 0, none⟩) h.sz).trans h.c0, (hb.cell (p := ⟨B, 1, none⟩) h.sz).trans h.c1, (hb.cell (p := ⟨B, 2, none⟩) h.sz).trans h.c2,
    (hb.frozen (p := ⟨B, 0, none⟩) h.sz).trans h.f0, (hb.frozen (p := ⟨B, 1, none⟩) h.sz).trans h.f1, (hb.frozen (p := ⟨B, 2, none⟩) h.sz).trans h.f2, Nat.lt_of_lt_of_le h.sz hb.size, h.bl.trans (hb.mono (Nat.le_of_lt h.sz))⟩
theorem Res.new (w : World) (a b c : Value) (t : TypeId) : Res w.heap.size a b c w (w.alloc (.cells #[a, b, c] t)) := by
  refine ⟨?_, ?_, ?_, ?_, ?_, ?_, by simp, (Below.refl w.heap.size w).alloc (Nat.le_refl _) _⟩
  · rw [World.cell?_alloc_at _ _ _ _ rfl]; rfl
  · rw [World.cell?_alloc_at _ _ _ _ rfl]; rfl
  · rw [World.cell?_alloc_at _ _ _ _ rfl]; rfl
  · exact World.frozen?_alloc_at _ _ _ _ rfl
  · exact World.frozen?_alloc_at _ _ _ _ rfl
  · exact World.frozen?_alloc_at _ _ _ _ rfl
theorem Res.drewN {B : Nat} {a b c : Value} {w0 w : World} (h : Res B a b c w0 w) (n : Nat) : Res B a b c w0 (w.drewN n) := h.below (pw_below_drewN (Below.refl _ _) n)

theorem parse_ok (s : ByteArray) (hs : s.size ≤ 4000) (v : Int) (h : Lib.parseIntB 64 s.data.toList = .ok v) (w : World) :
    Calls Tryz.prog 123 #[.string s, .int .i64 10, .int .i64 64] w fun e w' => e = .returned (.tuple #[.int .i64 v, .nilIface]) ∧ Below w.heap.size w w' := by
  refine (Tryz.strconv_ParseInt_10_at64_ok s (by omega) v h w).mono ?_
  rintro e w' ⟨rfl, rfl | ⟨t, rfl⟩⟩
  · exact ⟨rfl, Below.refl _ _⟩
  · exact ⟨rfl, Lib.bytesWorld_below w 5 t⟩
theorem err_cell {w : World} {a : Addr} (h : w.var? Tryz.prog "strconv.ErrRange" = some #[.iface 398 (.pointer (some a))]) : w.cell? ⟨0, 0, none⟩ = some (.iface 398 (.pointer (some a))) := by
  simpa using World.var?_cell gErr h 0
theorem parse_range (s : ByteArray) (hs : s.size ≤ 4000) (h : Lib.parseIntB 64 s.data.toList = .range) (a : Addr) (w : World) (hv : w.var? Tryz.prog "strconv.ErrRange" = some #[.iface 398 (.pointer (some a))]) :
    Calls Tryz.prog 123 #[.string s, .int .i64 10, .int .i64 64] w fun e w' => ∃ N v, e = .returned (.tuple #[.int .i64 v, .iface 319 (.pointer (some ⟨N, 0, none⟩))]) ∧ w'.cell? ⟨N, 2, none⟩ = some (.iface 398 (.pointer (some a))) ∧ Below w.heap.size w w' := by
  refine (Tryz.strconv_ParseInt_10_at64_range_var s (by omega) h 398 (.pointer (some a)) w hv).mono ?_
  rintro e w' ⟨N, rfl, hN, hc, hb⟩
  exact ⟨N, _, rfl, by simp [World.cell?, hc], hb⟩

set_option maxHeartbeats 2000000 in
set_option maxRecDepth 100000 in
/-- A letter stands right behind. -/
theorem num_bad (s : ByteArray) (m : Nat) (hs : s.size ≤ 4000) (hm : (s.data.toList.takeWhile Lx.isDigit).length = m) (hlt : m < s.size) (hp : Lx.isPart (s[m]'hlt) = true) (w : World) :
    Calls Tryz.prog 59 #[.string s] w fun e w' => e = .returned (tokVal (.error 20)) ∧ Below w.heap.size w w' := by
  have hr := run_is s digB (by decide +kernel) hs
  rw [takeWhile_cong dig_is, hm] at hr
  have hh := has_is behB (s[m]'hlt)
  rw [beh_is, hp] at hh
  have HR := Lib.hid hr
  have HH := Lib.hid hh
  have c1 : decide ((m : Nat) < s.size) = true := decide_eq_true hlt
  clear hr hh hm hp
  go_enter Tryz.func59, Tryz.ntmps59
  go_wp2_with (first | (go_at_call 121; refine (lex_run.calls s digB (m : Int) _ HR.out).mono ?_; rintro e w1 ⟨rfl, hb1⟩; obtain ⟨k0, k1, k2, z0, z1, z2, sz, bl⟩ := (Res.new w _ _ _ _).below hb1; clear hb1) | (go_at_call 57; refine (lex_has.calls behB _ true _ HH.out).mono ?_; rintro e w2 ⟨rfl, ⟨n, rfl⟩⟩))
  refine bodyPost_ret (v := .tuple #[.agg #[.int .i64 0, .string ⟨#[]⟩, .int .i64 0], .int .i64 0, .int .i64 20]) ?_ rfl ⟨rfl, ?_⟩
  · simp [results, Tryz.results59, go_sem, k0, k1, k2, z0, z1, z2, sz]
  · exact (((pw_below_drewN bl n).setCell (by simp) _).setCell (by simp) _).setCell (by simp) _

theorem err_later {w w1 : World} {a : Addr} (hG : GV w) (h : w.var? Tryz.prog "strconv.ErrRange" = some #[.iface 398 (.pointer (some a))]) (hb : Below w.heap.size w w1) : w1.var? Tryz.prog "strconv.ErrRange" = some #[.iface 398 (.pointer (some a))] :=
  var?_below hb gErr (by have := hG.size; omega) h

set_option maxHeartbeats 4000000 in
set_option maxRecDepth 100000 in
/-- A number that is one. -/
theorem num_ok (s : ByteArray) (m : Nat) (hs : s.size ≤ 4000) (hm : (s.data.toList.takeWhile Lx.isDigit).length = m) (hle : m ≤ s.size) (hp : ∀ h : m < s.size, Lx.isPart (s[m]'h) = false) (v : Int) (hv : Lib.parseIntB 64 (s.extract 0 m).data.toList = .ok v) (hlo : -9223372036854775808 ≤ v) (hhi : v ≤ 9223372036854775807) (w : World) (hG : GV w) :
    Calls Tryz.prog 59 #[.string s] w fun e w' => e = .returned (.tuple #[.agg #[.int .i64 2, .string ⟨#[]⟩, .int .i64 v], .int .i64 m, .int .i64 0]) ∧ Below w.heap.size w w' := by
  have hr := run_is s digB (by decide +kernel) hs
  rw [takeWhile_cong dig_is, hm] at hr
  have HR := Lib.hid hr
  have HV := Lib.hid hv
  obtain ⟨a, ha⟩ := hG.err
  have HA := Lib.hid ha
  have hsx : (s.extract 0 m).size ≤ 4000 := by rw [ByteArray.size_extract]; omega
  clear hr hm hv ha
  by_cases hlt : m < s.size
  · have hh := has_is behB (s[m]'hlt)
    rw [beh_is, hp hlt] at hh
    have HH := Lib.hid hh
    have c1 : decide ((m : Nat) < s.size) = true := decide_eq_true hlt
    clear hh hp
    go_enter Tryz.func59, Tryz.ntmps59
    go_wp2_with (first | (go_at_call 121; refine (lex_run.calls s digB (m : Int) _ HR.out).mono ?_; rintro e w1 ⟨rfl, hb1⟩; have R1 := (Res.new w _ _ _ _).below hb1; clear hb1) | (go_at_call 57; refine (lex_has.calls behB _ false _ HH.out).mono ?_; rintro e w2 ⟨rfl, ⟨n, rfl⟩⟩; replace R1 := R1.drewN n) | (go_at_call 123; refine (parse_ok _ hsx v HV.out _).mono ?_; rintro e w3 ⟨rfl, hb3⟩; replace R1 := R1.below hb3; clear hb3; obtain ⟨k0, k1, k2, z0, z1, z2, sz, bl⟩ := R1; have e0 := err_cell (err_later hG HA.out bl)) | (go_at_call 124; refine (is_nil a _).mono ?_; rintro e w4 ⟨rfl, rfl⟩))
    refine bodyPost_ret (v := .tuple #[.agg #[.int .i64 2, .string ⟨#[]⟩, .int .i64 v], .int .i64 m, .int .i64 0]) ?_ rfl ⟨rfl, ?_⟩
    · simp [results, Tryz.results59, go_sem, k0, k1, k2, z0, z1, z2, sz]
    · exact ((bl.setCell (by simp) _).setCell (by simp) _).setCell (by simp) _
  · have c1 : decide ((m : Nat) < s.size) = false := decide_eq_false hlt
    clear hp
    go_enter Tryz.func59, Tryz.ntmps59
    go_wp2_with (first | (go_at_call 121; refine (lex_run.calls s digB (m : Int) _ HR.out).mono ?_; rintro e w1 ⟨rfl, hb1⟩; have R1 := (Res.new w _ _ _ _).below hb1; clear hb1) | (go_at_call 123; refine (parse_ok _ hsx v HV.out _).mono ?_; rintro e w3 ⟨rfl, hb3⟩; replace R1 := R1.below hb3; clear hb3; obtain ⟨k0, k1, k2, z0, z1, z2, sz, bl⟩ := R1; have e0 := err_cell (err_later hG HA.out bl)) | (go_at_call 124; refine (is_nil a _).mono ?_; rintro e w4 ⟨rfl, rfl⟩))
    refine bodyPost_ret (v := .tuple #[.agg #[.int .i64 2, .string ⟨#[]⟩, .int .i64 v], .int .i64 m, .int .i64 0]) ?_ rfl ⟨rfl, ?_⟩
    · simp [results, Tryz.results59, go_sem, k0, k1, k2, z0, z1, z2, sz]
    · exact ((bl.setCell (by simp) _).setCell (by simp) _).setCell (by simp) _

set_option maxHeartbeats 4000000 in
set_option maxRecDepth 100000 in
/-- A number that is none. -/
theorem num_over (s : ByteArray) (m : Nat) (hs : s.size ≤ 4000) (hm : (s.data.toList.takeWhile Lx.isDigit).length = m) (hle : m ≤ s.size) (hp : ∀ h : m < s.size, Lx.isPart (s[m]'h) = false) (hv : Lib.parseIntB 64 (s.extract 0 m).data.toList = .range) (w : World) (hG : GV w) :
    Calls Tryz.prog 59 #[.string s] w fun e w' => e = .returned (tokVal (.error 26)) ∧ Below w.heap.size w w' := by
  have hr := run_is s digB (by decide +kernel) hs
  rw [takeWhile_cong dig_is, hm] at hr
  have HR := Lib.hid hr
  have HV := Lib.hid hv
  obtain ⟨a, ha⟩ := hG.err
  have HA := Lib.hid ha
  have hsx : (s.extract 0 m).size ≤ 4000 := by rw [ByteArray.size_extract]; omega
  clear hr hm hv ha
  by_cases hlt : m < s.size
  · have hh := has_is behB (s[m]'hlt)
    rw [beh_is, hp hlt] at hh
    have HH := Lib.hid hh
    have c1 : decide ((m : Nat) < s.size) = true := decide_eq_true hlt
    clear hh hp
    go_enter Tryz.func59, Tryz.ntmps59
    go_wp2_with (first | (go_at_call 121; refine (lex_run.calls s digB (m : Int) _ HR.out).mono ?_; rintro e w1 ⟨rfl, hb1⟩; have R1 := (Res.new w _ _ _ _).below hb1; clear hb1) | (go_at_call 57; refine (lex_has.calls behB _ false _ HH.out).mono ?_; rintro e w2 ⟨rfl, ⟨n, rfl⟩⟩; replace R1 := R1.drewN n) | (go_at_call 123; refine (parse_range _ hsx HV.out a _ (err_later hG HA.out R1.bl)).mono ?_; rintro e w3 ⟨N, v, rfl, hN, hb3⟩; replace R1 := R1.below hb3; clear hb3; obtain ⟨k0, k1, k2, z0, z1, z2, sz, bl⟩ := R1; have e0 := err_cell (err_later hG HA.out bl)) | (go_at_call 124; refine (is_range _ a _ hN).mono ?_; rintro e w4 ⟨rfl, rfl⟩))
    refine bodyPost_ret (v := .tuple #[.agg #[.int .i64 0, .string ⟨#[]⟩, .int .i64 0], .int .i64 0, .int .i64 26]) ?_ rfl ⟨rfl, ?_⟩
    · simp [results, Tryz.results59, go_sem, k0, k1, k2, z0, z1, z2, sz]
    · exact ((bl.setCell (by simp) _).setCell (by simp) _).setCell (by simp) _
  · have c1 : decide ((m : Nat) < s.size) = false := decide_eq_false hlt
    clear hp
    go_enter Tryz.func59, Tryz.ntmps59
    go_wp2_with (first | (go_at_call 121; refine (lex_run.calls s digB (m : Int) _ HR.out).mono ?_; rintro e w1 ⟨rfl, hb1⟩; have R1 := (Res.new w _ _ _ _).below hb1; clear hb1) | (go_at_call 123; refine (parse_range _ hsx HV.out a _ (err_later hG HA.out R1.bl)).mono ?_; rintro e w3 ⟨N, v, rfl, hN, hb3⟩; replace R1 := R1.below hb3; clear hb3; obtain ⟨k0, k1, k2, z0, z1, z2, sz, bl⟩ := R1; have e0 := err_cell (err_later hG HA.out bl)) | (go_at_call 124; refine (is_range _ a _ hN).mono ?_; rintro e w4 ⟨rfl, rfl⟩))
    refine bodyPost_ret (v := .tuple #[.agg #[.int .i64 0, .string ⟨#[]⟩, .int .i64 0], .int .i64 0, .int .i64 26]) ?_ rfl ⟨rfl, ?_⟩
    · simp [results, Tryz.results59, go_sem, k0, k1, k2, z0, z1, z2, sz]
    · exact ((bl.setCell (by simp) _).setCell (by simp) _).setCell (by simp) _

theorem dropWhile_head {α} (p : α → Bool) (l : List α) : (l.dropWhile p).head? = l[(l.takeWhile p).length]? := by
  induction l with
  | nil => rfl
  | cons c r ih =>
    by_cases h : p c = true
    · simp only [List.dropWhile, List.takeWhile, h, List.length_cons]
      rw [ih]
      rfl
    · have h' : p c = false := by simpa using h
      simp [List.dropWhile, List.takeWhile, h']

/-- lex.num: the number that a text begins with. -/
theorem num_calls (s : ByteArray) (hs : s.size ≤ 4000) (c : UInt8) (r : List UInt8) (hl : s.data.toList = c :: r) (hd : Lx.isDigit c = true) (w : World) (hG : GV w) :
    Calls Tryz.prog 59 #[.string s] w fun e w' => e = .returned (tokVal (Lx.numA s.data.toList)) ∧ Below w.heap.size w w' := by
  have hls : s.data.toList.length = s.size := by rw [Array.length_toList]; rfl
  have hle := Lx.takeWhile_le Lx.isDigit s.data.toList
  have hhead := dropWhile_head Lx.isDigit s.data.toList
  obtain ⟨m, hm⟩ : ∃ m, (s.data.toList.takeWhile Lx.isDigit).length = m := ⟨_, rfl⟩
  rw [hm] at hhead
  have hsx : (s.extract 0 m).data.toList = s.data.toList.takeWhile Lx.isDigit := by
    rw [ba_take, ba_data, ← hm, take_takeWhile]
  have hne : s.data.toList.takeWhile Lx.isDigit ≠ [] := by rw [hl]; simp [List.takeWhile, hd]
  have hpd := parse_digits (s.data.toList.takeWhile Lx.isDigit) hne (fun x hx => mem_takeWhile hx)
  rw [← hsx] at hpd
  have hget : ∀ h : m < s.size, s.data.toList[m]? = some (s[m]'h) := fun h => by rw [List.getElem?_eq_getElem (by omega)]; rfl
  unfold Lx.numA
  by_cases h1 : (s.data.toList.dropWhile Lx.isDigit).head?.any Lx.isPart = true
  · rw [if_pos h1]
    rw [hhead] at h1
    have hlt : m < s.size := by
      rcases Nat.lt_or_ge m s.size with h | h
      · exact h
      · rw [List.getElem?_eq_none (by omega)] at h1
        simp at h1
    rw [hget hlt] at h1
    exact num_bad s m hs hm hlt (by simpa using h1) w
  · rw [if_neg h1]
    have hp : ∀ h : m < s.size, Lx.isPart (s[m]'h) = false := by
      intro h
      rw [hhead, hget h] at h1
      simpa using h1
    rw [hsx] at hpd
    by_cases h2 : Lx.numVal (s.data.toList.takeWhile Lx.isDigit) > 9223372036854775807
    · rw [if_pos h2] at hpd ⊢
      exact num_over s m hs hm (by omega) hp (by rw [hsx]; exact hpd) w hG
    · rw [if_neg h2] at hpd ⊢
      have := num_ok s m hs hm (by omega) hp (Lx.numVal (s.data.toList.takeWhile Lx.isDigit) : Int) (by rw [hsx]; exact hpd) (by omega) (by omega) w hG
      rw [← hm] at this
      exact this
end Go.Proofs.YtcgdncpioafbdaaGreatDoor.Q

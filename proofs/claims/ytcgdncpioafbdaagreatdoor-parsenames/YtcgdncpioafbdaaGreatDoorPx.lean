/- The parser: take, must, name, op. -/
import Derived.Test.YtcgdncpioafbdaaGreatDoorPw
import Derived.Test.YtcgdncpioafbdaaGreatDoorPparse
namespace Go.Proofs.YtcgdncpioafbdaaGreatDoor.Q
open Go Go.RowKit Go.Proofs.YtcgdncpioafbdaaGreatDoorW.PrintWords

theorem PS.alloc {w0 w : World} {g : Nat} {ts : List S32} (h : PS w0 g ts w) (o : Obj) : PS w0 g ts (w.alloc o) := h.below (below_alloc (Below.refl _ _) o)
theorem PS.drewN {w0 w : World} {g : Nat} {ts : List S32} (h : PS w0 g ts w) (n : Nat) : PS w0 g ts (w.drewN n) := h.below (pw_below_drewN (Below.refl _ _) n)
theorem Gr.alloc {g : Nat} {w w1 : World} (h : Gr g w w1) (o : Obj) : Gr g w (w1.alloc o) := h.trans (Gr.of_below (below_alloc (Below.refl _ _) o))
theorem Gr.drewN {g : Nat} {w w1 : World} (h : Gr g w w1) (n : Nat) : Gr g w (w1.drewN n) := h.trans (Gr.of_below (pw_below_drewN (Below.refl _ _) n))
theorem Gr.step {g : Nat} {w w1 w2 : World} (h : Gr g w w1) (hb : Below w1.heap.size w1 w2) : Gr g w w2 := h.trans (Gr.of_below hb)
theorem Gr.cell {g : Nat} {w w1 : World} (h : Gr g w w1) {p : Addr} (hp : p.block < w.heap.size) (hg : p.block ≠ g) : w1.cell? p = w.cell? p := by simp [World.cell?, h.block _ hp hg]
theorem Gr.FK {α : Type} {d : Kd α} {g : Nat} {w w1 : World} {ok : Nat → Prop} {x : α} {c : List Value} (h : Gr g w w1) (hf : Kd.FK d w ok x c) (hok : ∀ k, ok k → k ≠ g) : Kd.FK d w1 ok x c := Kd.FK_step hf (fun k hk hlt => h.block k hlt (hok k hk))
theorem Gr.F {α : Type} {d : Kd α} {g : Nat} {w w1 : World} {ok : Nat → Prop} {A : Option Addr} {n : Nat} {xs : List α} (h : Gr g w w1) (hf : Kd.F d w ok A n xs) (hok : ∀ k, ok k → k ≠ g) : Kd.F d w1 ok A n xs := Kd.F_step hf (fun k hk hlt => h.block k hlt (hok k hk))

/-- What a method of the parser does: it gives up, or hands something back and goes on. -/
def Out {α : Type} (w0 : World) (g : Nat) (V : World → α → Value → Prop) (w : World) (m : Option (α × List S32)) (e : Ending) (w' : World) : Prop :=
  Gr g w w' ∧ match m with
    | none => e = .panicked failedV
    | some (x, r) => ∃ v, e = .returned v ∧ V w' x v ∧ PS w0 g r w'
theorem Out.none {α : Type} {w0 w w' : World} {g : Nat} {V : World → α → Value → Prop} {m : Option (α × List S32)} {e : Ending} (h : Out w0 g V w m e w') (hm : m = none) : Gr g w w' ∧ e = .panicked failedV := by subst hm; exact h
theorem Out.some {α : Type} {w0 w w' : World} {g : Nat} {V : World → α → Value → Prop} {m : Option (α × List S32)} {e : Ending} {x : α} {r : List S32} (h : Out w0 g V w m e w') (hm : m = some (x, r)) : Gr g w w' ∧ ∃ v, e = .returned v ∧ V w' x v ∧ PS w0 g r w' := by subst hm; exact h
theorem Out.of_none {α : Type} {w0 w w' : World} {g : Nat} {V : World → α → Value → Prop} {m : Option (α × List S32)} (hm : m = Option.none) (h : Gr g w w') : Out w0 g V w m (.panicked failedV) w' := by subst hm; exact ⟨h, rfl⟩
theorem Out.of_some {α : Type} {w0 w w' : World} {g : Nat} {V : World → α → Value → Prop} {m : Option (α × List S32)} {x : α} {r : List S32} {v : Value} (hm : m = Option.some (x, r)) (h : Gr g w w') (hv : V w' x v) (hp : PS w0 g r w') : Out w0 g V w m (.returned v) w' := by subst hm; exact ⟨h, v, rfl, hv, hp⟩

def Vbool : World → Bool → Value → Prop := fun _ b v => v = .bool b
def Vstr : World → ByteArray → Value → Prop := fun _ s v => v = .string s
def Vtok : World → S32 → Value → Prop := fun _ t v => v = .agg #[.int .i64 t.f0, .string t.f1, .int .i64 t.f2]

theorem next_out {w0 w : World} {g : Nat} {ts : List S32} (h : PS w0 g ts w) : Calls Tryz.prog 258 #[.pointer (some ⟨g, 0, none⟩)] w (Out w0 g Vtok w (Ps.nx ts)) := by
  refine (next_calls h).mono ?_
  rintro e w' ⟨hg, hm⟩
  cases hn : Ps.nx ts with
  | none => rw [hn] at hm; exact ⟨hg, hm⟩
  | some p => rw [hn] at hm; exact ⟨hg, _, hm.1, rfl, hm.2⟩

set_option maxRecDepth 100000 in
theorem take_out {w0 w : World} {g : Nat} {ts : List S32} (h : PS w0 g ts w) (s : ByteArray) : Calls Tryz.prog 271 #[.pointer (some ⟨g, 0, none⟩), .string s] w (Out w0 g Vbool w (Ps.tk s ts)) := by
  have HP := Aside0.mk h
  clear h
  by_cases c : (Ps.pk ts).toList = s.toList
  · have c0 : ((Ps.pk ts).toList == s.toList) = true := beq_iff_eq.mpr c
    have c1 : ((Ps.pk ts).toList != s.toList) = false := bne_eq_false_iff_eq.mpr c
    have hm : Ps.tk s ts = (Ps.nx ts).map fun p => (true, p.2) := by unfold Ps.tk; rw [if_pos c]
    clear c
    have HM := Aside0.mk hm
    clear hm
    cases hn : Ps.nx ts with
    | none =>
      have HN := Aside0.mk hn
      clear hn
      go_enter Tryz.func271, Tryz.ntmps271
      go_wp2_with (first | (go_at_call 327; refine (peek_calls HP.out).mono ?_; rintro e w1 ⟨rfl, hb⟩; have HB := Aside0.mk hb; clear hb) | (go_at_call 258; refine (next_out (HP.out.below HB.out)).mono ?_; intro e w2 ho; obtain ⟨hg, rfl⟩ := ho.none HN.out; have HG := Aside0.mk hg; clear hg ho))
      exact ⟨rfl, Out.of_none (by rw [HM.out, HN.out]; rfl) ((Gr.of_below HB.out).trans HG.out)⟩
    | some p =>
      obtain ⟨t, r⟩ := p
      have HN := Aside0.mk hn
      clear hn
      go_enter Tryz.func271, Tryz.ntmps271
      go_wp2_with (first | (go_at_call 327; refine (peek_calls HP.out).mono ?_; rintro e w1 ⟨rfl, hb⟩; have HB := Aside0.mk hb; clear hb) | (go_at_call 258; refine (next_out (HP.out.below HB.out)).mono ?_; intro e w2 ho; obtain ⟨hg, v, rfl, hv, hp⟩ := ho.some HN.out; have HG := Aside0.mk hg; have HQ := Aside0.mk hp; clear hg ho hp hv))
      go_ret
      exact Out.of_some (by rw [HM.out, HN.out]; rfl) ((Gr.of_below HB.out).trans HG.out) rfl HQ.out
  · have c0 : ((Ps.pk ts).toList == s.toList) = false := beq_eq_false_iff_ne.mpr c
    have c1 : ((Ps.pk ts).toList != s.toList) = true := bne_iff_ne.mpr c
    have hm : Ps.tk s ts = some (false, ts) := by unfold Ps.tk; rw [if_neg c]
    clear c
    have HM := Aside0.mk hm
    clear hm
    go_enter Tryz.func271, Tryz.ntmps271
    go_wp2_with (first | (go_at_call 327; refine (peek_calls HP.out).mono ?_; rintro e w1 ⟨rfl, hb⟩; have HB := Aside0.mk hb; clear hb))
    go_ret
    exact Out.of_some HM.out (Gr.of_below HB.out) rfl (HP.out.below HB.out)

def Vunit : World → Unit → Value → Prop := fun _ _ v => v = .tuple #[]
theorem ms_true {s : ByteArray} {l : List ByteArray} {ts r : List S32} (h : Ps.tk s ts = some (true, r)) : Ps.ms (s :: l) ts = Ps.ms l r := by simp only [Ps.ms, h]
theorem ms_false {s : ByteArray} {l : List ByteArray} {ts r : List S32} (h : Ps.tk s ts = some (false, r)) : Ps.ms (s :: l) ts = none := by simp only [Ps.ms, h]
theorem ms_none {s : ByteArray} {l : List ByteArray} {ts : List S32} (h : Ps.tk s ts = none) : Ps.ms (s :: l) ts = none := by simp only [Ps.ms, h]
theorem wrapS {i n : Nat} (h : i < n) (hn : n ≤ 9223372036854775807) : wrap64 ((i : Int) + 1) = ((i + 1 : Nat) : Int) := by unfold wrap64; omega

set_option maxHeartbeats 1000000 in
set_option maxRecDepth 100000 in
theorem must_out {w0 w : World} {g : Nat} {ts : List S32} (h : PS w0 g ts w) {l : List ByteArray} {A : Option Addr} {c : Nat} (hF : Kd.F Kd.string w (fun k => k ≠ g) A l.length l) :
    Calls Tryz.prog 259 #[.pointer (some ⟨g, 0, none⟩), .slice A l.length c] w (Out w0 g Vunit w ((Ps.ms l ts).map fun r => ((), r))) := by
  have HP := Aside0.mk h
  have HF := Aside0.mk hF
  have HX := Aside0.mk (Kd.F_max hF)
  clear h hF
  go_enter Tryz.func259, Tryz.ntmps259
  go_wp2
  go_loopg [8] l.length (fun kq v8 w' => ∃ (i : Nat) (ts' : List S32), v8 = .int .i64 i ∧ Aside0 (kq = l.length - i) ∧ Aside0 (i ≤ l.length) ∧ Aside0 (Ps.ms (l.drop i) ts' = Ps.ms l ts) ∧ Aside0 (PS w0 g ts' w') ∧ Aside0 (Gr g w w') ∧ Aside0 (Kd.F Kd.string w' (fun k => k ≠ g) A l.length l))
  case atStart => exact ⟨0, ts, rfl, ⟨by omega⟩, ⟨by omega⟩, ⟨rfl⟩, HP, ⟨Gr.refl _ _⟩, HF⟩
  case round =>
    clear HP HF
    obtain ⟨i, ts', rfl, HK, HI, HM, HP, HG, HF⟩ := hrel
    by_cases hi : i < l.length
    · have c0 : decide ((i : Int) < (l.length : Int)) = true := decide_eq_true (by omega)
      have c1 : decide (i < l.length) = true := decide_eq_true hi
      obtain ⟨ad, e1, hx⟩ := Kd.at_string (Kd.F_now HF.out) (i : Int) (by omega) (by omega)
      cases e1
      simp only [Int.toNat_natCast] at hx
      have hd : l.drop i = (rdOf ByteArray.empty l (i : Int)) :: l.drop (i + 1) := by
        rw [List.drop_eq_getElem_cons hi]
        congr 1
        simp [rdOf, List.getD_eq_getElem?_getD, hi]
      have HD := Aside0.mk hd
      have HI2 := Aside0.mk hi
      obtain ⟨s, hs⟩ : ∃ s, rdOf ByteArray.empty l (i : Int) = s := ⟨_, rfl⟩
      rw [hs] at hx
      clear hd
      have HS := Aside0.mk hs
      clear hs
      have HF2 := fun w2 (hg : Gr g wr w2) => hg.F HF.out (fun _ h => h)
      have HF3 := Aside0.mk HF2
      clear HF2
      cases ht : Ps.tk s ts' with
      | none =>
        have HT := Aside0.mk ht
        clear ht
        go_wp2_with (first | (go_at_call 271; refine (take_out HP.out s).mono ?_; intro e w2 ho; obtain ⟨hg, rfl⟩ := ho.none HT.out; have HQ := Aside0.mk hg; clear hg ho))
        exact ⟨rfl, Out.of_none (by rw [← HM.out, HD.out, HS.out, ms_none HT.out]; rfl) (HG.out.trans HQ.out)⟩
      | some p =>
        obtain ⟨b, r⟩ := p
        have HT := Aside0.mk ht
        clear ht
        cases b with
        | false =>
          go_wp2_with (first | (go_at_call 271; refine (take_out HP.out s).mono ?_; intro e w2 ho; obtain ⟨hg, v, rfl, rfl, hp⟩ := ho.some HT.out; have HQ := Aside0.mk hg; clear hg ho hp) | (go_at_call 264; refine (fail_calls g _).mono ?_; rintro e w3 ⟨rfl, rfl⟩))
          exact ⟨rfl, Out.of_none (by rw [← HM.out, HD.out, HS.out, ms_false HT.out]; rfl) (HG.out.trans HQ.out)⟩
        | true =>
          go_wp2_with (first | (go_at_call 271; refine (take_out HP.out s).mono ?_; intro e w2 ho; obtain ⟨hg, v, rfl, rfl, hp⟩ := ho.some HT.out; have HQ := Aside0.mk hg; have HR := Aside0.mk hp; clear hg ho hp))
          go_roundg (l.length - (i + 1))
          case measure => have := HK.out; omega
          case rel => exact ⟨i + 1, r, by rw [wrapS hi HX.out], ⟨rfl⟩, ⟨by omega⟩, ⟨by rw [← HM.out, HD.out, HS.out, ms_true HT.out]⟩, HR, ⟨HG.out.trans HQ.out⟩, ⟨HF3.out _ HQ.out⟩⟩
    · have c0 : decide ((i : Int) < (l.length : Int)) = false := decide_eq_false (by omega)
      have c1 : decide (i < l.length) = false := decide_eq_false hi
      have hd : l.drop i = [] := List.drop_of_length_le (by omega)
      have HD := Aside0.mk hd
      clear hi hd
      go_wp2
      refine bodyPost_ret (v := .tuple #[]) ?_ rfl ?_
      · simp [results, Tryz.results259, go_sem]
      · refine Out.of_some (by rw [← HM.out, HD.out]; rfl) HG.out rfl HP.out

theorem ite_beq {a b : List UInt8} {x : Option Bool} {y : Bool} (h : x = some y) : (if a = b then some true else x) = some ((a == b) || y) := by
  by_cases c : a = b
  · rw [if_pos c, beq_iff_eq.mpr c]; rfl
  · rw [if_neg c, beq_eq_false_iff_ne.mpr c, h]; rfl
theorem reserved_is (s : ByteArray) : parse_reserved.f s = some (Ps.reserved s) := by
  unfold parse_reserved.f Ps.reserved Ps.resL
  simp only [List.contains_cons, List.contains_nil]
  repeat refine ite_beq ?_
  rfl
theorem binds_is (s : ByteArray) : parse_binds.f 3 s = some (Ps.binds s) := by
  by_cases h0 : s.toList = [111, 114]
  · unfold parse_binds.f Ps.binds
    simp only [parse_binds.j0, parse_binds.j1]
    rw [h0]
    decide
  by_cases h1 : s.toList = [97, 110, 100]
  · unfold parse_binds.f Ps.binds
    simp only [parse_binds.j0, parse_binds.j1]
    rw [h1]
    decide
  by_cases h2 : s.toList = [61]
  · unfold parse_binds.f Ps.binds
    simp only [parse_binds.j0, parse_binds.j1]
    rw [h2]
    decide
  by_cases h3 : s.toList = [60, 62]
  · unfold parse_binds.f Ps.binds
    simp only [parse_binds.j0, parse_binds.j1]
    rw [h3]
    decide
  by_cases h4 : s.toList = [60]
  · unfold parse_binds.f Ps.binds
    simp only [parse_binds.j0, parse_binds.j1]
    rw [h4]
    decide
  by_cases h5 : s.toList = [60, 61]
  · unfold parse_binds.f Ps.binds
    simp only [parse_binds.j0, parse_binds.j1]
    rw [h5]
    decide
  by_cases h6 : s.toList = [62]
  · unfold parse_binds.f Ps.binds
    simp only [parse_binds.j0, parse_binds.j1]
    rw [h6]
    decide
  by_cases h7 : s.toList = [62, 61]
  · unfold parse_binds.f Ps.binds
    simp only [parse_binds.j0, parse_binds.j1]
    rw [h7]
    decide
  by_cases h8 : s.toList = [105, 115]
  · unfold parse_binds.f Ps.binds
    simp only [parse_binds.j0, parse_binds.j1]
    rw [h8]
    decide
  by_cases h9 : s.toList = [43]
  · unfold parse_binds.f Ps.binds
    simp only [parse_binds.j0, parse_binds.j1]
    rw [h9]
    decide
  by_cases h10 : s.toList = [45]
  · unfold parse_binds.f Ps.binds
    simp only [parse_binds.j0, parse_binds.j1]
    rw [h10]
    decide
  by_cases h11 : s.toList = [124, 124]
  · unfold parse_binds.f Ps.binds
    simp only [parse_binds.j0, parse_binds.j1]
    rw [h11]
    decide
  by_cases h12 : s.toList = [42]
  · unfold parse_binds.f Ps.binds
    simp only [parse_binds.j0, parse_binds.j1]
    rw [h12]
    decide
  by_cases h13 : s.toList = [47]
  · unfold parse_binds.f Ps.binds
    simp only [parse_binds.j0, parse_binds.j1]
    rw [h13]
    decide
  by_cases h14 : s.toList = [37]
  · unfold parse_binds.f Ps.binds
    simp only [parse_binds.j0, parse_binds.j1]
    rw [h14]
    decide
  unfold parse_binds.f Ps.binds
  simp [parse_binds.j0, parse_binds.j1, h0, h1, h2, h3, h4, h5, h6, h7, h8, h9, h10, h11, h12, h13, h14]

set_option maxHeartbeats 1000000 in
set_option maxRecDepth 100000 in
theorem name_out {w0 w : World} {g : Nat} {ts : List S32} (h : PS w0 g ts w) : Calls Tryz.prog 260 #[.pointer (some ⟨g, 0, none⟩)] w (Out w0 g Vstr w (Ps.nm ts)) := by
  have HP := Aside0.mk h
  clear h
  cases hn : Ps.nx ts with
  | none =>
    have HN := Aside0.mk hn
    have HM := Aside0.mk (show Ps.nm ts = none by unfold Ps.nm; rw [hn])
    clear hn
    go_enter Tryz.func260, Tryz.ntmps260
    go_wp2_with (first | (go_at_call 258; refine (next_out HP.out).mono ?_; intro e w2 ho; obtain ⟨hg, rfl⟩ := ho.none HN.out; have HG := Aside0.mk hg; clear hg ho))
    exact ⟨rfl, Out.of_none HM.out HG.out⟩
  | some p =>
    obtain ⟨t, r⟩ := p
    have HN := Aside0.mk hn
    have hm : Ps.nm ts = if t.f0 = 1 then if Ps.reserved t.f1 = true then none else some (t.f1, r) else none := by unfold Ps.nm; rw [hn]
    clear hn
    by_cases k1 : t.f0 = 1
    · rw [if_pos k1] at hm
      have b1 : (t.f0 != 1) = false := bne_eq_false_iff_eq.mpr k1
      have RS := Aside0.mk (reserved_is t.f1)
      cases hr : Ps.reserved t.f1 with
      | true =>
        rw [hr] at hm RS
        rw [if_pos rfl] at hm
        have HM := Aside0.mk hm
        clear hm hr
        go_enter Tryz.func260, Tryz.ntmps260
        go_wp2_with (first | (go_at_call 258; refine (next_out HP.out).mono ?_; intro e w2 ho; obtain ⟨hg, v, rfl, rfl, hp⟩ := ho.some HN.out; have HG := Aside0.mk hg; have HQ := Aside0.mk hp; clear hg ho hp) | (go_at_call 324; refine (parse_reserved.calls _ _ _ RS.out).mono ?_; rintro e w3 ⟨rfl, ⟨n, rfl⟩⟩) | (go_at_call 264; refine (fail_calls g _).mono ?_; rintro e w3 ⟨rfl, rfl⟩))
        exact ⟨rfl, Out.of_none HM.out ((HG.out.alloc _).drewN _)⟩
      | false =>
        rw [hr] at hm RS
        rw [if_neg (by simp)] at hm
        have HM := Aside0.mk hm
        clear hm hr
        go_enter Tryz.func260, Tryz.ntmps260
        go_wp2_with (first | (go_at_call 258; refine (next_out HP.out).mono ?_; intro e w2 ho; obtain ⟨hg, v, rfl, rfl, hp⟩ := ho.some HN.out; have HG := Aside0.mk hg; have HQ := Aside0.mk hp; clear hg ho hp) | (go_at_call 324; refine (parse_reserved.calls _ _ _ RS.out).mono ?_; rintro e w3 ⟨rfl, ⟨n, rfl⟩⟩))
        go_ret
        exact Out.of_some HM.out ((HG.out.alloc _).drewN _) rfl ((HQ.out.alloc _).drewN _)
    · rw [if_neg k1] at hm
      have b1 : (t.f0 != 1) = true := bne_iff_ne.mpr k1
      have HM := Aside0.mk hm
      clear hm
      go_enter Tryz.func260, Tryz.ntmps260
      go_wp2_with (first | (go_at_call 258; refine (next_out HP.out).mono ?_; intro e w2 ho; obtain ⟨hg, v, rfl, rfl, hp⟩ := ho.some HN.out; have HG := Aside0.mk hg; have HQ := Aside0.mk hp; clear hg ho hp) | (go_at_call 264; refine (fail_calls g _).mono ?_; rintro e w3 ⟨rfl, rfl⟩))
      exact ⟨rfl, Out.of_none HM.out (HG.out.alloc _)⟩
end Go.Proofs.YtcgdncpioafbdaaGreatDoor.Q

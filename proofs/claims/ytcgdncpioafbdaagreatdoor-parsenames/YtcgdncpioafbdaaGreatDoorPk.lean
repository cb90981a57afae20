/- The parser: the statement's block; choose. -/
import Derived.Test.YtcgdncpioafbdaaGreatDoorPi
namespace Go.Proofs.YtcgdncpioafbdaaGreatDoor.Q
open Go Go.RowKit Go.Proofs.YtcgdncpioafbdaaGreatDoorW.PrintWords

def cells60 (x : S60) (A2 : Option Addr) (c2 : Nat) (A4 : Option Addr) (c4 : Nat) (A5 : Option Addr) (c5 : Nat) (A6 : Option Addr) (c6 : Nat) (A7 : Option Addr) (c7 : Nat) : List Value := [.int .i64 x.f0, .string x.f1, .slice A2 x.f2.length c2, .string x.f3, .slice A4 x.f4.length c4, .slice A5 x.f5.length c5, .slice A6 x.f6.length c6, .slice A7 x.f7.length c7, .string x.f8, .bool x.f9, .int .i64 x.f10]
/-- What a statement's rows are. -/
structure StF (ok : Nat → Prop) (w : World) (x : S60) (A2 : Option Addr) (c2 : Nat) (A4 : Option Addr) (c4 : Nat) (A5 : Option Addr) (c5 : Nat) (A6 : Option Addr) (c6 : Nat) (A7 : Option Addr) (c7 : Nat) : Prop where
  l2 : x.f2.length ≤ c2
  f2 : Kd.F k128 w ok A2 x.f2.length x.f2
  l4 : x.f4.length ≤ c4
  f4 : Kd.F (Kd.slice 43 k43) w ok A4 x.f4.length x.f4
  l5 : x.f5.length ≤ c5
  f5 : Kd.F k43 w ok A5 x.f5.length x.f5
  l6 : x.f6.length ≤ c6
  f6 : Kd.F k90 w ok A6 x.f6.length x.f6
  l7 : x.f7.length ≤ c7
  f7 : Kd.F k43 w ok A7 x.f7.length x.f7
/-- The parser's state and, in block gs, the statement x. -/
structure SB (w0 : World) (g gs : Nat) (x : S60) (ts : List S32) (w : World) : Prop where
  ps : PS w0 g ts w
  st : ∃ A2 c2 A4 c4 A5 c5 A6 c6 A7 c7, w.heap[gs]? = some (.cells (cells60 x A2 c2 A4 c4 A5 c5 A6 c6 A7 c7).toArray 60 (0, 0)) ∧ StF (fun q => gs < q) w x A2 c2 A4 c4 A5 c5 A6 c6 A7 c7
  low : g < gs
theorem SB.lt {w0 w : World} {g gs : Nat} {x : S60} {ts : List S32} (h : SB w0 g gs x ts w) : gs < w.heap.size := by
  obtain ⟨_, ⟨_, _, _, _, _, _, _, _, _, _, hb, _⟩, _⟩ := h
  exact blk_lt hb
theorem SB.has {w0 w : World} {g gs : Nat} {x : S60} {ts : List S32} (h : SB w0 g gs x ts w) (i : Nat) (hi : i < 11) : ∃ v, w.cell? ⟨gs, i, none⟩ = some v := by
  obtain ⟨_, ⟨_, _, _, _, _, _, _, _, _, _, hb, _⟩, _⟩ := h
  rw [blk_cell hb]
  exact ⟨_, Array.getElem?_eq_getElem (by simpa [cells60] using hi)⟩
theorem SB.frz {w0 w : World} {g gs : Nat} {x : S60} {ts : List S32} (h : SB w0 g gs x ts w) (i : Nat) : w.frozen? ⟨gs, i, none⟩ = false := by
  obtain ⟨_, ⟨_, _, _, _, _, _, _, _, _, _, hb, _⟩, _⟩ := h
  exact blk_frozen hb i
theorem SB.go {w0 w w' : World} {g gs : Nat} {x : S60} {ts r : List S32} (h : SB w0 g gs x ts w) (hg : Gr g w w') (hp : PS w0 g r w') : SB w0 g gs x r w' := by
  obtain ⟨hps, ⟨A2, c2, A4, c4, A5, c5, A6, c6, A7, c7, hb, hF⟩, hl⟩ := h
  exact ⟨hp, ⟨A2, c2, A4, c4, A5, c5, A6, c6, A7, c7, hg.blk hb (by omega), hF.l2, hg.F hF.f2 (fun q hq => by have h1 : gs < q := hq; omega), hF.l4, hg.F hF.f4 (fun q hq => by have h1 : gs < q := hq; omega), hF.l5, hg.F hF.f5 (fun q hq => by have h1 : gs < q := hq; omega), hF.l6, hg.F hF.f6 (fun q hq => by have h1 : gs < q := hq; omega), hF.l7, hg.F hF.f7 (fun q hq => by have h1 : gs < q := hq; omega)⟩, hl⟩
theorem SB.below {w0 w w' : World} {g gs : Nat} {x : S60} {ts : List S32} (h : SB w0 g gs x ts w) (hb : Below w.heap.size w w') : SB w0 g gs x ts w' := h.go (Gr.of_below hb) (h.ps.below hb)
theorem SB.alloc {w0 w : World} {g gs : Nat} {x : S60} {ts : List S32} (h : SB w0 g gs x ts w) (o : Obj) : SB w0 g gs x ts (w.alloc o) := h.below (below_alloc (Below.refl _ _) o)
theorem SB.put0 {w0 w : World} {g gs : Nat} {x : S60} {ts : List S32} (h : SB w0 g gs x ts w) (n : Int) : SB w0 g gs { x with f0 := n } ts (w.setCell ⟨gs, 0, none⟩ (.int .i64 n)) := by
  obtain ⟨hps, ⟨A2, c2, A4, c4, A5, c5, A6, c6, A7, c7, hb, hF⟩, hl⟩ := h
  exact ⟨hps.setB (Nat.le_trans hps.low (Nat.le_of_lt hl)) (by omega) _ _, ⟨A2, c2, A4, c4, A5, c5, A6, c6, A7, c7, blk_put hb 0 _ rfl, hF.l2, Kd.F_far hF.f2 (fun q hq => by have h1 : gs < q := hq; simp only; omega) _, hF.l4, Kd.F_far hF.f4 (fun q hq => by have h1 : gs < q := hq; simp only; omega) _, hF.l5, Kd.F_far hF.f5 (fun q hq => by have h1 : gs < q := hq; simp only; omega) _, hF.l6, Kd.F_far hF.f6 (fun q hq => by have h1 : gs < q := hq; simp only; omega) _, hF.l7, Kd.F_far hF.f7 (fun q hq => by have h1 : gs < q := hq; simp only; omega) _⟩, hl⟩
theorem SB.put1 {w0 w : World} {g gs : Nat} {x : S60} {ts : List S32} (h : SB w0 g gs x ts w) (s : ByteArray) : SB w0 g gs { x with f1 := s } ts (w.setCell ⟨gs, 1, none⟩ (.string s)) := by
  obtain ⟨hps, ⟨A2, c2, A4, c4, A5, c5, A6, c6, A7, c7, hb, hF⟩, hl⟩ := h
  exact ⟨hps.setB (Nat.le_trans hps.low (Nat.le_of_lt hl)) (by omega) _ _, ⟨A2, c2, A4, c4, A5, c5, A6, c6, A7, c7, blk_put hb 1 _ rfl, hF.l2, Kd.F_far hF.f2 (fun q hq => by have h1 : gs < q := hq; simp only; omega) _, hF.l4, Kd.F_far hF.f4 (fun q hq => by have h1 : gs < q := hq; simp only; omega) _, hF.l5, Kd.F_far hF.f5 (fun q hq => by have h1 : gs < q := hq; simp only; omega) _, hF.l6, Kd.F_far hF.f6 (fun q hq => by have h1 : gs < q := hq; simp only; omega) _, hF.l7, Kd.F_far hF.f7 (fun q hq => by have h1 : gs < q := hq; simp only; omega) _⟩, hl⟩
theorem SB.put3 {w0 w : World} {g gs : Nat} {x : S60} {ts : List S32} (h : SB w0 g gs x ts w) (s : ByteArray) : SB w0 g gs { x with f3 := s } ts (w.setCell ⟨gs, 3, none⟩ (.string s)) := by
  obtain ⟨hps, ⟨A2, c2, A4, c4, A5, c5, A6, c6, A7, c7, hb, hF⟩, hl⟩ := h
  exact ⟨hps.setB (Nat.le_trans hps.low (Nat.le_of_lt hl)) (by omega) _ _, ⟨A2, c2, A4, c4, A5, c5, A6, c6, A7, c7, blk_put hb 3 _ rfl, hF.l2, Kd.F_far hF.f2 (fun q hq => by have h1 : gs < q := hq; simp only; omega) _, hF.l4, Kd.F_far hF.f4 (fun q hq => by have h1 : gs < q := hq; simp only; omega) _, hF.l5, Kd.F_far hF.f5 (fun q hq => by have h1 : gs < q := hq; simp only; omega) _, hF.l6, Kd.F_far hF.f6 (fun q hq => by have h1 : gs < q := hq; simp only; omega) _, hF.l7, Kd.F_far hF.f7 (fun q hq => by have h1 : gs < q := hq; simp only; omega) _⟩, hl⟩
theorem SB.put8 {w0 w : World} {g gs : Nat} {x : S60} {ts : List S32} (h : SB w0 g gs x ts w) (s : ByteArray) : SB w0 g gs { x with f8 := s } ts (w.setCell ⟨gs, 8, none⟩ (.string s)) := by
  obtain ⟨hps, ⟨A2, c2, A4, c4, A5, c5, A6, c6, A7, c7, hb, hF⟩, hl⟩ := h
  exact ⟨hps.setB (Nat.le_trans hps.low (Nat.le_of_lt hl)) (by omega) _ _, ⟨A2, c2, A4, c4, A5, c5, A6, c6, A7, c7, blk_put hb 8 _ rfl, hF.l2, Kd.F_far hF.f2 (fun q hq => by have h1 : gs < q := hq; simp only; omega) _, hF.l4, Kd.F_far hF.f4 (fun q hq => by have h1 : gs < q := hq; simp only; omega) _, hF.l5, Kd.F_far hF.f5 (fun q hq => by have h1 : gs < q := hq; simp only; omega) _, hF.l6, Kd.F_far hF.f6 (fun q hq => by have h1 : gs < q := hq; simp only; omega) _, hF.l7, Kd.F_far hF.f7 (fun q hq => by have h1 : gs < q := hq; simp only; omega) _⟩, hl⟩
theorem SB.put9 {w0 w : World} {g gs : Nat} {x : S60} {ts : List S32} (h : SB w0 g gs x ts w) (b : Bool) : SB w0 g gs { x with f9 := b } ts (w.setCell ⟨gs, 9, none⟩ (.bool b)) := by
  obtain ⟨hps, ⟨A2, c2, A4, c4, A5, c5, A6, c6, A7, c7, hb, hF⟩, hl⟩ := h
  exact ⟨hps.setB (Nat.le_trans hps.low (Nat.le_of_lt hl)) (by omega) _ _, ⟨A2, c2, A4, c4, A5, c5, A6, c6, A7, c7, blk_put hb 9 _ rfl, hF.l2, Kd.F_far hF.f2 (fun q hq => by have h1 : gs < q := hq; simp only; omega) _, hF.l4, Kd.F_far hF.f4 (fun q hq => by have h1 : gs < q := hq; simp only; omega) _, hF.l5, Kd.F_far hF.f5 (fun q hq => by have h1 : gs < q := hq; simp only; omega) _, hF.l6, Kd.F_far hF.f6 (fun q hq => by have h1 : gs < q := hq; simp only; omega) _, hF.l7, Kd.F_far hF.f7 (fun q hq => by have h1 : gs < q := hq; simp only; omega) _⟩, hl⟩
theorem SB.put10 {w0 w : World} {g gs : Nat} {x : S60} {ts : List S32} (h : SB w0 g gs x ts w) (n : Int) : SB w0 g gs { x with f10 := n } ts (w.setCell ⟨gs, 10, none⟩ (.int .i64 n)) := by
  obtain ⟨hps, ⟨A2, c2, A4, c4, A5, c5, A6, c6, A7, c7, hb, hF⟩, hl⟩ := h
  exact ⟨hps.setB (Nat.le_trans hps.low (Nat.le_of_lt hl)) (by omega) _ _, ⟨A2, c2, A4, c4, A5, c5, A6, c6, A7, c7, blk_put hb 10 _ rfl, hF.l2, Kd.F_far hF.f2 (fun q hq => by have h1 : gs < q := hq; simp only; omega) _, hF.l4, Kd.F_far hF.f4 (fun q hq => by have h1 : gs < q := hq; simp only; omega) _, hF.l5, Kd.F_far hF.f5 (fun q hq => by have h1 : gs < q := hq; simp only; omega) _, hF.l6, Kd.F_far hF.f6 (fun q hq => by have h1 : gs < q := hq; simp only; omega) _, hF.l7, Kd.F_far hF.f7 (fun q hq => by have h1 : gs < q := hq; simp only; omega) _⟩, hl⟩
theorem SB.put2 {w0 w : World} {g gs : Nat} {x : S60} {ts : List S32} (h : SB w0 g gs x ts w) {l : List S128} {A : Option Addr} {c : Nat} (hc : l.length ≤ c) (hF0 : Kd.F k128 w (fun q => gs < q) A l.length l) : SB w0 g gs { x with f2 := l } ts (w.setCell ⟨gs, 2, none⟩ (.slice A l.length c)) := by
  obtain ⟨hps, ⟨A2, c2, A4, c4, A5, c5, A6, c6, A7, c7, hb, hF⟩, hl⟩ := h
  exact ⟨hps.setB (Nat.le_trans hps.low (Nat.le_of_lt hl)) (by omega) _ _, ⟨A, c, A4, c4, A5, c5, A6, c6, A7, c7, blk_put hb 2 _ rfl, hc, Kd.F_far hF0 (fun q hq => by have h1 : gs < q := hq; simp only; omega) _, hF.l4, Kd.F_far hF.f4 (fun q hq => by have h1 : gs < q := hq; simp only; omega) _, hF.l5, Kd.F_far hF.f5 (fun q hq => by have h1 : gs < q := hq; simp only; omega) _, hF.l6, Kd.F_far hF.f6 (fun q hq => by have h1 : gs < q := hq; simp only; omega) _, hF.l7, Kd.F_far hF.f7 (fun q hq => by have h1 : gs < q := hq; simp only; omega) _⟩, hl⟩
theorem SB.put4 {w0 w : World} {g gs : Nat} {x : S60} {ts : List S32} (h : SB w0 g gs x ts w) {l : List (List S43)} {A : Option Addr} {c : Nat} (hc : l.length ≤ c) (hF0 : Kd.F (Kd.slice 43 k43) w (fun q => gs < q) A l.length l) : SB w0 g gs { x with f4 := l } ts (w.setCell ⟨gs, 4, none⟩ (.slice A l.length c)) := by
  obtain ⟨hps, ⟨A2, c2, A4, c4, A5, c5, A6, c6, A7, c7, hb, hF⟩, hl⟩ := h
  exact ⟨hps.setB (Nat.le_trans hps.low (Nat.le_of_lt hl)) (by omega) _ _, ⟨A2, c2, A, c, A5, c5, A6, c6, A7, c7, blk_put hb 4 _ rfl, hF.l2, Kd.F_far hF.f2 (fun q hq => by have h1 : gs < q := hq; simp only; omega) _, hc, Kd.F_far hF0 (fun q hq => by have h1 : gs < q := hq; simp only; omega) _, hF.l5, Kd.F_far hF.f5 (fun q hq => by have h1 : gs < q := hq; simp only; omega) _, hF.l6, Kd.F_far hF.f6 (fun q hq => by have h1 : gs < q := hq; simp only; omega) _, hF.l7, Kd.F_far hF.f7 (fun q hq => by have h1 : gs < q := hq; simp only; omega) _⟩, hl⟩
theorem SB.put5 {w0 w : World} {g gs : Nat} {x : S60} {ts : List S32} (h : SB w0 g gs x ts w) {l : List S43} {A : Option Addr} {c : Nat} (hc : l.length ≤ c) (hF0 : Kd.F k43 w (fun q => gs < q) A l.length l) : SB w0 g gs { x with f5 := l } ts (w.setCell ⟨gs, 5, none⟩ (.slice A l.length c)) := by
  obtain ⟨hps, ⟨A2, c2, A4, c4, A5, c5, A6, c6, A7, c7, hb, hF⟩, hl⟩ := h
  exact ⟨hps.setB (Nat.le_trans hps.low (Nat.le_of_lt hl)) (by omega) _ _, ⟨A2, c2, A4, c4, A, c, A6, c6, A7, c7, blk_put hb 5 _ rfl, hF.l2, Kd.F_far hF.f2 (fun q hq => by have h1 : gs < q := hq; simp only; omega) _, hF.l4, Kd.F_far hF.f4 (fun q hq => by have h1 : gs < q := hq; simp only; omega) _, hc, Kd.F_far hF0 (fun q hq => by have h1 : gs < q := hq; simp only; omega) _, hF.l6, Kd.F_far hF.f6 (fun q hq => by have h1 : gs < q := hq; simp only; omega) _, hF.l7, Kd.F_far hF.f7 (fun q hq => by have h1 : gs < q := hq; simp only; omega) _⟩, hl⟩
theorem SB.put6 {w0 w : World} {g gs : Nat} {x : S60} {ts : List S32} (h : SB w0 g gs x ts w) {l : List S90} {A : Option Addr} {c : Nat} (hc : l.length ≤ c) (hF0 : Kd.F k90 w (fun q => gs < q) A l.length l) : SB w0 g gs { x with f6 := l } ts (w.setCell ⟨gs, 6, none⟩ (.slice A l.length c)) := by
  obtain ⟨hps, ⟨A2, c2, A4, c4, A5, c5, A6, c6, A7, c7, hb, hF⟩, hl⟩ := h
  exact ⟨hps.setB (Nat.le_trans hps.low (Nat.le_of_lt hl)) (by omega) _ _, ⟨A2, c2, A4, c4, A5, c5, A, c, A7, c7, blk_put hb 6 _ rfl, hF.l2, Kd.F_far hF.f2 (fun q hq => by have h1 : gs < q := hq; simp only; omega) _, hF.l4, Kd.F_far hF.f4 (fun q hq => by have h1 : gs < q := hq; simp only; omega) _, hF.l5, Kd.F_far hF.f5 (fun q hq => by have h1 : gs < q := hq; simp only; omega) _, hc, Kd.F_far hF0 (fun q hq => by have h1 : gs < q := hq; simp only; omega) _, hF.l7, Kd.F_far hF.f7 (fun q hq => by have h1 : gs < q := hq; simp only; omega) _⟩, hl⟩
theorem SB.put7 {w0 w : World} {g gs : Nat} {x : S60} {ts : List S32} (h : SB w0 g gs x ts w) {l : List S43} {A : Option Addr} {c : Nat} (hc : l.length ≤ c) (hF0 : Kd.F k43 w (fun q => gs < q) A l.length l) : SB w0 g gs { x with f7 := l } ts (w.setCell ⟨gs, 7, none⟩ (.slice A l.length c)) := by
  obtain ⟨hps, ⟨A2, c2, A4, c4, A5, c5, A6, c6, A7, c7, hb, hF⟩, hl⟩ := h
  exact ⟨hps.setB (Nat.le_trans hps.low (Nat.le_of_lt hl)) (by omega) _ _, ⟨A2, c2, A4, c4, A5, c5, A6, c6, A, c, blk_put hb 7 _ rfl, hF.l2, Kd.F_far hF.f2 (fun q hq => by have h1 : gs < q := hq; simp only; omega) _, hF.l4, Kd.F_far hF.f4 (fun q hq => by have h1 : gs < q := hq; simp only; omega) _, hF.l5, Kd.F_far hF.f5 (fun q hq => by have h1 : gs < q := hq; simp only; omega) _, hF.l6, Kd.F_far hF.f6 (fun q hq => by have h1 : gs < q := hq; simp only; omega) _, hc, Kd.F_far hF0 (fun q hq => by have h1 : gs < q := hq; simp only; omega) _⟩, hl⟩
theorem whr_len {k : Nat} {ts r : List S32} {l : List S43} (h : Ps.whr k ts = some (l, r)) : r.length ≤ ts.length := by
  unfold Ps.whr at h
  cases ht : Ps.tk Ps.sWhere ts with
  | none => rw [ht] at h; cases h
  | some p =>
    obtain ⟨b, r1⟩ := p
    have h1 := (Ps.tk_len ht).1
    rw [ht] at h
    cases b with
    | false => cases h; exact h1
    | true =>
      simp only at h
      cases hx : Ps.expr k 0 r1 with
      | none => rw [hx] at h; cases h
      | some p =>
        obtain ⟨y, r3⟩ := p
        rw [hx] at h
        cases h
        have h3 := Ps.expr_len hx
        omega

set_option maxHeartbeats 4000000 in
set_option maxRecDepth 100000 in
theorem choose_out {w0 w : World} {g gs : Nat} {s : S60} {ts : List S32} (h : SB w0 g gs s ts w) {k : Nat} (hk : 2 * ts.length + 1 ≤ k) (hn : ts.length ≤ 4001) : Calls Tryz.prog 267 #[.pointer (some ⟨g, 0, none⟩), .pointer (some ⟨gs, 0, none⟩)] w (OutG (fun q => q = g ∨ q = gs) (SB w0 g gs) (fun _ (_ : Unit) v => v = .tuple #[]) w ((Ps.choose k s ts).map fun p => (((), p.1), p.2))) := by
  obtain ⟨SS, hSS⟩ : ∃ S : Nat → Prop, (fun q => q = g ∨ q = gs) = S := ⟨_, rfl⟩
  have SB0 := Aside0.mk h
  have HG0 := Aside0.mk (Gs.refl (fun q => q = g ∨ q = gs) w)
  have hgt0 := h.lt
  have hlt := h.ps.lt
  have hlow := h.ps.low
  have hgg := h.low
  clear h
  subst hSS
  cases ht : Ps.tk Ps.sStar ts with
  | none =>
    have HT := Aside0.mk ht
    have HM := Aside0.mk (show Ps.choose k s ts = none by simp only [Ps.choose, ht])
    clear ht
    go_enter Tryz.func267, Tryz.ntmps267
    go_wp2_with (first | (go_at_call 271; refine (take_out SB0.out.ps Ps.sStar).mono ?_; intro e7 w1 ho; obtain ⟨hg, rfl⟩ := ho.none HT.out; have HGN := Aside0.mk (HG0.out.trans (Gs.of_gr hg (.inl rfl))); clear hg ho))
    exact ⟨rfl, OutG.of_none (by rw [HM.out]; rfl) HGN.out⟩
  | some p =>
    obtain ⟨b, r⟩ := p
    have HT := Aside0.mk ht
    clear ht
    go_enter Tryz.func267, Tryz.ntmps267
    go_upto_if 7 with (first | (go_at_call 271; refine (take_out SB0.out.ps Ps.sStar).mono ?_; intro e7 w1 ho; obtain ⟨hg, v, rfl, rfl, hp⟩ := ho.some HT.out; have hsz1 := hg.size; have SB1 := Aside0.mk (SB0.out.go hg hp); have hgt1 : gs < w1.heap.size := SB1.out.lt; have HG1 := Aside0.mk (HG0.out.trans (Gs.of_gr hg (.inl rfl))); clear hg ho hp))
    go_cut [] (fun wc => ∃ (x : S60) (tq : List S32), Aside0 (Ps.choose k s ts = Ps.chooseF k x tq) ∧ Aside0 (tq.length ≤ ts.length) ∧ Aside0 (SB w0 g gs x tq wc) ∧ Aside0 (Gs (fun q => q = g ∨ q = gs) w wc))
    case first =>
      cases b with
      | true =>
        have HM := Aside0.mk (show Ps.choose k s ts = Ps.chooseF k s r by simp only [Ps.choose, HT.out])
        go_wp2
        go_meet
        case rel => exact ⟨s, r, HM, ⟨(Ps.tk_len HT.out).1⟩, SB1, HG1⟩
      | false =>
        cases hx : Ps.lists k r with
        | none =>
          have HX := Aside0.mk hx
          have HM := Aside0.mk (show Ps.choose k s ts = none by simp only [Ps.choose, HT.out, hx])
          clear hx
          go_wp2_with (first | (go_at_call 325; refine (lists_out SB1.out.ps (k := k) (by have := (Ps.tk_len HT.out).1; omega) (by have := (Ps.tk_len HT.out).1; omega)).mono ?_; intro e8 w2 ho; obtain ⟨hg, rfl⟩ := ho.none HX.out; have HGN := Aside0.mk (HG1.out.trans (Gs.of_gr hg (.inl rfl))); clear hg ho))
          exact ⟨rfl, OutG.of_none (by rw [HM.out]; rfl) HGN.out⟩
        | some p =>
          obtain ⟨l, r1⟩ := p
          have HX := Aside0.mk hx
          have HM := Aside0.mk (show Ps.choose k s ts = Ps.chooseF k { s with f5 := l } r1 by simp only [Ps.choose, HT.out, hx])
          clear hx
          go_wp2_with (first | (go_at_call 325; refine (lists_out SB1.out.ps (k := k) (by have := (Ps.tk_len HT.out).1; omega) (by have := (Ps.tk_len HT.out).1; omega)).mono ?_; intro e8 w2 ho; obtain ⟨hg, v, rfl, hv, hp⟩ := ho.some HX.out; obtain ⟨Ax, nx, rfl, hnx, hfx⟩ := hv; have hsz2 := hg.size; have SB2 := Aside0.mk (SB1.out.go hg hp); have hgt2 : gs < w2.heap.size := SB2.out.lt; have HG2 := Aside0.mk (HG1.out.trans (Gs.of_gr hg (.inl rfl))); obtain ⟨y2_5, hy2_5⟩ := SB2.out.has 5 (by omega); have hz2_5 := SB2.out.frz 5; have HNX := Aside0.mk hnx; have HFX := Aside0.mk (Kd.F_mono hfx (ok' := fun q => gs < q) (fun q hq => by omega)); clear hg ho hp hnx hfx))
          go_meet
          case rel => exact ⟨_, r1, HM, ⟨by have := (Ps.tk_len HT.out).1; have := lists_len HX.out; omega⟩, ⟨SB2.out.put5 HNX.out HFX.out⟩, ⟨HG2.out.setS (.inr rfl) _ _⟩⟩
    case rest =>
      clear HT SB1 HG1 SB0 HG0
      obtain ⟨x, tq, HM, HL, SB3, HG3⟩ := hcut
      have hm := HM.out
      clear HM
      unfold Ps.chooseF at hm
      have hgt3 := SB3.out.lt
      cases hu : Ps.ms [Ps.sFrom] tq with
      | none =>
        rw [hu] at hm
        have HU := Aside0.mk hu
        clear hu
        have HM := Aside0.mk hm
        clear hm
        go_wp2_with (first | (go_at_call 259; refine (must1 SB3.out.ps (by simp) Ps.sFrom 1).mono ?_; intro e7 w4 ho; obtain ⟨hg, rfl⟩ := ho.none (msU_none HU.out); have HGN := Aside0.mk (HG3.out.trans (Gs.of_gr hg (.inl rfl))); clear hg ho))
        exact ⟨rfl, OutG.of_none (by rw [HM.out]; rfl) HGN.out⟩
      | some r1 =>
        rw [hu] at hm
        simp only at hm
        have HU := Aside0.mk hu
        clear hu
        cases hnm : Ps.nm r1 with
        | none =>
          rw [hnm] at hm
          have HN := Aside0.mk hnm
          clear hnm
          have HM := Aside0.mk hm
          clear hm
          go_wp2_with (first | (go_at_call 259; refine (must1 SB3.out.ps (by simp) Ps.sFrom 1).mono ?_; intro e7 w4 ho; obtain ⟨hg, v, rfl, rfl, hp⟩ := ho.some (msU_some HU.out); have hsz4 := hg.size; have SB4 := Aside0.mk (SB3.out.go hg hp); have hgt4 : gs < w4.heap.size := SB4.out.lt; have HG4 := Aside0.mk (HG3.out.trans (Gs.of_gr hg (.inl rfl))); clear hg ho hp) | (go_at_call 260; refine (name_out SB4.out.ps).mono ?_; intro e9 w5 ho; obtain ⟨hg, rfl⟩ := ho.none HN.out; have HGN := Aside0.mk (HG4.out.trans (Gs.of_gr hg (.inl rfl))); clear hg ho))
          exact ⟨rfl, OutG.of_none (by rw [HM.out]; rfl) HGN.out⟩
        | some p =>
          obtain ⟨t, r2⟩ := p
          rw [hnm] at hm
          simp only at hm
          have HN := Aside0.mk hnm
          clear hnm
          cases hw : Ps.whr k r2 with
          | none =>
            rw [hw] at hm
            have HW := Aside0.mk hw
            clear hw
            have HM := Aside0.mk hm
            clear hm
            go_wp2_with (first | (go_at_call 259; refine (must1 SB3.out.ps (by simp) Ps.sFrom 1).mono ?_; intro e7 w4 ho; obtain ⟨hg, v, rfl, rfl, hp⟩ := ho.some (msU_some HU.out); have hsz4 := hg.size; have SB4 := Aside0.mk (SB3.out.go hg hp); have hgt4 : gs < w4.heap.size := SB4.out.lt; have HG4 := Aside0.mk (HG3.out.trans (Gs.of_gr hg (.inl rfl))); clear hg ho hp) | (go_at_call 260; refine (name_out SB4.out.ps).mono ?_; intro e9 w5 ho; obtain ⟨hg, v, rfl, rfl, hp⟩ := ho.some HN.out; have hsz5 := hg.size; have SB5 := Aside0.mk (SB4.out.go hg hp); have hgt5 : gs < w5.heap.size := SB5.out.lt; have HG5 := Aside0.mk (HG4.out.trans (Gs.of_gr hg (.inl rfl))); clear hg ho hp) | (go_at_call 270; refine (where_out SB5.out.ps (k := k) (by have := Ps.ms_len HU.out; have := Ps.nm_len HN.out; have := HL.out; omega)).mono ?_; intro e8 w6 ho; obtain ⟨hg, rfl⟩ := ho.none HW.out; have HGN := Aside0.mk (HG5.out.trans (Gs.of_gr hg (.inl rfl))); clear hg ho))
            exact ⟨rfl, OutG.of_none (by rw [HM.out]; rfl) HGN.out⟩
          | some p =>
            obtain ⟨wh, r3⟩ := p
            rw [hw] at hm
            simp only at hm
            have HW := Aside0.mk hw
            have HLW := Aside0.mk (whr_len hw)
            clear hw
            have HM := Aside0.mk hm
            clear hm
            go_upto_region 4 with (first | (go_at_call 259; refine (must1 SB3.out.ps (by simp) Ps.sFrom 1).mono ?_; intro e7 w4 ho; obtain ⟨hg, v, rfl, rfl, hp⟩ := ho.some (msU_some HU.out); have hsz4 := hg.size; have SB4 := Aside0.mk (SB3.out.go hg hp); have hgt4 : gs < w4.heap.size := SB4.out.lt; have HG4 := Aside0.mk (HG3.out.trans (Gs.of_gr hg (.inl rfl))); clear hg ho hp) | (go_at_call 260; refine (name_out SB4.out.ps).mono ?_; intro e9 w5 ho; obtain ⟨hg, v, rfl, rfl, hp⟩ := ho.some HN.out; have hsz5 := hg.size; have SB5 := Aside0.mk (SB4.out.go hg hp); have hgt5 : gs < w5.heap.size := SB5.out.lt; have HG5 := Aside0.mk (HG4.out.trans (Gs.of_gr hg (.inl rfl))); clear hg ho hp) | (go_at_call 270; refine (where_out SB5.out.ps (k := k) (by have := Ps.ms_len HU.out; have := Ps.nm_len HN.out; have := HL.out; omega)).mono ?_; intro e8 w6 ho; obtain ⟨hg, v, rfl, hv, hp⟩ := ho.some HW.out; obtain ⟨Ax, nx, rfl, hnx, hfx⟩ := hv; have hsz6 := hg.size; have SB6 := Aside0.mk (SB5.out.go hg hp); have hgt6 : gs < w6.heap.size := SB6.out.lt; have HG6 := Aside0.mk (HG5.out.trans (Gs.of_gr hg (.inl rfl))); obtain ⟨y6_1, hy6_1⟩ := SB6.out.has 1 (by omega); have hz6_1 := SB6.out.frz 1; obtain ⟨y6_7, hy6_7⟩ := SB6.out.has 7 (by omega); have hz6_7 := SB6.out.frz 7; have HNX := Aside0.mk hnx; have HFX := Aside0.mk (Kd.F_mono hfx (ok' := fun q => gs < q) (fun q hq => by omega)); clear hg ho hp hnx hfx))
            have SB7 := Aside0.mk ((SB6.out.put1 t).put7 HNX.out (Kd.F_far HFX.out (fun q hq => by have h1 : gs < q := hq; simp only; omega) _))
            have HG7 := Aside0.mk ((HG6.out.setS (b := gs) (.inr rfl) 1 (.string t)).setS (b := gs) (.inr rfl) 7 (.slice Ax wh.length nx))
            obtain ⟨x7, hx7⟩ : ∃ y : S60, y = { x with f1 := t, f7 := wh } := ⟨_, rfl⟩
            have hm := HM.out
            clear HM
            rw [← hx7] at hm
            have SB7b : Aside0 (SB w0 g gs x7 r3 _) := hx7 ▸ SB7
            clear SB7
            have SB7 := SB7b
            clear SB7b
            unfold Ps.chooseO at hm
            cases hto : Ps.tk Ps.sOrder r3 with
            | none =>
              rw [hto] at hm
              have HO := Aside0.mk hto
              clear hto
              have HM := Aside0.mk hm
              clear hm
              go_wp2_with (first | (go_at_call 271; refine (take_out SB7.out.ps Ps.sOrder).mono ?_; intro e7 w8 ho; obtain ⟨hg, rfl⟩ := ho.none HO.out; have HGN := Aside0.mk (HG7.out.trans (Gs.of_gr hg (.inl rfl))); clear hg ho))
              exact ⟨rfl, OutG.of_none (by rw [HM.out]; rfl) HGN.out⟩
            | some p =>
              obtain ⟨b, r4⟩ := p
              rw [hto] at hm
              have HO := Aside0.mk hto
              clear hto
              have HM := Aside0.mk hm
              clear hm
              go_upto_if 29 with (first | (go_at_call 271; refine (take_out SB7.out.ps Ps.sOrder).mono ?_; intro e7 w8 ho; obtain ⟨hg, v, rfl, rfl, hp⟩ := ho.some HO.out; have hsz8 := hg.size; have SB8 := Aside0.mk (SB7.out.go hg hp); have hgt8 : gs < w8.heap.size := SB8.out.lt; have HG8 := Aside0.mk (HG7.out.trans (Gs.of_gr hg (.inl rfl))); clear hg ho hp))
              have HLO := Aside0.mk (show r4.length ≤ ts.length by have := (Ps.tk_len HO.out).1; have := HLW.out; have := Ps.nm_len HN.out; have := Ps.ms_len HU.out; have := HL.out; omega)
              have hgt8b : gs < w8.heap.size := SB8.out.lt
              go_cut [] (fun wc => ∃ (x : S60) (tq : List S32), Aside0 (Ps.choose k s ts = Ps.chooseL x tq) ∧ Aside0 (tq.length ≤ ts.length) ∧ Aside0 (SB w0 g gs x tq wc) ∧ Aside0 (Gs (fun q => q = g ∨ q = gs) w wc))
              case first =>
                have hm := HM.out
                clear HM
                cases b with
                | false =>
                  have HM := Aside0.mk hm
                  go_wp2
                  go_meet
                  case rel => exact ⟨x7, r4, HM, HLO, SB8, HG8⟩
                | true =>
                  clear HU HN
                  simp only at hm
                  cases hu : Ps.ms [Ps.sBy] r4 with
                  | none =>
                    rw [hu] at hm
                    have HU := Aside0.mk hu
                    clear hu
                    have HM := Aside0.mk hm
                    clear hm
                    go_wp2_with (first | (go_at_call 259; refine (must1 SB8.out.ps (by simp) Ps.sBy 1).mono ?_; intro e7 w9 ho; obtain ⟨hg, rfl⟩ := ho.none (msU_none HU.out); have HGN := Aside0.mk (HG8.out.trans (Gs.of_gr hg (.inl rfl))); clear hg ho))
                    exact ⟨rfl, OutG.of_none (by rw [HM.out]; rfl) HGN.out⟩
                  | some r5 =>
                    rw [hu] at hm
                    simp only at hm
                    have HU := Aside0.mk hu
                    clear hu
                    cases hnm : Ps.nm r5 with
                    | none =>
                      rw [hnm] at hm
                      have HN := Aside0.mk hnm
                      clear hnm
                      have HM := Aside0.mk hm
                      clear hm
                      go_wp2_with (first | (go_at_call 259; refine (must1 SB8.out.ps (by simp) Ps.sBy 1).mono ?_; intro e7 w9 ho; obtain ⟨hg, v, rfl, rfl, hp⟩ := ho.some (msU_some HU.out); have hsz9 := hg.size; have SB9 := Aside0.mk (SB8.out.go hg hp); have hgt9 : gs < w9.heap.size := SB9.out.lt; have HG9 := Aside0.mk (HG8.out.trans (Gs.of_gr hg (.inl rfl))); clear hg ho hp) | (go_at_call 260; refine (name_out SB9.out.ps).mono ?_; intro e9 w10 ho; obtain ⟨hg, rfl⟩ := ho.none HN.out; have HGN := Aside0.mk (HG9.out.trans (Gs.of_gr hg (.inl rfl))); clear hg ho))
                      exact ⟨rfl, OutG.of_none (by rw [HM.out]; rfl) HGN.out⟩
                    | some p =>
                      obtain ⟨o, r6⟩ := p
                      rw [hnm] at hm
                      simp only at hm
                      have HN := Aside0.mk hnm
                      clear hnm
                      cases hd : Ps.tk Ps.sDesc r6 with
                      | none =>
                        rw [hd] at hm
                        have HD := Aside0.mk hd
                        clear hd
                        have HM := Aside0.mk hm
                        clear hm
                        go_wp2_with (first | (go_at_call 259; refine (must1 SB8.out.ps (by simp) Ps.sBy 1).mono ?_; intro e7 w9 ho; obtain ⟨hg, v, rfl, rfl, hp⟩ := ho.some (msU_some HU.out); have hsz9 := hg.size; have SB9 := Aside0.mk (SB8.out.go hg hp); have hgt9 : gs < w9.heap.size := SB9.out.lt; have HG9 := Aside0.mk (HG8.out.trans (Gs.of_gr hg (.inl rfl))); clear hg ho hp) | (go_at_call 260; refine (name_out SB9.out.ps).mono ?_; intro e9 w10 ho; obtain ⟨hg, v, rfl, rfl, hp⟩ := ho.some HN.out; have hsz10 := hg.size; have SB10 := Aside0.mk (SB9.out.go hg hp); have hgt10 : gs < w10.heap.size := SB10.out.lt; have HG10 := Aside0.mk (HG9.out.trans (Gs.of_gr hg (.inl rfl))); obtain ⟨y10_8, hy10_8⟩ := SB10.out.has 8 (by omega); have hz10_8 := SB10.out.frz 8; clear hg ho hp) | (go_at_call 271; refine (take_out (SB10.out.put8 o).ps Ps.sDesc).mono ?_; intro e7 w11 ho; obtain ⟨hg, rfl⟩ := ho.none HD.out; have HGN := Aside0.mk ((HG10.out.setS (b := gs) (.inr rfl) 8 (.string o)).trans (Gs.of_gr hg (.inl rfl))); clear hg ho))
                        exact ⟨rfl, OutG.of_none (by rw [HM.out]; rfl) HGN.out⟩
                      | some p =>
                        obtain ⟨d, r7⟩ := p
                        rw [hd] at hm
                        simp only at hm
                        have HD := Aside0.mk hd
                        clear hd
                        have HM := Aside0.mk hm
                        clear hm
                        go_wp2_with (first | (go_at_call 259; refine (must1 SB8.out.ps (by simp) Ps.sBy 1).mono ?_; intro e7 w9 ho; obtain ⟨hg, v, rfl, rfl, hp⟩ := ho.some (msU_some HU.out); have hsz9 := hg.size; have SB9 := Aside0.mk (SB8.out.go hg hp); have hgt9 : gs < w9.heap.size := SB9.out.lt; have HG9 := Aside0.mk (HG8.out.trans (Gs.of_gr hg (.inl rfl))); clear hg ho hp) | (go_at_call 260; refine (name_out SB9.out.ps).mono ?_; intro e9 w10 ho; obtain ⟨hg, v, rfl, rfl, hp⟩ := ho.some HN.out; have hsz10 := hg.size; have SB10 := Aside0.mk (SB9.out.go hg hp); have hgt10 : gs < w10.heap.size := SB10.out.lt; have HG10 := Aside0.mk (HG9.out.trans (Gs.of_gr hg (.inl rfl))); obtain ⟨y10_8, hy10_8⟩ := SB10.out.has 8 (by omega); have hz10_8 := SB10.out.frz 8; clear hg ho hp) | (go_at_call 271; refine (take_out (SB10.out.put8 o).ps Ps.sDesc).mono ?_; intro e7 w11 ho; obtain ⟨hg, v, rfl, rfl, hp⟩ := ho.some HD.out; have hsz11 := hg.size; have SB11 := Aside0.mk ((SB10.out.put8 o).go hg hp); have hgt11 : gs < w11.heap.size := SB11.out.lt; have HG11 := Aside0.mk ((HG10.out.setS (b := gs) (.inr rfl) 8 (.string o)).trans (Gs.of_gr hg (.inl rfl))); obtain ⟨y11_9, hy11_9⟩ := SB11.out.has 9 (by omega); have hz11_9 := SB11.out.frz 9; clear hg ho hp))
                        go_meet
                        case rel => exact ⟨_, r7, HM, ⟨by have := (Ps.tk_len HD.out).1; have := Ps.nm_len HN.out; have := Ps.ms_len HU.out; have := HLO.out; omega⟩, ⟨SB11.out.put9 d⟩, ⟨HG11.out.setS (b := gs) (.inr rfl) _ _⟩⟩
              case rest =>
                clear HM HLO SB8 HG8 SB7 HG7 SB6 HG6 SB5 HG5 SB4 HG4 SB3 HG3 HNX HFX HO HL HLW HU HN HW
                clear hx7
                obtain ⟨y, tq2, HM, HL, SB12, HG12⟩ := hcut
                have hgt12 := SB12.out.lt
                have hm := HM.out
                clear HM
                unfold Ps.chooseL at hm
                cases htl : Ps.tk Ps.sLimit tq2 with
                | none =>
                  rw [htl] at hm
                  have HB := Aside0.mk htl
                  clear htl
                  have HM := Aside0.mk hm
                  clear hm
                  go_wp2_with (first | (go_at_call 271; refine (take_out SB12.out.ps Ps.sLimit).mono ?_; intro e7 w13 ho; obtain ⟨hg, rfl⟩ := ho.none HB.out; have HGN := Aside0.mk (HG12.out.trans (Gs.of_gr hg (.inl rfl))); clear hg ho))
                  exact ⟨rfl, OutG.of_none (by rw [HM.out]; rfl) HGN.out⟩
                | some p =>
                  obtain ⟨b2, q1⟩ := p
                  rw [htl] at hm
                  have HB := Aside0.mk htl
                  clear htl
                  cases b2 with
                  | false =>
                    have HM := Aside0.mk hm
                    clear hm
                    go_wp2_with (first | (go_at_call 271; refine (take_out SB12.out.ps Ps.sLimit).mono ?_; intro e7 w13 ho; obtain ⟨hg, v, rfl, rfl, hp⟩ := ho.some HB.out; have hsz13 := hg.size; have SB13 := Aside0.mk (SB12.out.go hg hp); have hgt13 : gs < w13.heap.size := SB13.out.lt; have HG13 := Aside0.mk (HG12.out.trans (Gs.of_gr hg (.inl rfl))); clear hg ho hp))
                    refine bodyPost_end (v := .tuple #[]) ?_ rfl (OutG.of_some (by rw [HM.out]; rfl) HG13.out rfl SB13.out)
                    · simp [results, Tryz.results267, go_sem]
                  | true =>
                    simp only at hm
                    cases hn1 : Ps.nx q1 with
                    | none =>
                      rw [hn1] at hm
                      have HN := Aside0.mk hn1
                      clear hn1
                      have HM := Aside0.mk hm
                      clear hm
                      go_wp2_with (first | (go_at_call 271; refine (take_out SB12.out.ps Ps.sLimit).mono ?_; intro e7 w13 ho; obtain ⟨hg, v, rfl, rfl, hp⟩ := ho.some HB.out; have hsz13 := hg.size; have SB13 := Aside0.mk (SB12.out.go hg hp); have hgt13 : gs < w13.heap.size := SB13.out.lt; have HG13 := Aside0.mk (HG12.out.trans (Gs.of_gr hg (.inl rfl))); clear hg ho hp) | (go_at_call 258; refine (next_out SB13.out.ps).mono ?_; intro e9 w14 ho; obtain ⟨hg, rfl⟩ := ho.none HN.out; have HGN := Aside0.mk (HG13.out.trans (Gs.of_gr hg (.inl rfl))); clear hg ho))
                      exact ⟨rfl, OutG.of_none (by rw [HM.out]; rfl) HGN.out⟩
                    | some p =>
                      obtain ⟨tt, q2⟩ := p
                      rw [hn1] at hm
                      simp only at hm
                      have HN := Aside0.mk hn1
                      clear hn1
                      by_cases c2 : tt.f0 = 2
                      · rw [if_pos c2] at hm
                        have b2c : (tt.f0 != 2) = false := bne_eq_false_iff_eq.mpr c2
                        clear c2
                        have HM := Aside0.mk hm
                        clear hm
                        go_wp2_with (first | (go_at_call 271; refine (take_out SB12.out.ps Ps.sLimit).mono ?_; intro e7 w13 ho; obtain ⟨hg, v, rfl, rfl, hp⟩ := ho.some HB.out; have hsz13 := hg.size; have SB13 := Aside0.mk (SB12.out.go hg hp); have hgt13 : gs < w13.heap.size := SB13.out.lt; have HG13 := Aside0.mk (HG12.out.trans (Gs.of_gr hg (.inl rfl))); clear hg ho hp) | (go_at_call 258; refine (next_out SB13.out.ps).mono ?_; intro e9 w14 ho; obtain ⟨hg, v, rfl, rfl, hp⟩ := ho.some HN.out; have hsz14 := hg.size; have SB14 := Aside0.mk (SB13.out.go hg hp); have hgt14 : gs < w14.heap.size := SB14.out.lt; have HG14 := Aside0.mk (HG13.out.trans (Gs.of_gr hg (.inl rfl))); obtain ⟨y14_10, hy14_10⟩ := SB14.out.has 10 (by omega); have hz14_10 := SB14.out.frz 10; clear hg ho hp) | (go_at_call 264; refine (fail_calls g _).mono ?_; rintro e8 w8 ⟨rfl, rfl⟩))
                        refine bodyPost_end (v := .tuple #[]) ?_ rfl (OutG.of_some (by rw [HM.out]; rfl) ((HG14.out.setS (b := gs) (.inr rfl) _ _).alloc _) rfl ((SB14.out.put10 tt.f2).alloc _))
                        · simp [results, Tryz.results267, go_sem]
                      · rw [if_neg c2] at hm
                        have b2c : (tt.f0 != 2) = true := bne_iff_ne.mpr c2
                        clear c2
                        have HM := Aside0.mk hm
                        clear hm
                        go_wp2_with (first | (go_at_call 271; refine (take_out SB12.out.ps Ps.sLimit).mono ?_; intro e7 w13 ho; obtain ⟨hg, v, rfl, rfl, hp⟩ := ho.some HB.out; have hsz13 := hg.size; have SB13 := Aside0.mk (SB12.out.go hg hp); have hgt13 : gs < w13.heap.size := SB13.out.lt; have HG13 := Aside0.mk (HG12.out.trans (Gs.of_gr hg (.inl rfl))); clear hg ho hp) | (go_at_call 258; refine (next_out SB13.out.ps).mono ?_; intro e9 w14 ho; obtain ⟨hg, v, rfl, rfl, hp⟩ := ho.some HN.out; have hsz14 := hg.size; have SB14 := Aside0.mk (SB13.out.go hg hp); have hgt14 : gs < w14.heap.size := SB14.out.lt; have HG14 := Aside0.mk (HG13.out.trans (Gs.of_gr hg (.inl rfl))); obtain ⟨y14_10, hy14_10⟩ := SB14.out.has 10 (by omega); have hz14_10 := SB14.out.frz 10; clear hg ho hp) | (go_at_call 264; refine (fail_calls g _).mono ?_; rintro e8 w8 ⟨rfl, rfl⟩))
                        exact ⟨rfl, OutG.of_none (by rw [HM.out]; rfl) (HG14.out.alloc _)⟩
end Go.Proofs.YtcgdncpioafbdaaGreatDoor.Q

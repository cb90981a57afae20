/- The parser: the lists of rows, of sets and of columns; the blocks that stmt owns. -/
import Derived.Test.YtcgdncpioafbdaaGreatDoorPk
namespace Go.Proofs.YtcgdncpioafbdaaGreatDoor.Q
open Go Go.RowKit Go.Proofs.YtcgdncpioafbdaaGreatDoorW.PrintWords

theorem rows_out {w0 w : World} {g : Nat} {ts : List S32} (h : PS w0 g ts w) {k : Nat} (hk : 2 * ts.length + 1 ≤ k) (hn : ts.length ≤ 4001) : Calls Tryz.prog 265 #[.pointer (some ⟨g, 0, none⟩), .func (.func 266) #[.pointer (some ⟨g, 0, none⟩)] #[]] w (Out w0 g (Vrow (Kd.slice 43 k43) w.heap.size) w ((Ps.list (Ps.rowU k) k () ts).map fun p => (p.1.1, p.2))) := by
  refine (R_list (along_ps (w0 := w0) h.lt (Nat.le_of_lt (Nat.lt_of_le_of_lt h.low h.lt))) (Ps.rowU k) ts.length k hn ?_ ?_ () ts h (Nat.le_refl _) (by omega)).mono ?_
  · intro st tq w' hI hl
    refine (row_out hI (k := k) (by omega) (by omega)).mono fun e w1 ho => out_g ho ?_
    unfold Ps.rowU
    cases Ps.row k tq with
    | none => rfl
    | some p => rfl
  · intro st tq x st' r hx
    unfold Ps.rowU at hx
    cases he : Ps.row k tq with
    | none => rw [he] at hx; cases hx
    | some p => rw [he] at hx; cases hx; exact row_len he
  · intro e w1 ho
    exact g_out ho rfl
theorem sets_out {w0 w : World} {g : Nat} {ts : List S32} (h : PS w0 g ts w) {k : Nat} (hk : 2 * ts.length + 1 ≤ k) (hn : ts.length ≤ 4001) : Calls Tryz.prog 268 #[.pointer (some ⟨g, 0, none⟩), .func (.func 269) #[.pointer (some ⟨g, 0, none⟩)] #[]] w (Out w0 g (Vrow k90 w.heap.size) w ((Ps.list (Ps.setU k) k () ts).map fun p => (p.1.1, p.2))) := by
  refine (S_list (along_ps (w0 := w0) h.lt (Nat.le_of_lt (Nat.lt_of_le_of_lt h.low h.lt))) (Ps.setU k) ts.length k hn ?_ ?_ () ts h (Nat.le_refl _) (by omega)).mono ?_
  · intro st tq w' hI hl
    refine (set_out hI (k := k) (by omega)).mono fun e w1 ho => out_g ho ?_
    unfold Ps.setU
    cases Ps.set k tq with
    | none => rfl
    | some p => rfl
  · intro st tq x st' r hx
    unfold Ps.setU at hx
    cases he : Ps.set k tq with
    | none => rw [he] at hx; cases hx
    | some p => rw [he] at hx; cases hx; exact set_len he
  · intro e w1 ho
    exact g_out ho rfl
theorem setsU_len {k : Nat} {ts r : List S32} {l : List S90} {u : Unit} (h : Ps.list (Ps.setU k) k () ts = some ((l, u), r)) : r.length ≤ ts.length := by
  refine list_len ?_ h
  intro st tq x st' r hx
  unfold Ps.setU at hx
  cases he : Ps.set k tq with
  | none => rw [he] at hx; cases hx
  | some p => rw [he] at hx; cases hx; exact set_len he
theorem listU_some {α : Type} {m : Option ((α × Unit) × List S32)} {l : α} {u : Unit} {r : List S32} (h : m = some ((l, u), r)) : (m.map fun p => (p.1.1, p.2)) = some (l, r) := by subst h; rfl
theorem listU_none {α : Type} {m : Option ((α × Unit) × List S32)} (h : m = none) : (m.map fun p => (p.1.1, p.2)) = none := by subst h; rfl
theorem along_col {w0 : World} {g gs bp B : Nat} {n : ByteArray} (hg : g < B) (hs : gs < B) (hb : bp < B) (hB : w0.heap.size ≤ B) : Along (fun q => q = g ∨ q = gs) (Icol w0 g gs bp n) w0 g B := by
  refine ⟨?_, .inl rfl, hB, fun _ _ _ h => h.ps, ?_, ?_⟩
  · rintro q (rfl | rfl)
    · exact hg
    · exact hs
  · intro st ts r w w' h hgr hp
    exact ⟨hp, hgr.blk h.st h.ne, hgr.blk h.box h.bpg, h.low, h.ne, h.bpg, h.bps⟩
  · intro st ts w w' h hb2
    exact ⟨h.ps.belowB hb2 hB hg, (hb2.block _ hs).trans h.st, (hb2.block _ hb).trans h.box, h.low, h.ne, h.bpg, h.bps⟩
theorem cols_out {w0 w : World} {g gs bp : Nat} {n key : ByteArray} {ts : List S32} (h : Icol w0 g gs bp n key ts w) {k : Nat} (hk : ts.length < k) (hn : ts.length ≤ 4001) : Calls Tryz.prog 261 #[.pointer (some ⟨g, 0, none⟩), .func (.func 262) #[] #[.pointer (some ⟨bp, 0, none⟩), .pointer (some ⟨gs, 0, none⟩)]] w (OutG (fun q => q = g ∨ q = gs) (Icol w0 g gs bp n) (Vrow k128 w.heap.size) w (Ps.list Ps.column k key ts)) :=
  C_list (along_col (w0 := w0) h.ps.lt (blk_lt h.st) (blk_lt h.box) (Nat.le_of_lt (Nat.lt_of_le_of_lt h.ps.low h.ps.lt))) Ps.column ts.length k hn (fun _ _ _ hI _ => column_clo hI) (fun _ _ _ _ _ hx => column_len hx) key ts h (Nat.le_refl _) hk

/-- Where a statement's rows lie. -/
structure Ads where
  a2 : Option Addr := none
  c2 : Nat := 0
  a4 : Option Addr := none
  c4 : Nat := 0
  a5 : Option Addr := none
  c5 : Nat := 0
  a6 : Option Addr := none
  c6 : Nat := 0
  a7 : Option Addr := none
  c7 : Nat := 0
abbrev celA (x : S60) (a : Ads) : Array Value := (cells60 x a.a2 a.c2 a.a4 a.c4 a.a5 a.c5 a.a6 a.c6 a.a7 a.c7).toArray
abbrev StA (ok : Nat → Prop) (w : World) (x : S60) (a : Ads) : Prop := StF ok w x a.a2 a.c2 a.a4 a.c4 a.a5 a.c5 a.a6 a.c6 a.a7 a.c7
/-- The parser's state and stmt's own blocks: bp holds the parser's address, rb the answer, gs the statement. -/
structure SQ (w0 w : World) (g bp rb gs : Nat) (x : S60) (a : Ads) (ts : List S32) (wc : World) : Prop where
  ps : PS w0 g ts wc
  st : wc.heap[gs]? = some (.cells (celA x a) 60 (0, 0))
  fr : StA (fun q => gs < q) wc x a
  box : wc.heap[bp]? = some (.cells #[.pointer (some ⟨g, 0, none⟩)] 229 (0, 0))
  res : wc.heap[rb]? = some (.cells (celA z60 {}) 60 (0, 0))
  gr : Gr g w wc
  o0 : g < w.heap.size
  o1 : w.heap.size ≤ bp
  o2 : bp < rb
  o3 : rb < gs
section
variable {w0 w wc wd : World} {g bp rb gs : Nat} {x : S60} {a : Ads} {ts r : List S32}
theorem SQ.lt (h : SQ w0 w g bp rb gs x a ts wc) : gs < wc.heap.size := blk_lt h.st
theorem SQ.cell (h : SQ w0 w g bp rb gs x a ts wc) : wc.cell? ⟨bp, 0, none⟩ = some (.pointer (some ⟨g, 0, none⟩)) := (blk_cell h.box 0).trans rfl
theorem SQ.has (h : SQ w0 w g bp rb gs x a ts wc) (i : Nat) (hi : i < 11) : ∃ v, wc.cell? ⟨gs, i, none⟩ = some v := by
  rw [blk_cell h.st]
  exact ⟨_, Array.getElem?_eq_getElem (by simpa [celA, cells60] using hi)⟩
theorem SQ.frz (h : SQ w0 w g bp rb gs x a ts wc) (i : Nat) : wc.frozen? ⟨gs, i, none⟩ = false := blk_frozen h.st i
theorem StF.mono {ok ok' : Nat → Prop} {x : S60} {A2 A4 A5 A6 A7 : Option Addr} {c2 c4 c5 c6 c7 : Nat} {wc : World} (hF : StF ok wc x A2 c2 A4 c4 A5 c5 A6 c6 A7 c7) (hF' : ∀ q, ok q → ok' q) : StF ok' wc x A2 c2 A4 c4 A5 c5 A6 c6 A7 c7 :=
  ⟨hF.l2, Kd.F_mono hF.f2 hF', hF.l4, Kd.F_mono hF.f4 hF', hF.l5, Kd.F_mono hF.f5 hF', hF.l6, Kd.F_mono hF.f6 hF', hF.l7, Kd.F_mono hF.f7 hF'⟩
theorem StF.go {ok : Nat → Prop} {x : S60} {A2 A4 A5 A6 A7 : Option Addr} {c2 c4 c5 c6 c7 : Nat} {wc wd : World} (hF : StF ok wc x A2 c2 A4 c4 A5 c5 A6 c6 A7 c7) (hg : Gr g wc wd) (hq : ∀ q, ok q → q ≠ g) : StF ok wd x A2 c2 A4 c4 A5 c5 A6 c6 A7 c7 :=
  ⟨hF.l2, hg.F hF.f2 hq, hF.l4, hg.F hF.f4 hq, hF.l5, hg.F hF.f5 hq, hF.l6, hg.F hF.f6 hq, hF.l7, hg.F hF.f7 hq⟩
theorem StF.far {ok : Nat → Prop} {x : S60} {A2 A4 A5 A6 A7 : Option Addr} {c2 c4 c5 c6 c7 : Nat} {wc : World} {b : Nat} (hF : StF ok wc x A2 c2 A4 c4 A5 c5 A6 c6 A7 c7) (hq : ∀ q, ok q → q ≠ b) (j : Nat) (v : Value) : StF ok (wc.setCell ⟨b, j, none⟩ v) x A2 c2 A4 c4 A5 c5 A6 c6 A7 c7 :=
  ⟨hF.l2, Kd.F_far hF.f2 hq _, hF.l4, Kd.F_far hF.f4 hq _, hF.l5, Kd.F_far hF.f5 hq _, hF.l6, Kd.F_far hF.f6 hq _, hF.l7, Kd.F_far hF.f7 hq _⟩
theorem SQ.go (h : SQ w0 w g bp rb gs x a ts wc) (hg : Gr g wc wd) (hp : PS w0 g r wd) : SQ w0 w g bp rb gs x a r wd := by
  have h0 := h.o0
  have h1 := h.o1
  have h2 := h.o2
  have h3 := h.o3
  exact ⟨hp, hg.blk h.st (by omega), h.fr.go hg (fun q hq => by have : gs < q := hq; omega), hg.blk h.box (by omega), hg.blk h.res (by omega), h.gr.trans hg, h0, h1, h2, h3⟩
theorem SQ.below (h : SQ w0 w g bp rb gs x a ts wc) (hb : Below wc.heap.size wc wd) : SQ w0 w g bp rb gs x a ts wd := h.go (Gr.of_below hb) (h.ps.below hb)
theorem SQ.alloc (h : SQ w0 w g bp rb gs x a ts wc) (o : Obj) : SQ w0 w g bp rb gs x a ts (wc.alloc o) := h.below (below_alloc (Below.refl _ _) o)
theorem SQ.sb (h : SQ w0 w g bp rb gs x a ts wc) : SB w0 g gs x ts wc := ⟨h.ps, ⟨_, _, _, _, _, _, _, _, _, _, h.st, h.fr⟩, by have := h.o0; have := h.o1; have := h.o2; have := h.o3; omega⟩
/-- What only turned the parser's block and the statement's. -/
theorem SQ.of_gs (h : SQ w0 w g bp rb gs x a ts wc) (hg : Gs (fun q => q = g ∨ q = gs) wc wd) {y : S60} (hs : SB w0 g gs y r wd) : ∃ a', SQ w0 w g bp rb gs y a' r wd := by
  obtain ⟨hp, ⟨A2, c2, A4, c4, A5, c5, A6, c6, A7, c7, hb, hF⟩, hl⟩ := hs
  have h0 := h.o0
  have h1 := h.o1
  have h2 := h.o2
  have h3 := h.o3
  refine ⟨⟨A2, c2, A4, c4, A5, c5, A6, c6, A7, c7⟩, hp, hb, hF, hg.blk h.box (by omega), hg.blk h.res (by omega), ?_, h0, h1, h2, h3⟩
  exact ⟨hg.os.trans h.gr.os, hg.tape.trans h.gr.tape, hg.output.trans h.gr.output, Nat.le_trans h.gr.size hg.size, fun i hi hn => (hg.block i (Nat.lt_of_lt_of_le hi h.gr.size) (by omega)).trans (h.gr.block i hi hn)⟩
theorem SQ.col (h : SQ w0 w g bp rb gs x a ts wc) {n key : ByteArray} (hx : celA x a = stC n key) : Icol w0 g gs bp n key ts wc := by
  have h0 := h.o0
  have h1 := h.o1
  have h2 := h.o2
  have h3 := h.o3
  have h4 := h.ps.low
  exact ⟨h.ps, hx ▸ h.st, h.box, by omega, by omega, by omega, by omega⟩
theorem SQ.of_col (h : SQ w0 w g bp rb gs x a ts wc) {n key : ByteArray} (hg : Gs (fun q => q = g ∨ q = gs) wc wd) (hi : Icol w0 g gs bp n key r wd) : SQ w0 w g bp rb gs { Ps.st0 with f0 := 1, f1 := n, f3 := key } {} r wd := by
  have h0 := h.o0
  have h1 := h.o1
  have h2 := h.o2
  have h3 := h.o3
  have hz : ∀ i, i = 0 → i ≤ 0 := fun i hi => by omega
  refine ⟨hi.ps, hi.st, ⟨Nat.le_refl _, Kd.F_nil _ _ _, Nat.le_refl _, Kd.F_nil _ _ _, Nat.le_refl _, Kd.F_nil _ _ _, Nat.le_refl _, Kd.F_nil _ _ _, Nat.le_refl _, Kd.F_nil _ _ _⟩, hi.box, hg.blk h.res (by omega), ?_, h0, h1, h2, h3⟩
  exact ⟨hg.os.trans h.gr.os, hg.tape.trans h.gr.tape, hg.output.trans h.gr.output, Nat.le_trans h.gr.size hg.size, fun i hi hn => (hg.block i (Nat.lt_of_lt_of_le hi h.gr.size) (by omega)).trans (h.gr.block i hi hn)⟩
theorem SQ.putF (h : SQ w0 w g bp rb gs x a ts wc) {y : S60} {b : Ads} (j : Nat) (v : Value) (he : celA y b = (celA x a).setIfInBounds j v) (hf : StA (fun q => gs < q) (wc.setCell ⟨gs, j, none⟩ v) y b) : SQ w0 w g bp rb gs y b ts (wc.setCell ⟨gs, j, none⟩ v) := by
  have h0 := h.o0
  have h1 := h.o1
  have h2 := h.o2
  have h3 := h.o3
  have h4 := h.ps.low
  exact ⟨h.ps.setB (by omega) (by omega) _ _, blk_put h.st j _ he.symm, hf, blk_setNe h.box (by omega) _ _, blk_setNe h.res (by omega) _ _, h.gr.setB (by omega) _ _, h0, h1, h2, h3⟩
theorem SQ.put0 (h : SQ w0 w g bp rb gs x a ts wc) (n : Int) : SQ w0 w g bp rb gs { x with f0 := n } a ts (wc.setCell ⟨gs, 0, none⟩ (.int .i64 n)) :=
  have hf := h.fr.far (b := gs) (fun q hq => Nat.ne_of_gt hq) 0 (.int .i64 n)
  h.putF 0 _ rfl ⟨hf.l2, hf.f2, hf.l4, hf.f4, hf.l5, hf.f5, hf.l6, hf.f6, hf.l7, hf.f7⟩
theorem SQ.put1 (h : SQ w0 w g bp rb gs x a ts wc) (s : ByteArray) : SQ w0 w g bp rb gs { x with f1 := s } a ts (wc.setCell ⟨gs, 1, none⟩ (.string s)) :=
  have hf := h.fr.far (b := gs) (fun q hq => Nat.ne_of_gt hq) 1 (.string s)
  h.putF 1 _ rfl ⟨hf.l2, hf.f2, hf.l4, hf.f4, hf.l5, hf.f5, hf.l6, hf.f6, hf.l7, hf.f7⟩
theorem SQ.put3 (h : SQ w0 w g bp rb gs x a ts wc) (s : ByteArray) : SQ w0 w g bp rb gs { x with f3 := s } a ts (wc.setCell ⟨gs, 3, none⟩ (.string s)) :=
  have hf := h.fr.far (b := gs) (fun q hq => Nat.ne_of_gt hq) 3 (.string s)
  h.putF 3 _ rfl ⟨hf.l2, hf.f2, hf.l4, hf.f4, hf.l5, hf.f5, hf.l6, hf.f6, hf.l7, hf.f7⟩
theorem SQ.put2 (h : SQ w0 w g bp rb gs x a ts wc) {l : List S128} {A : Option Addr} {c : Nat} (hc : l.length ≤ c) (hF0 : Kd.F k128 wc (fun q => gs < q) A l.length l) : SQ w0 w g bp rb gs { x with f2 := l } { a with a2 := A, c2 := c } ts (wc.setCell ⟨gs, 2, none⟩ (.slice A l.length c)) :=
  have hf := h.fr.far (b := gs) (fun q hq => Nat.ne_of_gt hq) 2 (.slice A l.length c)
  h.putF 2 _ rfl ⟨hc, Kd.F_far hF0 (fun q hq => Nat.ne_of_gt hq) _, hf.l4, hf.f4, hf.l5, hf.f5, hf.l6, hf.f6, hf.l7, hf.f7⟩
theorem SQ.put4 (h : SQ w0 w g bp rb gs x a ts wc) {l : List (List S43)} {A : Option Addr} {c : Nat} (hc : l.length ≤ c) (hF0 : Kd.F (Kd.slice 43 k43) wc (fun q => gs < q) A l.length l) : SQ w0 w g bp rb gs { x with f4 := l } { a with a4 := A, c4 := c } ts (wc.setCell ⟨gs, 4, none⟩ (.slice A l.length c)) :=
  have hf := h.fr.far (b := gs) (fun q hq => Nat.ne_of_gt hq) 4 (.slice A l.length c)
  h.putF 4 _ rfl ⟨hf.l2, hf.f2, hc, Kd.F_far hF0 (fun q hq => Nat.ne_of_gt hq) _, hf.l5, hf.f5, hf.l6, hf.f6, hf.l7, hf.f7⟩
theorem SQ.put6 (h : SQ w0 w g bp rb gs x a ts wc) {l : List S90} {A : Option Addr} {c : Nat} (hc : l.length ≤ c) (hF0 : Kd.F k90 wc (fun q => gs < q) A l.length l) : SQ w0 w g bp rb gs { x with f6 := l } { a with a6 := A, c6 := c } ts (wc.setCell ⟨gs, 6, none⟩ (.slice A l.length c)) :=
  have hf := h.fr.far (b := gs) (fun q hq => Nat.ne_of_gt hq) 6 (.slice A l.length c)
  h.putF 6 _ rfl ⟨hf.l2, hf.f2, hf.l4, hf.f4, hf.l5, hf.f5, hc, Kd.F_far hF0 (fun q hq => Nat.ne_of_gt hq) _, hf.l7, hf.f7⟩
theorem SQ.put7 (h : SQ w0 w g bp rb gs x a ts wc) {l : List S43} {A : Option Addr} {c : Nat} (hc : l.length ≤ c) (hF0 : Kd.F k43 wc (fun q => gs < q) A l.length l) : SQ w0 w g bp rb gs { x with f7 := l } { a with a7 := A, c7 := c } ts (wc.setCell ⟨gs, 7, none⟩ (.slice A l.length c)) :=
  have hf := h.fr.far (b := gs) (fun q hq => Nat.ne_of_gt hq) 7 (.slice A l.length c)
  h.putF 7 _ rfl ⟨hf.l2, hf.f2, hf.l4, hf.f4, hf.l5, hf.f5, hf.l6, hf.f6, hc, Kd.F_far hF0 (fun q hq => Nat.ne_of_gt hq) _⟩
end
/-- A statement that was handed back: all that it leads to is of block B or later. -/
def Vst (B : Nat) (w : World) (x : S60) (v : Value) : Prop := ∃ a : Ads, v = .agg (celA x a) ∧ StA (fun q => B ≤ q) w x a
/-- What a method does that reads the tokens to their end. -/
def OutS (g : Nat) (w : World) (m : Option S60) (e : Ending) (w' : World) : Prop :=
  Gr g w w' ∧ match m with
    | none => e = .panicked failedV
    | some x => ∃ v, e = .returned v ∧ Vst w.heap.size w' x v
theorem OutS.none {g : Nat} {w w' : World} {m : Option S60} {e : Ending} (h : OutS g w m e w') (hm : m = none) : Gr g w w' ∧ e = .panicked failedV := by subst hm; exact h
theorem OutS.some {g : Nat} {w w' : World} {m : Option S60} {e : Ending} {x : S60} (h : OutS g w m e w') (hm : m = some x) : Gr g w w' ∧ ∃ v, e = .returned v ∧ Vst w.heap.size w' x v := by subst hm; exact h
theorem OutS.of_none {g : Nat} {w w' : World} {m : Option S60} (hm : m = Option.none) (h : Gr g w w') : OutS g w m (.panicked failedV) w' := by subst hm; exact ⟨h, rfl⟩
theorem OutS.of_some {g : Nat} {w w' : World} {m : Option S60} {x : S60} {v : Value} (hm : m = Option.some x) (h : Gr g w w') (hv : Vst w.heap.size w' x v) : OutS g w m (.returned v) w' := by subst hm; exact ⟨h, v, rfl, hv⟩
end Go.Proofs.YtcgdncpioafbdaaGreatDoor.Q

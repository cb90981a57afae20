/- The parser: what a call of a method that hands several things on does to memory; lists. -/
import Derived.Test.YtcgdncpioafbdaaGreatDoorPf
namespace Go.Proofs.YtcgdncpioafbdaaGreatDoor.Q
open Go Go.RowKit Go.Proofs.YtcgdncpioafbdaaGreatDoorW.PrintWords

/-- All but the blocks of S is as it was. -/
structure Gs (S : Nat → Prop) (w w' : World) : Prop where
  os : w'.os = w.os
  tape : w'.tape = w.tape
  output : w'.output = w.output
  size : w.heap.size ≤ w'.heap.size
  block : ∀ i, i < w.heap.size → ¬ S i → w'.heap[i]? = w.heap[i]?
namespace Gs
variable {S : Nat → Prop} {w w1 w2 : World} {g : Nat}
theorem refl (S : Nat → Prop) (w : World) : Gs S w w := ⟨rfl, rfl, rfl, Nat.le_refl _, fun _ _ _ => rfl⟩
theorem trans (h : Gs S w w1) (k : Gs S w1 w2) : Gs S w w2 :=
  ⟨k.os.trans h.os, k.tape.trans h.tape, k.output.trans h.output, Nat.le_trans h.size k.size, fun i hi hg => (k.block i (Nat.lt_of_lt_of_le hi h.size) hg).trans (h.block i hi hg)⟩
theorem of_below (h : Below w.heap.size w w1) : Gs S w w1 := ⟨h.os, h.tape, h.output, h.size, fun i hi _ => h.block i hi⟩
theorem of_gr (h : Gr g w w1) (hS : S g) : Gs S w w1 := ⟨h.os, h.tape, h.output, h.size, fun i hi hn => h.block i hi (fun e => hn (e ▸ hS))⟩
theorem to_gr (h : Gs (· = g) w w1) : Gr g w w1 := ⟨h.os, h.tape, h.output, h.size, h.block⟩
theorem step (h : Gs S w w1) (hb : Below w1.heap.size w1 w2) : Gs S w w2 := h.trans (of_below hb)
/-- What is new since w may turn, too. -/
theorem stepB {B : Nat} (h : Gs S w w1) (hb : Below B w1 w2) (hB : w.heap.size ≤ B) : Gs S w w2 :=
  ⟨hb.os.trans h.os, hb.tape.trans h.tape, hb.output.trans h.output, Nat.le_trans h.size hb.size, fun i hi hn => (hb.block i (Nat.lt_of_lt_of_le hi hB)).trans (h.block i hi hn)⟩
theorem blk {o : Obj} {b : Nat} (h : Gs S w w1) (hb : w.heap[b]? = some o) (hg : ¬ S b) : w1.heap[b]? = some o := (h.block b (blk_lt hb) hg).trans hb
theorem alloc (h : Gs S w w1) (o : Obj) : Gs S w (w1.alloc o) := h.step (below_alloc (Below.refl _ _) o)
theorem drewN (h : Gs S w w1) (n : Nat) : Gs S w (w1.drewN n) := h.step (pw_below_drewN (Below.refl _ _) n)
theorem setB (h : Gs S w w1) {b : Nat} (hb : w.heap.size ≤ b) (j : Nat) (v : Value) : Gs S w (w1.setCell ⟨b, j, none⟩ v) :=
  h.stepB (((Below.refl w1.heap.size w1).mono (Nat.le_refl _) |>.mono (Nat.zero_le _) |> fun (hh : Below 0 w1 w1) => (⟨hh.os, hh.tape, hh.output, hh.size, fun i _ => rfl⟩ : Below b w1 w1)).setCell (p := ⟨b, j, none⟩) (Nat.le_refl _) v) hb
theorem setS (h : Gs S w w1) {b : Nat} (hb : S b) (j : Nat) (v : Value) : Gs S w (w1.setCell ⟨b, j, none⟩ v) := by
  have hc : Below 0 w1 (w1.setCell ⟨b, j, none⟩ v) := ((Below.refl w1.heap.size w1).mono (Nat.zero_le _)).setCell (Nat.zero_le _) v
  refine ⟨hc.os.trans h.os, hc.tape.trans h.tape, hc.output.trans h.output, Nat.le_trans h.size hc.size, fun i hi hg => ?_⟩
  rw [Below.heap_setCell w1 ⟨b, j, none⟩ v i (fun e => hg (by rw [show i = b from e]; exact hb))]
  exact h.block i hi hg
theorem FK {α : Type} {d : Kd α} {ok : Nat → Prop} {x : α} {c : List Value} (h : Gs S w w1) (hf : Kd.FK d w ok x c) (hok : ∀ k, ok k → ¬ S k) : Kd.FK d w1 ok x c := Kd.FK_step hf (fun k hk hlt => h.block k hlt (hok k hk))
theorem F {α : Type} {d : Kd α} {ok : Nat → Prop} {A : Option Addr} {n : Nat} {xs : List α} (h : Gs S w w1) (hf : Kd.F d w ok A n xs) (hok : ∀ k, ok k → ¬ S k) : Kd.F d w1 ok A n xs := Kd.F_step hf (fun k hk hlt => h.block k hlt (hok k hk))
theorem N {α : Type} {d : Kd α} {e base : Nat} {ok : Nat → Prop} {v : Value} {xs : List α} (h : Gs S w w1) (hf : Kd.N d e w base ok v xs) (hok : ∀ k, ok k → ¬ S k) : Kd.N d e w1 base ok v xs := Kd.N_step hf (fun k hk hlt => h.block k hlt (hok k hk))
end Gs
theorem PS.belowB {w0 w w' : World} {g B : Nat} {ts : List S32} (h : PS w0 g ts w) (hb : Below B w w') (hB : w0.heap.size ≤ B) (hg : g < B) : PS w0 g ts w' := by
  obtain ⟨h1, h2, h3, ⟨A, c, h4, h5, h6⟩, h7⟩ := h
  exact ⟨h1, Nat.lt_of_lt_of_le h2 hb.size, ⟨hb.os.trans h3.os, hb.tape.trans h3.tape, hb.output.trans h3.output, Nat.le_trans h3.size hb.size, fun i hi => (hb.block i (Nat.lt_of_lt_of_le hi hB)).trans (h3.block i hi)⟩, ⟨A, c, h4, h5, (hb.block g hg).trans h6⟩, h7⟩
theorem Gr.stepB {g B : Nat} {w w1 w2 : World} (h : Gr g w w1) (hb : Below B w1 w2) (hB : w.heap.size ≤ B) : Gr g w w2 :=
  ⟨hb.os.trans h.os, hb.tape.trans h.tape, hb.output.trans h.output, Nat.le_trans h.size hb.size, fun i hi hn => (hb.block i (Nat.lt_of_lt_of_le hi hB)).trans (h.block i hi hn)⟩

/-- A method with a state besides the tokens: it gives up, or hands something back and goes on. -/
def OutG {α σ : Type} (S : Nat → Prop) (I : σ → List S32 → World → Prop) (V : World → α → Value → Prop) (w : World) (m : Option ((α × σ) × List S32)) (e : Ending) (w' : World) : Prop :=
  Gs S w w' ∧ match m with
    | none => e = .panicked failedV
    | some ((x, st), r) => ∃ v, e = .returned v ∧ V w' x v ∧ I st r w'
theorem OutG.none {α σ : Type} {S : Nat → Prop} {I : σ → List S32 → World → Prop} {V : World → α → Value → Prop} {w w' : World} {m : Option ((α × σ) × List S32)} {e : Ending} (h : OutG S I V w m e w') (hm : m = none) : Gs S w w' ∧ e = .panicked failedV := by subst hm; exact h
theorem OutG.some {α σ : Type} {S : Nat → Prop} {I : σ → List S32 → World → Prop} {V : World → α → Value → Prop} {w w' : World} {m : Option ((α × σ) × List S32)} {e : Ending} {x : α} {st : σ} {r : List S32} (h : OutG S I V w m e w') (hm : m = some ((x, st), r)) : Gs S w w' ∧ ∃ v, e = .returned v ∧ V w' x v ∧ I st r w' := by subst hm; exact h
theorem OutG.of_none {α σ : Type} {S : Nat → Prop} {I : σ → List S32 → World → Prop} {V : World → α → Value → Prop} {w w' : World} {m : Option ((α × σ) × List S32)} (hm : m = Option.none) (h : Gs S w w') : OutG S I V w m (.panicked failedV) w' := by subst hm; exact ⟨h, rfl⟩
theorem OutG.of_some {α σ : Type} {S : Nat → Prop} {I : σ → List S32 → World → Prop} {V : World → α → Value → Prop} {w w' : World} {m : Option ((α × σ) × List S32)} {x : α} {st : σ} {r : List S32} {v : Value} (hm : m = Option.some ((x, st), r)) (h : Gs S w w') (hv : V w' x v) (hp : I st r w') : OutG S I V w m (.returned v) w' := by subst hm; exact ⟨h, v, rfl, hv, hp⟩

/-- A row that was handed back: all that it leads to is of block B or later. -/
def Vrow {α : Type} (d : Kd α) (B : Nat) : World → List α → Value → Prop := fun w xs v => ∃ A c, v = .slice A xs.length c ∧ xs.length ≤ c ∧ Kd.F d w (fun k => B ≤ k) A xs.length xs

/-- What a list asks of the state that goes along. -/
structure Along {σ : Type} (S : Nat → Prop) (I : σ → List S32 → World → Prop) (w0 : World) (g B : Nat) : Prop where
  low : ∀ k, S k → k < B
  at_ : S g
  base : w0.heap.size ≤ B
  ps : ∀ st ts w, I st ts w → PS w0 g ts w
  go : ∀ st ts r w w', I st ts w → Gr g w w' → PS w0 g r w' → I st r w'
  keep : ∀ st ts w w', I st ts w → Below B w w' → I st ts w'
theorem along_ps {w0 : World} {g B : Nat} (hg : g < B) (hB : w0.heap.size ≤ B) : Along (σ := Unit) (· = g) (fun _ ts w => PS w0 g ts w) w0 g B :=
  ⟨fun k hk => by subst hk; exact hg, rfl, hB, fun _ _ _ h => h, fun _ _ _ _ _ _ _ h => h, fun _ _ _ _ h hb => h.belowB hb hB hg⟩
theorem Reps1 {α : Type} {R : α → List Value → Prop} {size : Nat} {x : α} {c : List Value} (h : R x c) (hl : c.length = size) : Reps R size [x] c := by
  have := (Reps.none R size).snoc h hl
  simpa using this
theorem lst_none {α σ : Type} {one : σ → List S32 → Option ((α × σ) × List S32)} {k : Nat} {acc : List α} {st : σ} {ts : List S32} (h : Ps.tk Ps.sComma ts = none) : Ps.lst one (k + 1) acc st ts = none := by simp only [Ps.lst, h]
theorem lst_false {α σ : Type} {one : σ → List S32 → Option ((α × σ) × List S32)} {k : Nat} {acc : List α} {st : σ} {ts r : List S32} (h : Ps.tk Ps.sComma ts = some (false, r)) : Ps.lst one (k + 1) acc st ts = some ((acc, st), r) := by simp only [Ps.lst, h]
theorem lst_true_none {α σ : Type} {one : σ → List S32 → Option ((α × σ) × List S32)} {k : Nat} {acc : List α} {st : σ} {ts r : List S32} (h : Ps.tk Ps.sComma ts = some (true, r)) (h1 : one st r = none) : Ps.lst one (k + 1) acc st ts = none := by simp only [Ps.lst, h, h1]
theorem lst_true_some {α σ : Type} {one : σ → List S32 → Option ((α × σ) × List S32)} {k : Nat} {acc : List α} {st st1 : σ} {ts r r1 : List S32} {x : α} (h : Ps.tk Ps.sComma ts = some (true, r)) (h1 : one st r = some ((x, st1), r1)) : Ps.lst one (k + 1) acc st ts = Ps.lst one k (acc ++ [x]) st1 r1 := by simp only [Ps.lst, h, h1]
theorem lst_len {α σ : Type} {one : σ → List S32 → Option ((α × σ) × List S32)} (hlen : ∀ st ts x st' r, one st ts = some ((x, st'), r) → r.length ≤ ts.length) : ∀ {k : Nat} {acc : List α} {st : σ} {ts : List S32} {l : List α} {st' : σ} {r : List S32}, Ps.lst one k acc st ts = some ((l, st'), r) → r.length ≤ ts.length
  | 0, _, _, _, _, _, _, h => by simp [Ps.lst] at h
  | k + 1, acc, st, ts, l, st', r, h => by
    cases ht : Ps.tk Ps.sComma ts with
    | none => rw [lst_none ht] at h; cases h
    | some p =>
      obtain ⟨b, r1⟩ := p
      have h1 := Ps.tk_len ht
      cases b with
      | false => rw [lst_false ht] at h; cases h; exact h1.1
      | true =>
        cases hx : one st r1 with
        | none => rw [lst_true_none ht hx] at h; cases h
        | some p =>
          obtain ⟨⟨x, s2⟩, r2⟩ := p
          rw [lst_true_some ht hx] at h
          have h2 := hlen _ _ _ _ _ hx
          have h3 := lst_len hlen h
          omega
theorem list_len {α σ : Type} {one : σ → List S32 → Option ((α × σ) × List S32)} (hlen : ∀ st ts x st' r, one st ts = some ((x, st'), r) → r.length ≤ ts.length) {k : Nat} {st : σ} {ts : List S32} {l : List α} {st' : σ} {r : List S32} (h : Ps.list one k st ts = some ((l, st'), r)) : r.length ≤ ts.length := by
  unfold Ps.list at h
  cases hx : one st ts with
  | none => rw [hx] at h; cases h
  | some p =>
    obtain ⟨⟨x, s2⟩, r2⟩ := p
    rw [hx] at h
    have h2 := hlen _ _ _ _ _ hx
    have h3 := lst_len hlen h
    omega
end Go.Proofs.YtcgdncpioafbdaaGreatDoor.Q

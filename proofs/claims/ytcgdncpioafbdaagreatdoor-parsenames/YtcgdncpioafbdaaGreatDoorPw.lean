/- The parser's state in memory: a cell that holds what is left of the tokens; how memory may turn between two calls of its methods. -/
import Derived.Test.YtcgdncpioafbdaaGreatDoorPs
import Derived.Test.YtcgdncpioafbdaaGreatDoorWMore
import Derived.WalkLawsBesides
namespace Go.Proofs.YtcgdncpioafbdaaGreatDoor.Q
open Go Go.RowKit Go.Proofs.YtcgdncpioafbdaaGreatDoorW.PrintWords

/-- All but block g is as it was. -/
structure Gr (g : Nat) (w w' : World) : Prop where
  os : w'.os = w.os
  tape : w'.tape = w.tape
  output : w'.output = w.output
  size : w.heap.size ≤ w'.heap.size
  block : ∀ i, i < w.heap.size → i ≠ g → w'.heap[i]? = w.heap[i]?
theorem Gr.refl (g : Nat) (w : World) : Gr g w w := ⟨rfl, rfl, rfl, Nat.le_refl _, fun _ _ _ => rfl⟩
theorem Gr.trans {g : Nat} {w w1 w2 : World} (h : Gr g w w1) (k : Gr g w1 w2) : Gr g w w2 :=
  ⟨k.os.trans h.os, k.tape.trans h.tape, k.output.trans h.output, Nat.le_trans h.size k.size, fun i hi hg => (k.block i (Nat.lt_of_lt_of_le hi h.size) hg).trans (h.block i hi hg)⟩
theorem Gr.of_below {g : Nat} {w w' : World} (h : Below w.heap.size w w') : Gr g w w' := ⟨h.os, h.tape, h.output, h.size, fun i hi _ => h.block i hi⟩
theorem Gr.below {g B : Nat} {w w1 w2 : World} (h : Below B w w1) (k : Gr g w1 w2) (hB : B ≤ w1.heap.size) (hg : B ≤ g) : Below B w w2 :=
  ⟨k.os.trans h.os, k.tape.trans h.tape, k.output.trans h.output, Nat.le_trans h.size k.size, fun i hi => (k.block i (Nat.lt_of_lt_of_le hi hB) (by omega)).trans (h.block i hi)⟩
theorem Gr.set {g : Nat} {w w1 : World} (h : Gr g w w1) (j : Nat) (v : Value) : Gr g w (w1.setCell ⟨g, j, none⟩ v) := by
  have hb : Below 0 w1 (w1.setCell ⟨g, j, none⟩ v) := ((Below.refl w1.heap.size w1).mono (Nat.zero_le _)).setCell (Nat.zero_le _) v
  refine ⟨hb.os.trans h.os, hb.tape.trans h.tape, hb.output.trans h.output, Nat.le_trans h.size hb.size, fun i hi hg => ?_⟩
  rw [Below.heap_setCell w1 ⟨g, j, none⟩ v i hg]
  exact h.block i hi hg

/-- The tokens: some, the last of them the End. -/
def Ends (ts : List S32) : Prop := ∃ b e, ts = b ++ [e] ∧ e.f0 = 0
theorem Ends.tail {t : S32} {r : List S32} (h : Ends (t :: r)) (ht : t.f0 ≠ 0) : Ends r := by
  obtain ⟨b, e, h1, h2⟩ := h
  cases b with
  | nil => simp at h1; obtain ⟨rfl, _⟩ := h1; exact absurd h2 ht
  | cons c b => simp at h1; exact ⟨b, e, h1.2, h2⟩
theorem Ends.cons {ts : List S32} (h : Ends ts) : ∃ t r, ts = t :: r := by
  obtain ⟨b, e, rfl, _⟩ := h
  cases b <;> exact ⟨_, _, rfl⟩

/-- The parser at block g has the tokens ts left; they lie in memory as it was in w0. -/
structure PS (w0 : World) (g : Nat) (ts : List S32) (w : World) : Prop where
  low : w0.heap.size ≤ g
  lt : g < w.heap.size
  bl : Below w0.heap.size w0 w
  blk : ∃ A c, ts.length ≤ c ∧ k32.C w0 A ts.length ts ∧ w.heap[g]? = some (.cells #[.slice A ts.length c] 231 (0, 0))
  ends : Ends ts
theorem PS.below {w0 w w' : World} {g : Nat} {ts : List S32} (h : PS w0 g ts w) (hb : Below w.heap.size w w') : PS w0 g ts w' := by
  obtain ⟨h1, h2, h3, ⟨A, c, h4, h5, h6⟩, h7⟩ := h
  exact ⟨h1, Nat.lt_of_lt_of_le h2 hb.size, below_step h3 (hb.mono (Nat.le_refl _)), ⟨A, c, h4, h5, (hb.block g h2).trans h6⟩, h7⟩

/-- What a method gives up with. -/
def failedV : List PanicEntry := [{ v := .iface 227 (.agg #[]), recovered := false }]

theorem fail_calls (g : Nat) (w : World) : Calls Tryz.prog 264 #[.pointer (some ⟨g, 0, none⟩)] w fun e w' => e = .panicked failedV ∧ w' = w := by
  go_enter Tryz.func264, Tryz.ntmps264
  go_wp2
  exact ⟨rfl, rfl, rfl⟩

theorem addr0 (a : Addr) : a.add 0 = a := by
  unfold Addr.add
  split <;> simp_all
theorem PS.slice {w0 w : World} {g : Nat} {t : S32} {r : List S32} (h : PS w0 g (t :: r) w) : ∃ ad c, r.length < c ∧ k32.C w0 (some ad) (r.length + 1) (t :: r) ∧ w.heap[g]? = some (.cells #[.slice (some ad) (r.length + 1) c] 231 (0, 0)) ∧
    w.cell? ad = some (.int .i64 t.f0) ∧ w.cell? ⟨ad.block, ad.off + 1, none⟩ = some (.string t.f1) ∧ w.cell? ⟨ad.block, ad.off + 2, none⟩ = some (.int .i64 t.f2) := by
  obtain ⟨h1, h2, h3, ⟨A, c, h4, h5, h6⟩, h7⟩ := h
  obtain ⟨ad, rfl, c0, c1, c2⟩ := at_T32 h5 0 (by omega) (by simp)
  simp only [rd_T32, List.getD_cons_zero, Int.toNat_zero, Nat.zero_mul, addr0] at c0 c1 c2
  refine ⟨ad, c, by simp at h4; omega, h5, h6, ?_, ?_, ?_⟩
  · exact pw_cell_below h3 c0
  · exact pw_cell_below h3 c1
  · exact pw_cell_below h3 c2

set_option maxRecDepth 100000 in
theorem peek_calls {w0 w : World} {g : Nat} {ts : List S32} (h : PS w0 g ts w) : Calls Tryz.prog 327 #[.pointer (some ⟨g, 0, none⟩)] w fun e w' => e = .returned (.string (Ps.pk ts)) ∧ Below w.heap.size w w' := by
  obtain ⟨t, r, rfl⟩ := h.ends.cons
  obtain ⟨ad, c, hc, hC, hb, c0, c1, c2⟩ := h.slice
  have hg := blk_cell hb 0
  simp only [List.getElem?_toArray, List.getElem?_cons_zero] at hg
  have hlt := h.lt
  clear hb hC h
  by_cases k1 : t.f0 = 1
  · have b1 : (t.f0 == 1) = true := beq_iff_eq.mpr k1
    go_enter Tryz.func327, Tryz.ntmps327
    go_wp2
    go_ret
    refine ⟨by simp [Ps.pk, k1], ?_⟩
    exact below_alloc (Below.refl _ _) _
  · have b1 : (t.f0 == 1) = false := beq_eq_false_iff_ne.mpr k1
    by_cases k2 : t.f0 = 4
    · have b2 : (t.f0 == 4) = true := beq_iff_eq.mpr k2
      go_enter Tryz.func327, Tryz.ntmps327
      go_wp2
      go_ret
      refine ⟨by simp [Ps.pk, k2], ?_⟩
      exact below_alloc (Below.refl _ _) _
    · have b2 : (t.f0 == 4) = false := beq_eq_false_iff_ne.mpr k2
      go_enter Tryz.func327, Tryz.ntmps327
      go_wp2
      go_ret
      refine ⟨by simp [Ps.pk, k1, k2], ?_⟩
      exact below_alloc (Below.refl _ _) _

set_option maxRecDepth 100000 in
/-- The next token is the End: it gives up. -/
theorem next_end {w0 w : World} {g : Nat} {t : S32} {r : List S32} (h : PS w0 g (t :: r) w) (k1 : t.f0 = 0) : Calls Tryz.prog 258 #[.pointer (some ⟨g, 0, none⟩)] w fun e w' => e = .panicked failedV ∧ Below w.heap.size w w' := by
  obtain ⟨ad, c, hc, hC, hb, c0, c1, c2⟩ := h.slice
  have hg := blk_cell hb 0
  simp only [List.getElem?_toArray, List.getElem?_cons_zero] at hg
  have hlt := h.lt
  have hal := World.block_lt_of_cell? w _ c0
  clear hb hC h
  have b1 : (t.f0 == 0) = true := beq_iff_eq.mpr k1
  go_enter Tryz.func258, Tryz.ntmps258
  go_wp2_with (first | (go_at_call 264; refine (fail_calls g _).mono ?_; rintro e w1 ⟨rfl, rfl⟩))
  exact ⟨rfl, rfl, below_alloc (below_alloc (Below.refl _ _) _) _⟩

theorem PS.put {w0 w : World} {g : Nat} {ts r : List S32} {A A' : Option Addr} {n c c' : Nat} (h : PS w0 g ts w) (hb : w.heap[g]? = some (.cells #[.slice A n c] 231 (0, 0))) (hC : k32.C w0 A' r.length r) (hc : r.length ≤ c') (he : Ends r) :
    PS w0 g r (w.setCell ⟨g, 0, none⟩ (.slice A' r.length c')) :=
  ⟨h.low, by have := h.lt; have hs := (((Below.refl w.heap.size w).mono (Nat.zero_le _)).setCell (B := 0) (p := ⟨g, 0, none⟩) (Nat.zero_le _) (.slice A' r.length c')).size; omega,
    h.bl.setCell h.low _, ⟨A', c', hc, hC, blk_put hb 0 _ rfl⟩, he⟩
theorem PS.size {w0 w : World} {g : Nat} {ts : List S32} (h : PS w0 g ts w) : w0.heap.size ≤ w.heap.size := h.bl.size
theorem alloc2 {w w' : World} (h : Below w.heap.size w w') (o o' : Obj) : Below w.heap.size w ((w'.alloc o).alloc o') := below_alloc (below_alloc h o) o'

set_option maxRecDepth 100000 in
theorem next_some {w0 w : World} {g : Nat} {t : S32} {r : List S32} (h : PS w0 g (t :: r) w) (k1 : t.f0 ≠ 0) : Calls Tryz.prog 258 #[.pointer (some ⟨g, 0, none⟩)] w fun e w' => e = .returned (.agg #[.int .i64 t.f0, .string t.f1, .int .i64 t.f2]) ∧ PS w0 g r w' ∧ Gr g w w' := by
  obtain ⟨ad, c, hc, hC, hb, c0, c1, c2⟩ := h.slice
  have hg := blk_cell hb 0
  have hz := blk_frozen hb 0
  simp only [List.getElem?_toArray, List.getElem?_cons_zero] at hg
  have hlt := h.lt
  have hal := World.block_lt_of_cell? w _ c0
  have hD := Kd.C_drop (m := 1) hC (by simp) (show (t :: r).length ≤ c by simp; omega)
  simp only [List.drop_succ_cons, List.drop_zero, Option.map_some, Nat.one_mul] at hD
  have HB := Aside0.mk hb
  have HD := Aside0.mk hD
  clear hb hC hD
  have HH := Aside0.mk h
  clear h
  have b1 : (t.f0 == 0) = false := beq_eq_false_iff_ne.mpr k1
  have fin : ∀ A' c', k32.C w0 A' r.length r → r.length ≤ c' → ∀ o o', PS w0 g r (((w.setCell ⟨g, 0, none⟩ (.slice A' r.length c')).alloc o).alloc o') ∧ Gr g w (((w.setCell ⟨g, 0, none⟩ (.slice A' r.length c')).alloc o).alloc o') := fun A' c' h1 h2 o o' =>
    ⟨(PS.put HH.out HB.out h1 h2 (HH.out.ends.tail k1)).below (alloc2 (Below.refl _ _) _ _), ((Gr.refl g w).set 0 _).trans (Gr.of_below (alloc2 (Below.refl _ _) _ _))⟩
  have FIN := Aside0.mk fin
  clear fin
  go_enter Tryz.func258, Tryz.ntmps258
  go_wp2
  · subst h
    refine bodyPost_ret (v := .agg #[.int .i64 t.f0, .string t.f1, .int .i64 t.f2]) ?_ rfl ⟨rfl, FIN.out _ _ ?_ ?_ _ _⟩
    · simp [results, Tryz.results258, go_sem]
    · have := HD.out
      rwa [if_pos rfl] at this
    · omega
  · have hc1 := h
    refine bodyPost_ret (v := .agg #[.int .i64 t.f0, .string t.f1, .int .i64 t.f2]) ?_ rfl ⟨rfl, FIN.out _ _ ?_ ?_ _ _⟩
    · simp [results, Tryz.results258, go_sem]
    · have := HD.out
      rw [if_neg hc1] at this
      exact this
    · omega
theorem next_calls {w0 w : World} {g : Nat} {ts : List S32} (h : PS w0 g ts w) : Calls Tryz.prog 258 #[.pointer (some ⟨g, 0, none⟩)] w fun e w' => Gr g w w' ∧ match Ps.nx ts with
    | none => e = .panicked failedV
    | some (t, r) => e = .returned (.agg #[.int .i64 t.f0, .string t.f1, .int .i64 t.f2]) ∧ PS w0 g r w' := by
  obtain ⟨t, r, rfl⟩ := h.ends.cons
  by_cases k : t.f0 = 0
  · refine (next_end h k).mono ?_
    rintro e w' ⟨rfl, hb⟩
    exact ⟨Gr.of_below hb, by simp [Ps.nx, k]⟩
  · refine (next_some h k).mono ?_
    rintro e w' ⟨rfl, hp, hg⟩
    exact ⟨hg, by simp [Ps.nx, k, hp]⟩
end Go.Proofs.YtcgdncpioafbdaaGreatDoor.Q

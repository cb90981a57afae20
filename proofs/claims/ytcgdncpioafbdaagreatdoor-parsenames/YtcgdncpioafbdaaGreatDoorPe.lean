/- The parser: expr (under the contracts of what it calls with less rounds). -/
import Derived.Test.YtcgdncpioafbdaaGreatDoorPy
import Derived.Test.YtcgdncpioafbdaaGreatDoorPm
namespace Go.Proofs.YtcgdncpioafbdaaGreatDoor.Q
open Go Go.RowKit Go.Proofs.YtcgdncpioafbdaaGreatDoorW.PrintWords Go.Proofs.YtcgdncpioafbdaaGreatDoorW.PrintLast

def ExprAt (k : Nat) : Prop := ∀ (w0 : World) (g : Nat) (ts : List S32) (w : World) (least : Int), PS w0 g ts w → 2 * ts.length + 1 ≤ k → Calls Tryz.prog 358 #[.pointer (some ⟨g, 0, none⟩), .int .i64 least] w (Out w0 g (Vex w.heap.size) w (Ps.expr k least ts))
def FirstAt (k : Nat) : Prop := ∀ (w0 : World) (g : Nat) (ts : List S32) (w : World), PS w0 g ts w → 2 * ts.length ≤ k → Calls Tryz.prog 368 #[.pointer (some ⟨g, 0, none⟩)] w (Out w0 g (Vex w.heap.size) w (Ps.first k ts))

theorem PS.setB {w0 w : World} {g : Nat} {ts : List S32} (h : PS w0 g ts w) {b : Nat} (hb : w0.heap.size ≤ b) (hg : b ≠ g) (j : Nat) (v : Value) : PS w0 g ts (w.setCell ⟨b, j, none⟩ v) := by
  obtain ⟨h1, h2, h3, ⟨A, c, h4, h5, h6⟩, h7⟩ := h
  have h8 := h3.setCell (p := ⟨b, j, none⟩) hb v
  have hs := (((Below.refl w.heap.size w).mono (Nat.zero_le _)).setCell (B := 0) (p := ⟨b, j, none⟩) (Nat.zero_le _) v).size
  exact ⟨h1, Nat.lt_of_lt_of_le h2 hs, h8, ⟨A, c, h4, h5, (Below.heap_setCell w ⟨b, j, none⟩ v g (fun e => hg e.symm)).trans h6⟩, h7⟩
theorem Gr.setB {g : Nat} {w w1 : World} (h : Gr g w w1) {b : Nat} (hb : w.heap.size ≤ b) (j : Nat) (v : Value) : Gr g w (w1.setCell ⟨b, j, none⟩ v) := by
  have hc : Below 0 w1 (w1.setCell ⟨b, j, none⟩ v) := ((Below.refl w1.heap.size w1).mono (Nat.zero_le _)).setCell (Nat.zero_le _) v
  refine ⟨hc.os.trans h.os, hc.tape.trans h.tape, hc.output.trans h.output, Nat.le_trans h.size hc.size, fun i hi hg => ?_⟩
  rw [Below.heap_setCell w1 ⟨b, j, none⟩ v i (show i ≠ b by omega)]
  exact h.block i hi hg
theorem Gr.blk {g b : Nat} {w w1 : World} {o : Obj} (h : Gr g w w1) (hb : w.heap[b]? = some o) (hg : b ≠ g) : w1.heap[b]? = some o := (h.block b (blk_lt hb) hg).trans hb

set_option maxHeartbeats 4000000 in
set_option maxRecDepth 100000 in
theorem expr_step (k : Nat) (ihE : ∀ j, j ≤ k → ExprAt j) (ihF : FirstAt k) : ExprAt (k + 1) := by
  intro w0 g ts w least hps hk
  have HP := Aside0.mk hps
  clear hps
  have hlt := HP.out.lt
  by_cases c : (Ps.pk ts).toList = Ps.sNot.toList ∧ least > 3
  · have c0 : ((Ps.pk ts).toList == Ps.sNot.toList) = true := beq_iff_eq.mpr c.1
    have c1 : decide (3 < least) = true := decide_eq_true c.2
    have HM := Aside0.mk (show Ps.expr (k + 1) least ts = none by simp only [Ps.expr]; rw [if_pos c])
    clear c
    rw [wNot] at c0
    go_enter Tryz.func358, Tryz.ntmps358
    go_wp2_with (first | (go_at_call 327; refine (peek_calls (HP.out.alloc _)).mono ?_; rintro e w1 ⟨rfl, hb⟩; have HB := Aside0.mk hb; clear hb) | (go_at_call 264; refine (fail_calls g _).mono ?_; rintro e w3 ⟨rfl, rfl⟩))
    exact ⟨rfl, Out.of_none HM.out (((Gr.refl g w).alloc _).step HB.out)⟩
  · have hc : ((Ps.pk ts).toList == [110, 111, 116]) = false ∨ (((Ps.pk ts).toList == [110, 111, 116]) = true ∧ decide (3 < least) = false) := by
      rw [wNot] at c
      by_cases c1 : (Ps.pk ts).toList = [110, 111, 116]
      · exact .inr ⟨beq_iff_eq.mpr c1, decide_eq_false (fun h => c ⟨c1, h⟩)⟩
      · exact .inl (beq_eq_false_iff_ne.mpr c1)
    have HM := Aside0.mk (show Ps.expr (k + 1) least ts = match Ps.first k ts with
      | none => none
      | some (e, r) => Ps.more k least e r by simp only [Ps.expr]; rw [if_neg c]; cases Ps.first k ts <;> rfl)
    clear c
    cases hf : Ps.first k ts with
    | none =>
      rw [hf] at HM
      have HF := Aside0.mk hf
      clear hf
      rcases hc with c0 | ⟨c0, c1⟩
      all_goals
        go_enter Tryz.func358, Tryz.ntmps358
        go_wp2_with (first | (go_at_call 327; refine (peek_calls (HP.out.alloc _)).mono ?_; rintro e w1 ⟨rfl, hb⟩; have HB := Aside0.mk hb; clear hb) | (go_at_call 368; refine (ihF w0 g ts _ ((HP.out.alloc _).below HB.out) (by omega)).mono ?_; intro e w2 ho; obtain ⟨hg, rfl⟩ := ho.none HF.out; have HG := Aside0.mk hg; clear hg ho))
        exact ⟨rfl, Out.of_none HM.out ((((Gr.refl g w).alloc _).step HB.out).trans HG.out)⟩
    | some p =>
      obtain ⟨e0, r0⟩ := p
      rw [hf] at HM
      have HF := Aside0.mk hf
      clear hf
      have hlow := HP.out.low
      rcases hc with c0 | ⟨c0, c1⟩
      all_goals
        go_enter Tryz.func358, Tryz.ntmps358
        go_wp2_with (first | (go_at_call 327; refine (peek_calls (HP.out.alloc _)).mono ?_; rintro e w1 ⟨rfl, hb⟩; have HB := Aside0.mk hb; clear hb) | (go_at_call 368; refine (ihF w0 g ts _ ((HP.out.alloc _).below HB.out) (by omega)).mono ?_; intro e w2 ho; obtain ⟨hg, v, rfl, hv, hp⟩ := ho.some HF.out; obtain ⟨A0, n0, rfl, hn0, hf0⟩ := hv; have HG := Aside0.mk ((((Gr.refl g w).alloc _).step HB.out).trans hg); have HQ := Aside0.mk hp; have HN := Aside0.mk hn0; have HE := Aside0.mk hf0; have BR := Aside0.mk (hg.blk ((HB.out.block w.heap.size (by simp)).trans (new_blk _ rfl)) (by omega)); have hsz : w.heap.size < w2.heap.size := Nat.lt_of_lt_of_le (by have := HB.out.size; simp at this; omega) hg.size; have hsz1 : w.heap.size < w1.heap.size := (by have := HB.out.size; simp at this; omega); clear hg ho hp hn0 hf0; unfold cells43))
        go_loopg [6] k (fun kq v6 w' => ∃ (e : S43) (A : Option Addr) (n : Nat) (tq : List S32), Aside0 (Ps.more kq least e tq = Ps.expr (k + 1) least ts) ∧ Aside0 (2 * tq.length + 1 ≤ kq) ∧ Aside0 (kq ≤ k) ∧ Aside0 (w'.heap[w2.heap.size]? = some (.cells (cells43 e A n).toArray 43 (0, 0))) ∧ Aside0 (w'.heap[w.heap.size]? = some (.cells #[.string ⟨#[]⟩, .int .i64 0, .int .i64 0, .string ⟨#[]⟩, .string ⟨#[]⟩, .slice none 0 0] 43 (0, 0))) ∧ Aside0 (e.f3.length ≤ n) ∧ Aside0 (Kd.F k43 w' (fun q => w.heap.size < q ∧ q ≠ w2.heap.size) A e.f3.length e.f3) ∧ Aside0 (PS w0 g tq w') ∧ Aside0 (Gr g w w'))
        case atStart => exact ⟨e0, A0, n0, r0, ⟨HM.out.symm⟩, ⟨by have := Ps.first_len HF.out; omega⟩, ⟨Nat.le_refl _⟩, ⟨new_blk _ rfl⟩, ⟨blk_alloc BR.out _⟩, HN, ⟨Kd.F_alloc (Kd.F_mono (Kd.F_bound HE.out) (fun q hq => ⟨by omega, by omega⟩)) _⟩, ⟨HQ.out.alloc _⟩, ⟨HG.out.alloc _⟩⟩
        case round =>
          clear HM HF HQ HN HE BR HG HB
          try clear c0
          try clear c1
          obtain ⟨e, A, n, tq, HM, HL, HK, BK, BR, HN, HE, HQ, HG⟩ := hrel
          have hwr : w2.heap.size < wr.heap.size := blk_lt BK.out
          cases gk with
          | zero => exact absurd HL.out (by omega)
          | succ j =>
            have hm := HM.out
            clear HM
            simp only [Ps.more] at hm
            obtain ⟨s, hs⟩ : ∃ s, Ps.pk tq = s := ⟨_, rfl⟩
            obtain ⟨b, hb0⟩ : ∃ b, Ps.binds s = b := ⟨_, rfl⟩
            rw [hs, hb0] at hm
            have BV := Aside0.mk hb0
            have BI := Aside0.mk (show parse_binds.f 3 s = some b by rw [binds_is, hb0])
            have HS := Aside0.mk hs
            clear hs hb0
            by_cases k1 : b = 0
            · rw [if_pos k1] at hm
              have b0 : (b == 0) = true := beq_iff_eq.mpr k1
              have HM := Aside0.mk hm
              clear k1 hm
              go_wp2_with (first | (go_at_call 327; refine (peek_calls HQ.out).mono ?_; rintro e w3 ⟨rfl, hb⟩; rw [HS.out]; have hg := Gr.of_below (g := g) hb; have BK3 := Aside0.mk (hg.blk BK.out (by omega)); have BR3 := Aside0.mk (hg.blk BR.out (by omega)); have HE3 := Aside0.mk (hg.F HE.out (fun q hq => by omega)); have b3c0 : w3.cell? ⟨w2.heap.size, 0, none⟩ = some (.string e.f0) := (blk_cell BK3.out 0).trans rfl; have b3c1 : w3.cell? ⟨w2.heap.size, 1, none⟩ = some (.int .i64 e.f1.f0) := (blk_cell BK3.out 1).trans rfl; have b3c2 : w3.cell? ⟨w2.heap.size, 2, none⟩ = some (.int .i64 e.f1.f1) := (blk_cell BK3.out 2).trans rfl; have b3c3 : w3.cell? ⟨w2.heap.size, 3, none⟩ = some (.string e.f1.f2) := (blk_cell BK3.out 3).trans rfl; have b3c4 : w3.cell? ⟨w2.heap.size, 4, none⟩ = some (.string e.f2) := (blk_cell BK3.out 4).trans rfl; have b3c5 : w3.cell? ⟨w2.heap.size, 5, none⟩ = some (.slice A e.f3.length n) := (blk_cell BK3.out 5).trans rfl; have r3c0 : w3.cell? ⟨w.heap.size, 0, none⟩ = some (.string ⟨#[]⟩) := (blk_cell BR3.out 0).trans rfl; have r3c1 : w3.cell? ⟨w.heap.size, 1, none⟩ = some (.int .i64 0) := (blk_cell BR3.out 1).trans rfl; have r3c2 : w3.cell? ⟨w.heap.size, 2, none⟩ = some (.int .i64 0) := (blk_cell BR3.out 2).trans rfl; have r3c3 : w3.cell? ⟨w.heap.size, 3, none⟩ = some (.string ⟨#[]⟩) := (blk_cell BR3.out 3).trans rfl; have r3c4 : w3.cell? ⟨w.heap.size, 4, none⟩ = some (.string ⟨#[]⟩) := (blk_cell BR3.out 4).trans rfl; have r3c5 : w3.cell? ⟨w.heap.size, 5, none⟩ = some (.slice none 0 0) := (blk_cell BR3.out 5).trans rfl; have b3z0 := blk_frozen BK3.out 0; have b3z1 := blk_frozen BK3.out 1; have b3z2 := blk_frozen BK3.out 2; have b3z3 := blk_frozen BK3.out 3; have b3z4 := blk_frozen BK3.out 4; have b3z5 := blk_frozen BK3.out 5; have r3z0 := blk_frozen BR3.out 0; have r3z1 := blk_frozen BR3.out 1; have r3z2 := blk_frozen BR3.out 2; have r3z3 := blk_frozen BR3.out 3; have r3z4 := blk_frozen BR3.out 4; have r3z5 := blk_frozen BR3.out 5; have HQ3 := Aside0.mk (HQ.out.below hb); have HG3 := Aside0.mk (HG.out.trans hg); clear hg hb) | (go_at_call 102; refine (parse_binds.calls 3 _ _ _ BI.out).mono ?_; rintro e w4 ⟨rfl, ⟨nd, rfl⟩⟩))
              refine bodyPost_ret (v := .agg (cells43 e A n).toArray) ?_ rfl ?_
              · simp [results, Tryz.results358, go_sem, cells43, r3c0, r3c1, r3c2, r3c3, r3c4, r3c5, r3z0, r3z1, r3z2, r3z3, r3z4, r3z5]
              · refine Out.of_some HM.out.symm ?_ ⟨A, n, rfl, HN.out, ?_⟩ ?_
                · with_reducible (repeat (first | exact HG3.out | apply Gr.drewN | refine Gr.setB ?_ (Nat.le_refl _) _ _))
                · refine Kd.F_mono (ok := fun q => w.heap.size < q ∧ q ≠ w2.heap.size) ?_ (fun q hq => by omega)
                  with_reducible (repeat (first | exact HE3.out | apply Kd.F_drewN | refine Kd.F_far ?_ (fun q hq => Nat.ne_of_gt hq.1) _))
                · with_reducible (repeat (first | exact HQ3.out | apply PS.drewN | refine PS.setB ?_ (by omega) (by omega) _ _))
            · rw [if_neg k1] at hm
              have b0 : (b == 0) = false := beq_eq_false_iff_ne.mpr k1
              by_cases k2 : b < least
              · rw [if_pos k2] at hm
                have b1 : decide (b < least) = true := decide_eq_true k2
                have HM := Aside0.mk hm
                clear k1 k2 hm
                go_wp2_with (first | (go_at_call 327; refine (peek_calls HQ.out).mono ?_; rintro e w3 ⟨rfl, hb⟩; rw [HS.out]; have hg := Gr.of_below (g := g) hb; have BK3 := Aside0.mk (hg.blk BK.out (by omega)); have BR3 := Aside0.mk (hg.blk BR.out (by omega)); have HE3 := Aside0.mk (hg.F HE.out (fun q hq => by omega)); have b3c0 : w3.cell? ⟨w2.heap.size, 0, none⟩ = some (.string e.f0) := (blk_cell BK3.out 0).trans rfl; have b3c1 : w3.cell? ⟨w2.heap.size, 1, none⟩ = some (.int .i64 e.f1.f0) := (blk_cell BK3.out 1).trans rfl; have b3c2 : w3.cell? ⟨w2.heap.size, 2, none⟩ = some (.int .i64 e.f1.f1) := (blk_cell BK3.out 2).trans rfl; have b3c3 : w3.cell? ⟨w2.heap.size, 3, none⟩ = some (.string e.f1.f2) := (blk_cell BK3.out 3).trans rfl; have b3c4 : w3.cell? ⟨w2.heap.size, 4, none⟩ = some (.string e.f2) := (blk_cell BK3.out 4).trans rfl; have b3c5 : w3.cell? ⟨w2.heap.size, 5, none⟩ = some (.slice A e.f3.length n) := (blk_cell BK3.out 5).trans rfl; have r3c0 : w3.cell? ⟨w.heap.size, 0, none⟩ = some (.string ⟨#[]⟩) := (blk_cell BR3.out 0).trans rfl; have r3c1 : w3.cell? ⟨w.heap.size, 1, none⟩ = some (.int .i64 0) := (blk_cell BR3.out 1).trans rfl; have r3c2 : w3.cell? ⟨w.heap.size, 2, none⟩ = some (.int .i64 0) := (blk_cell BR3.out 2).trans rfl; have r3c3 : w3.cell? ⟨w.heap.size, 3, none⟩ = some (.string ⟨#[]⟩) := (blk_cell BR3.out 3).trans rfl; have r3c4 : w3.cell? ⟨w.heap.size, 4, none⟩ = some (.string ⟨#[]⟩) := (blk_cell BR3.out 4).trans rfl; have r3c5 : w3.cell? ⟨w.heap.size, 5, none⟩ = some (.slice none 0 0) := (blk_cell BR3.out 5).trans rfl; have b3z0 := blk_frozen BK3.out 0; have b3z1 := blk_frozen BK3.out 1; have b3z2 := blk_frozen BK3.out 2; have b3z3 := blk_frozen BK3.out 3; have b3z4 := blk_frozen BK3.out 4; have b3z5 := blk_frozen BK3.out 5; have r3z0 := blk_frozen BR3.out 0; have r3z1 := blk_frozen BR3.out 1; have r3z2 := blk_frozen BR3.out 2; have r3z3 := blk_frozen BR3.out 3; have r3z4 := blk_frozen BR3.out 4; have r3z5 := blk_frozen BR3.out 5; have HQ3 := Aside0.mk (HQ.out.below hb); have HG3 := Aside0.mk (HG.out.trans hg); clear hg hb) | (go_at_call 102; refine (parse_binds.calls 3 _ _ _ BI.out).mono ?_; rintro e w4 ⟨rfl, ⟨nd, rfl⟩⟩))
                refine bodyPost_ret (v := .agg (cells43 e A n).toArray) ?_ rfl ?_
                · simp [results, Tryz.results358, go_sem, cells43, r3c0, r3c1, r3c2, r3c3, r3c4, r3c5, r3z0, r3z1, r3z2, r3z3, r3z4, r3z5]
                · refine Out.of_some HM.out.symm ?_ ⟨A, n, rfl, HN.out, ?_⟩ ?_
                  · with_reducible (repeat (first | exact HG3.out | apply Gr.drewN | refine Gr.setB ?_ (Nat.le_refl _) _ _))
                  · refine Kd.F_mono (ok := fun q => w.heap.size < q ∧ q ≠ w2.heap.size) ?_ (fun q hq => by omega)
                    with_reducible (repeat (first | exact HE3.out | apply Kd.F_drewN | refine Kd.F_far ?_ (fun q hq => Nat.ne_of_gt hq.1) _))
                  · with_reducible (repeat (first | exact HQ3.out | apply PS.drewN | refine PS.setB ?_ (by omega) (by omega) _ _))
              · rw [if_neg k2] at hm
                have b1 : decide (b < least) = false := decide_eq_false k2
                clear k1 k2
                have hbr := binds_range s
                rw [BV.out] at hbr
                have wrapb : wrap64 (b + 1) = b + 1 := by unfold wrap64; omega
                cases hn : Ps.nx tq with
                | none =>
                  rw [hn] at hm
                  have HM := Aside0.mk hm
                  have HN5 := Aside0.mk hn
                  clear hm hn wrapb
                  go_wp2_with (first | (go_at_call 327; refine (peek_calls HQ.out).mono ?_; rintro e w3 ⟨rfl, hb⟩; rw [HS.out]; have hg := Gr.of_below (g := g) hb; have hs3 := hb.size; have BK3 := Aside0.mk (hg.blk BK.out (by omega)); have BR3 := Aside0.mk (hg.blk BR.out (by omega)); have HE3 := Aside0.mk (hg.F HE.out (fun q hq => by omega)); have HQ3 := Aside0.mk (HQ.out.below hb); have HG3 := Aside0.mk (HG.out.trans hg); clear hg hb) | (go_at_call 102; refine (parse_binds.calls 3 _ _ _ BI.out).mono ?_; rintro e w4 ⟨rfl, ⟨nd, rfl⟩⟩) | (go_at_call 258; refine (next_out (HQ3.out.drewN _)).mono ?_; intro e w5 ho; obtain ⟨hg, rfl⟩ := ho.none HN5.out; have HG5 := Aside0.mk ((HG3.out.drewN _).trans hg); clear hg ho))
                  exact ⟨rfl, Out.of_none HM.out.symm HG5.out⟩
                | some p =>
                  obtain ⟨t5, r5⟩ := p
                  rw [hn] at hm
                  simp only at hm
                  have HN5 := Aside0.mk hn
                  clear hn
                  by_cases k3 : s.toList = Ps.sIs.toList
                  · rw [if_pos k3] at hm
                    rw [wIs] at k3
                    have s0 : (s.toList == [105, 115]) = true := beq_iff_eq.mpr k3
                    have s1 : (s.toList != [105, 115]) = false := bne_eq_false_iff_eq.mpr k3
                    clear k3 wrapb
                    cases ht : Ps.tk Ps.sNot r5 with
                    | none =>
                      rw [ht] at hm
                      have HM := Aside0.mk hm
                      have HT := Aside0.mk ht
                      clear hm ht
                      go_wp2_with (first | (go_at_call 327; refine (peek_calls HQ.out).mono ?_; rintro e w3 ⟨rfl, hb⟩; rw [HS.out]; have hg := Gr.of_below (g := g) hb; have hs3 := hb.size; have BK3 := Aside0.mk (hg.blk BK.out (by omega)); have BR3 := Aside0.mk (hg.blk BR.out (by omega)); have HE3 := Aside0.mk (hg.F HE.out (fun q hq => by omega)); have HQ3 := Aside0.mk (HQ.out.below hb); have HG3 := Aside0.mk (HG.out.trans hg); clear hg hb) | (go_at_call 102; refine (parse_binds.calls 3 _ _ _ BI.out).mono ?_; rintro e w4 ⟨rfl, ⟨nd, rfl⟩⟩) | (go_at_call 258; refine (next_out (HQ3.out.drewN _)).mono ?_; intro e w5 ho; obtain ⟨hg, v, rfl, rfl, hp⟩ := ho.some HN5.out; have hg3 := ((Gr.refl g w3).drewN nd).trans hg; have hs5 := hg3.size; have BK5 := Aside0.mk (hg3.blk BK3.out (by omega)); have BR5 := Aside0.mk (hg3.blk BR3.out (by omega)); have HE5 := Aside0.mk (hg3.F HE3.out (fun q hq => by omega)); have b5c0 : w5.cell? ⟨w2.heap.size, 0, none⟩ = some (.string e.f0) := (blk_cell BK5.out 0).trans rfl; have b5c1 : w5.cell? ⟨w2.heap.size, 1, none⟩ = some (.int .i64 e.f1.f0) := (blk_cell BK5.out 1).trans rfl; have b5c2 : w5.cell? ⟨w2.heap.size, 2, none⟩ = some (.int .i64 e.f1.f1) := (blk_cell BK5.out 2).trans rfl; have b5c3 : w5.cell? ⟨w2.heap.size, 3, none⟩ = some (.string e.f1.f2) := (blk_cell BK5.out 3).trans rfl; have b5c4 : w5.cell? ⟨w2.heap.size, 4, none⟩ = some (.string e.f2) := (blk_cell BK5.out 4).trans rfl; have b5c5 : w5.cell? ⟨w2.heap.size, 5, none⟩ = some (.slice A e.f3.length n) := (blk_cell BK5.out 5).trans rfl; have b5z0 := blk_frozen BK5.out 0; have b5z1 := blk_frozen BK5.out 1; have b5z2 := blk_frozen BK5.out 2; have b5z3 := blk_frozen BK5.out 3; have b5z4 := blk_frozen BK5.out 4; have b5z5 := blk_frozen BK5.out 5; have HQ5 := Aside0.mk hp; have HG5 := Aside0.mk (HG3.out.trans hg3); clear hg hg3 ho hp) | (go_at_call 271; refine (take_out HQ5.out Ps.sNot).mono ?_; intro e w6 ho; obtain ⟨hg, rfl⟩ := ho.none HT.out; have HG6 := Aside0.mk (HG5.out.trans hg); clear hg ho))
                      exact ⟨rfl, Out.of_none HM.out.symm HG6.out⟩
                    | some p =>
                      obtain ⟨no, r6⟩ := p
                      rw [ht] at hm
                      simp only at hm
                      have HT := Aside0.mk ht
                      clear ht
                      cases hu : Ps.ms [Ps.sNull] r6 with
                      | none =>
                        rw [hu] at hm
                        have HM := Aside0.mk hm
                        have HU := Aside0.mk hu
                        clear hm hu
                        go_wp2_with (first | (go_at_call 327; refine (peek_calls HQ.out).mono ?_; rintro e w3 ⟨rfl, hb⟩; rw [HS.out]; have hg := Gr.of_below (g := g) hb; have hs3 := hb.size; have BK3 := Aside0.mk (hg.blk BK.out (by omega)); have BR3 := Aside0.mk (hg.blk BR.out (by omega)); have HE3 := Aside0.mk (hg.F HE.out (fun q hq => by omega)); have HQ3 := Aside0.mk (HQ.out.below hb); have HG3 := Aside0.mk (HG.out.trans hg); clear hg hb) | (go_at_call 102; refine (parse_binds.calls 3 _ _ _ BI.out).mono ?_; rintro e w4 ⟨rfl, ⟨nd, rfl⟩⟩) | (go_at_call 258; refine (next_out (HQ3.out.drewN _)).mono ?_; intro e w5 ho; obtain ⟨hg, v, rfl, rfl, hp⟩ := ho.some HN5.out; have hg3 := ((Gr.refl g w3).drewN nd).trans hg; have hs5 := hg3.size; have BK5 := Aside0.mk (hg3.blk BK3.out (by omega)); have BR5 := Aside0.mk (hg3.blk BR3.out (by omega)); have HE5 := Aside0.mk (hg3.F HE3.out (fun q hq => by omega)); have b5c0 : w5.cell? ⟨w2.heap.size, 0, none⟩ = some (.string e.f0) := (blk_cell BK5.out 0).trans rfl; have b5c1 : w5.cell? ⟨w2.heap.size, 1, none⟩ = some (.int .i64 e.f1.f0) := (blk_cell BK5.out 1).trans rfl; have b5c2 : w5.cell? ⟨w2.heap.size, 2, none⟩ = some (.int .i64 e.f1.f1) := (blk_cell BK5.out 2).trans rfl; have b5c3 : w5.cell? ⟨w2.heap.size, 3, none⟩ = some (.string e.f1.f2) := (blk_cell BK5.out 3).trans rfl; have b5c4 : w5.cell? ⟨w2.heap.size, 4, none⟩ = some (.string e.f2) := (blk_cell BK5.out 4).trans rfl; have b5c5 : w5.cell? ⟨w2.heap.size, 5, none⟩ = some (.slice A e.f3.length n) := (blk_cell BK5.out 5).trans rfl; have b5z0 := blk_frozen BK5.out 0; have b5z1 := blk_frozen BK5.out 1; have b5z2 := blk_frozen BK5.out 2; have b5z3 := blk_frozen BK5.out 3; have b5z4 := blk_frozen BK5.out 4; have b5z5 := blk_frozen BK5.out 5; have HQ5 := Aside0.mk hp; have HG5 := Aside0.mk (HG3.out.trans hg3); clear hg hg3 ho hp) | (go_at_call 271; refine (take_out HQ5.out Ps.sNot).mono ?_; intro e w6 ho; obtain ⟨hg, v, rfl, rfl, hp⟩ := ho.some HT.out; have hs6 := hg.size; have BK6 := Aside0.mk (hg.blk BK5.out (by omega)); have BR6 := Aside0.mk (hg.blk BR5.out (by omega)); have HE6 := Aside0.mk (hg.F HE5.out (fun q hq => by omega)); have HQ6 := Aside0.mk hp; have HG6 := Aside0.mk (HG5.out.trans hg); clear hg ho hp) | (go_at_call 259; refine (must1 HQ6.out rfl Ps.sNull 1).mono ?_; intro e w7 ho; obtain ⟨hg, rfl⟩ := ho.none (msU_none HU.out); have HG7 := Aside0.mk (HG6.out.trans hg); clear hg ho))
                        exact ⟨rfl, Out.of_none HM.out.symm HG7.out⟩
                      | some r7 =>
                        rw [hu] at hm
                        simp only at hm
                        have HU := Aside0.mk hu
                        clear hu
                        go_upto_region 13 with (first | (go_at_call 327; refine (peek_calls HQ.out).mono ?_; rintro e w3 ⟨rfl, hb⟩; rw [HS.out]; have hg := Gr.of_below (g := g) hb; have hs3 := hb.size; have BK3 := Aside0.mk (hg.blk BK.out (by omega)); have BR3 := Aside0.mk (hg.blk BR.out (by omega)); have HE3 := Aside0.mk (hg.F HE.out (fun q hq => by omega)); have HQ3 := Aside0.mk (HQ.out.below hb); have HG3 := Aside0.mk (HG.out.trans hg); clear hg hb) | (go_at_call 102; refine (parse_binds.calls 3 _ _ _ BI.out).mono ?_; rintro e w4 ⟨rfl, ⟨nd, rfl⟩⟩) | (go_at_call 258; refine (next_out (HQ3.out.drewN _)).mono ?_; intro e w5 ho; obtain ⟨hg, v, rfl, rfl, hp⟩ := ho.some HN5.out; have hg3 := ((Gr.refl g w3).drewN nd).trans hg; have hs5 := hg3.size; have BK5 := Aside0.mk (hg3.blk BK3.out (by omega)); have BR5 := Aside0.mk (hg3.blk BR3.out (by omega)); have HE5 := Aside0.mk (hg3.F HE3.out (fun q hq => by omega)); have b5c0 : w5.cell? ⟨w2.heap.size, 0, none⟩ = some (.string e.f0) := (blk_cell BK5.out 0).trans rfl; have b5c1 : w5.cell? ⟨w2.heap.size, 1, none⟩ = some (.int .i64 e.f1.f0) := (blk_cell BK5.out 1).trans rfl; have b5c2 : w5.cell? ⟨w2.heap.size, 2, none⟩ = some (.int .i64 e.f1.f1) := (blk_cell BK5.out 2).trans rfl; have b5c3 : w5.cell? ⟨w2.heap.size, 3, none⟩ = some (.string e.f1.f2) := (blk_cell BK5.out 3).trans rfl; have b5c4 : w5.cell? ⟨w2.heap.size, 4, none⟩ = some (.string e.f2) := (blk_cell BK5.out 4).trans rfl; have b5c5 : w5.cell? ⟨w2.heap.size, 5, none⟩ = some (.slice A e.f3.length n) := (blk_cell BK5.out 5).trans rfl; have b5z0 := blk_frozen BK5.out 0; have b5z1 := blk_frozen BK5.out 1; have b5z2 := blk_frozen BK5.out 2; have b5z3 := blk_frozen BK5.out 3; have b5z4 := blk_frozen BK5.out 4; have b5z5 := blk_frozen BK5.out 5; have HQ5 := Aside0.mk hp; have HG5 := Aside0.mk (HG3.out.trans hg3); clear hg hg3 ho hp) | (go_at_call 271; refine (take_out HQ5.out Ps.sNot).mono ?_; intro e w6 ho; obtain ⟨hg, v, rfl, rfl, hp⟩ := ho.some HT.out; have hs6 := hg.size; have BK6 := Aside0.mk (hg.blk BK5.out (by omega)); have BR6 := Aside0.mk (hg.blk BR5.out (by omega)); have HE6 := Aside0.mk (hg.F HE5.out (fun q hq => by omega)); have HQ6 := Aside0.mk hp; have HG6 := Aside0.mk (HG5.out.trans hg); clear hg ho hp) | (go_at_call 259; refine (must1 HQ6.out rfl Ps.sNull 1).mono ?_; intro e9 w7 ho; obtain ⟨hg, v, rfl, rfl, hp⟩ := ho.some (msU_some HU.out); have hs7 := hg.size; have BK7 := Aside0.mk (hg.blk BK6.out (by omega)); have BR7 := Aside0.mk (hg.blk BR6.out (by omega)); have HE7 := Aside0.mk (hg.F HE6.out (fun q hq => by omega)); have b7c0 : w7.cell? ⟨w2.heap.size, 0, none⟩ = some (.string e.f0) := (blk_cell BK7.out 0).trans rfl; have b7c1 : w7.cell? ⟨w2.heap.size, 1, none⟩ = some (.int .i64 e.f1.f0) := (blk_cell BK7.out 1).trans rfl; have b7c2 : w7.cell? ⟨w2.heap.size, 2, none⟩ = some (.int .i64 e.f1.f1) := (blk_cell BK7.out 2).trans rfl; have b7c3 : w7.cell? ⟨w2.heap.size, 3, none⟩ = some (.string e.f1.f2) := (blk_cell BK7.out 3).trans rfl; have b7c4 : w7.cell? ⟨w2.heap.size, 4, none⟩ = some (.string e.f2) := (blk_cell BK7.out 4).trans rfl; have b7c5 : w7.cell? ⟨w2.heap.size, 5, none⟩ = some (.slice A e.f3.length n) := (blk_cell BK7.out 5).trans rfl; have b7z0 := blk_frozen BK7.out 0; have b7z1 := blk_frozen BK7.out 1; have b7z2 := blk_frozen BK7.out 2; have b7z3 := blk_frozen BK7.out 3; have b7z4 := blk_frozen BK7.out 4; have b7z5 := blk_frozen BK7.out 5; have hb7 : w2.heap.size < w7.heap.size := blk_lt BK7.out; have HQ7 := Aside0.mk hp; have HG7 := Aside0.mk (HG6.out.trans hg); clear hg ho hp))
                        go_cut [8] (fun v8 wc => ∃ (A1 : Option Addr), v8 = .bool no ∧ Aside0 (wc.heap[w2.heap.size]? = some (.cells (cells43 (Ps.op Ps.sIsnull [e]) A1 1).toArray 43 (0, 0))) ∧ Aside0 (wc.heap[w.heap.size]? = some (.cells #[.string ⟨#[]⟩, .int .i64 0, .int .i64 0, .string ⟨#[]⟩, .string ⟨#[]⟩, .slice none 0 0] 43 (0, 0))) ∧ Aside0 (Kd.F k43 wc (fun q => w.heap.size < q ∧ q ≠ w2.heap.size) A1 1 [e]) ∧ Aside0 (PS w0 g r7 wc) ∧ Aside0 (Gr g w wc))
                        case first =>
                          go_wp2_with (first | (go_at_call 369; refine (op_calls _ _ _ _ _).mono ?_; rintro e8 w8 ⟨rfl, o8, rfl⟩))
                          go_meet
                          case rel =>
                            refine ⟨some ⟨w7.heap.size, 0, none⟩, rfl, ?_, ?_, ?_, ?_, ?_⟩
                            · exact ⟨blk_alloc (blk_alloc (blk_put6 BK7.out) _) _⟩
                            · exact ⟨blk_alloc (blk_alloc (by with_reducible (repeat (first | exact BR7.out | refine blk_setNe ?_ (by omega) _ _))) _) _⟩
                            · refine ⟨F_one (x := e) (A := A) (c := n) (blk_alloc (new_blk _ (by simp)) _) ⟨by omega, by omega⟩ HN.out (Kd.F_alloc (Kd.F_alloc ?_ _) _)⟩
                              with_reducible (repeat (first | exact HE7.out | refine Kd.F_far ?_ (fun q hq => hq.2) _))
                            · exact ⟨((by with_reducible (repeat (first | exact HQ7.out | refine PS.setB ?_ (by omega) (by omega) _ _)) : PS w0 g r7 _).alloc _).alloc _⟩
                            · exact ⟨((by with_reducible (repeat (first | exact HG7.out | refine Gr.setB ?_ (by omega) _ _)) : Gr g w _).alloc _).alloc _⟩
                        case rest =>
                          obtain ⟨A1, rfl, BK9, BR9, HE9, HQ9, HG9⟩ := hcut
                          have hb9 : w2.heap.size < wc.heap.size := blk_lt BK9.out
                          cases no with
                          | false =>
                            simp only [Bool.false_eq_true, if_false] at hm
                            have HM := Aside0.mk hm
                            clear hm
                            go_wp2
                            go_roundg j
                            case measure => have := HL.out; omega
                            case rel =>
                              exact ⟨Ps.op Ps.sIsnull [e], A1, 1, r7, HM, ⟨by have := HL.out; have := (Ps.nx_len HN5.out).1; have := (Ps.tk_len HT.out).1; have := Ps.ms_len HU.out; omega⟩, ⟨by have := HK.out; omega⟩, BK9, BR9, ⟨Nat.le_refl _⟩, HE9, HQ9, HG9⟩
                          | true =>
                            simp only [if_true] at hm
                            have HM := Aside0.mk hm
                            clear hm
                            have b9c0 : wc.cell? ⟨w2.heap.size, 0, none⟩ = some (.string Ps.sIsnull) := (blk_cell BK9.out 0).trans rfl
                            have b9c1 : wc.cell? ⟨w2.heap.size, 1, none⟩ = some (.int .i64 0) := (blk_cell BK9.out 1).trans rfl
                            have b9c2 : wc.cell? ⟨w2.heap.size, 2, none⟩ = some (.int .i64 0) := (blk_cell BK9.out 2).trans rfl
                            have b9c3 : wc.cell? ⟨w2.heap.size, 3, none⟩ = some (.string ⟨#[]⟩) := (blk_cell BK9.out 3).trans rfl
                            have b9c4 : wc.cell? ⟨w2.heap.size, 4, none⟩ = some (.string ⟨#[]⟩) := (blk_cell BK9.out 4).trans rfl
                            have b9c5 : wc.cell? ⟨w2.heap.size, 5, none⟩ = some (.slice A1 1 1) := (blk_cell BK9.out 5).trans rfl
                            have b9z0 := blk_frozen BK9.out 0
                            have b9z1 := blk_frozen BK9.out 1
                            have b9z2 := blk_frozen BK9.out 2
                            have b9z3 := blk_frozen BK9.out 3
                            have b9z4 := blk_frozen BK9.out 4
                            have b9z5 := blk_frozen BK9.out 5
                            go_wp2_with (first | (go_at_call 369; refine (op_calls _ _ _ _ _).mono ?_; rintro e8 w8 ⟨rfl, o8, rfl⟩))
                            go_roundg j
                            case measure => have := HL.out; omega
                            case rel =>
                              refine ⟨Ps.op Ps.sNot [Ps.op Ps.sIsnull [e]], some ⟨wc.heap.size, 0, none⟩, 1, r7, HM, ⟨by have := HL.out; have := (Ps.nx_len HN5.out).1; have := (Ps.tk_len HT.out).1; have := Ps.ms_len HU.out; omega⟩, ⟨by have := HK.out; omega⟩, ?_, ?_, ⟨Nat.le_refl _⟩, ?_, ?_, ?_⟩
                              · exact ⟨blk_alloc (blk_alloc (blk_put6 BK9.out) _) _⟩
                              · exact ⟨blk_alloc (blk_alloc (by with_reducible (repeat (first | exact BR9.out | refine blk_setNe ?_ (by omega) _ _))) _) _⟩
                              · refine ⟨F_one (x := Ps.op Ps.sIsnull [e]) (A := A1) (c := 1) (blk_alloc (new_blk _ (by simp)) _) ⟨by omega, by omega⟩ (Nat.le_refl _) (Kd.F_alloc (Kd.F_alloc ?_ _) _)⟩
                                with_reducible (repeat (refine Kd.F_far ?_ (fun q hq => hq.2) _))
                                exact HE9.out
                              · exact ⟨((by with_reducible (repeat (first | exact HQ9.out | refine PS.setB ?_ (by omega) (by omega) _ _)) : PS w0 g r7 _).alloc _).alloc _⟩
                              · exact ⟨((by with_reducible (repeat (first | exact HG9.out | refine Gr.setB ?_ (by omega) _ _)) : Gr g w _).alloc _).alloc _⟩
                  · rw [if_neg k3] at hm
                    rw [wIs] at k3
                    have s0 : (s.toList == [105, 115]) = false := beq_eq_false_iff_ne.mpr k3
                    have s1 : (s.toList != [105, 115]) = true := bne_iff_ne.mpr k3
                    clear k3
                    have HC := Aside0.mk (fun wx hx => by rw [wrapb]; exact ihE j (by have := HK.out; omega) w0 g r5 wx (b + 1) hx (by have := HL.out; have := (Ps.nx_len HN5.out).1; omega) : ∀ wx, PS w0 g r5 wx → Calls Tryz.prog 358 #[.pointer (some ⟨g, 0, none⟩), .int .i64 (wrap64 (b + 1))] wx (Out w0 g (Vex wx.heap.size) wx (Ps.expr j (b + 1) r5)))
                    clear wrapb
                    cases hx : Ps.expr j (b + 1) r5 with
                    | none =>
                      rw [hx] at hm
                      have HM := Aside0.mk hm
                      have HX := Aside0.mk hx
                      clear hm hx
                      go_wp2_with (first | (go_at_call 327; refine (peek_calls HQ.out).mono ?_; rintro e w3 ⟨rfl, hb⟩; rw [HS.out]; have hg := Gr.of_below (g := g) hb; have hs3 := hb.size; have BK3 := Aside0.mk (hg.blk BK.out (by omega)); have BR3 := Aside0.mk (hg.blk BR.out (by omega)); have HE3 := Aside0.mk (hg.F HE.out (fun q hq => by omega)); have HQ3 := Aside0.mk (HQ.out.below hb); have HG3 := Aside0.mk (HG.out.trans hg); clear hg hb) | (go_at_call 102; refine (parse_binds.calls 3 _ _ _ BI.out).mono ?_; rintro e w4 ⟨rfl, ⟨nd, rfl⟩⟩) | (go_at_call 258; refine (next_out (HQ3.out.drewN _)).mono ?_; intro e w5 ho; obtain ⟨hg, v, rfl, rfl, hp⟩ := ho.some HN5.out; have hg3 := ((Gr.refl g w3).drewN nd).trans hg; have hs5 := hg3.size; have BK5 := Aside0.mk (hg3.blk BK3.out (by omega)); have BR5 := Aside0.mk (hg3.blk BR3.out (by omega)); have HE5 := Aside0.mk (hg3.F HE3.out (fun q hq => by omega)); have b5c0 : w5.cell? ⟨w2.heap.size, 0, none⟩ = some (.string e.f0) := (blk_cell BK5.out 0).trans rfl; have b5c1 : w5.cell? ⟨w2.heap.size, 1, none⟩ = some (.int .i64 e.f1.f0) := (blk_cell BK5.out 1).trans rfl; have b5c2 : w5.cell? ⟨w2.heap.size, 2, none⟩ = some (.int .i64 e.f1.f1) := (blk_cell BK5.out 2).trans rfl; have b5c3 : w5.cell? ⟨w2.heap.size, 3, none⟩ = some (.string e.f1.f2) := (blk_cell BK5.out 3).trans rfl; have b5c4 : w5.cell? ⟨w2.heap.size, 4, none⟩ = some (.string e.f2) := (blk_cell BK5.out 4).trans rfl; have b5c5 : w5.cell? ⟨w2.heap.size, 5, none⟩ = some (.slice A e.f3.length n) := (blk_cell BK5.out 5).trans rfl; have b5z0 := blk_frozen BK5.out 0; have b5z1 := blk_frozen BK5.out 1; have b5z2 := blk_frozen BK5.out 2; have b5z3 := blk_frozen BK5.out 3; have b5z4 := blk_frozen BK5.out 4; have b5z5 := blk_frozen BK5.out 5; have HQ5 := Aside0.mk hp; have HG5 := Aside0.mk (HG3.out.trans hg3); clear hg hg3 ho hp))
                      refine start_ (n := 9) (S := fun w' => w'.cell? ⟨w2.heap.size, 0, none⟩ = some (.string e.f0) ∧ w'.cell? ⟨w2.heap.size, 1, none⟩ = some (.int .i64 e.f1.f0) ∧ w'.cell? ⟨w2.heap.size, 2, none⟩ = some (.int .i64 e.f1.f1) ∧ w'.cell? ⟨w2.heap.size, 3, none⟩ = some (.string e.f1.f2) ∧ w'.cell? ⟨w2.heap.size, 4, none⟩ = some (.string e.f2) ∧ w'.cell? ⟨w2.heap.size, 5, none⟩ = some (.slice A e.f3.length n)) (ds := [8]) #[false, false, false, false, false, false, false, false, false] (by kernel_rfl) rfl rfl ⟨b5c0, b5c1, b5c2, b5c3, b5c4, b5c5⟩ (fun hHeld => ?_)
                      refine pure_ (i := 0) (N := some 36) (v := ?_) (a' := ?_) #[true, false, false, false, false, false, false, false, false] rfl rfl (by kernel_rfl) (fun _ _ _ h => h) (Or.inl ⟨by rfl, ?_⟩) ?_ ?_
                      rotate_left
                      · intro w'
                        go_simp
                        with_reducible rfl
                      rotate_left
                      · simp only [Act.put, List.setIfInBounds_toArray, List.set_cons_zero, List.set_cons_succ, i64_w, i32_w]
                        rfl
                      refine take_ (i := 1) (N := some 37) (v := ?_) (a' := ?_) #[true, true, false, false, false, false, false, false, false] rfl rfl (by kernel_rfl) (fun _ _ _ h => h) (Or.inl ⟨by rfl, ?_⟩) hHeld ?_ ?_
                      rotate_left
                      · rintro w' ⟨s0, s1, s2, s3, s4, s5⟩
                        go_simp
                        with_reducible rfl
                      rotate_left
                      · simp only [Act.put, List.setIfInBounds_toArray, List.set_cons_zero, List.set_cons_succ, i64_w, i32_w]
                        rfl
                      refine pure_ (i := 2) (N := some 38) (v := ?_) (a' := ?_) #[true, true, true, false, false, false, false, false, false] rfl rfl (by kernel_rfl) (fun _ _ _ h => h) (Or.inl ⟨by rfl, ?_⟩) ?_ ?_
                      rotate_left
                      · intro w'
                        go_simp
                        with_reducible rfl
                      rotate_left
                      · simp only [Act.put, List.setIfInBounds_toArray, List.set_cons_zero, List.set_cons_succ, i64_w, i32_w]
                        rfl
                      refine pure_ (i := 3) (N := some 39) (v := ?_) (a' := ?_) #[true, true, true, true, false, false, false, false, false] rfl rfl (by kernel_rfl) (fun _ _ _ h => h) (Or.inl ⟨by rfl, ?_⟩) ?_ ?_
                      rotate_left
                      · intro w'
                        go_simp
                        with_reducible rfl
                      rotate_left
                      · simp only [Act.put, List.setIfInBounds_toArray, List.set_cons_zero, List.set_cons_succ, i64_w, i32_w]
                        rfl
                      refine pure_ (i := 4) (N := some 40) (v := ?_) (a' := ?_) #[true, true, true, true, true, false, false, false, false] rfl rfl (by kernel_rfl) (fun _ _ _ h => h) (Or.inl ⟨by rfl, ?_⟩) ?_ ?_
                      rotate_left
                      · intro w'
                        go_simp
                        with_reducible rfl
                      rotate_left
                      · simp only [Act.put, List.setIfInBounds_toArray, List.set_cons_zero, List.set_cons_succ, i64_w, i32_w]
                        rfl
                      refine one_ (i := 5) (N := some 41) #[true, true, true, true, true, true, false, false, false] rfl rfl (by kernel_rfl) (by decide) (fun K hK => ?_)
                      refine goesP_ Tryz.func358 (by kernel_rfl) rfl #[.pointer (some ⟨g, 0, none⟩), .int .i64 (wrap64 (b + 1))] (by rfl) rfl (by (try simp only [List.map_toArray, List.map_cons, List.map_nil]); first | done | rfl) (ch := failedV) ?_
                      refine (HC.out w5.drew (HQ5.out.below (below_drew1 (Below.refl _ _)))).mono ?_
                      intro e w7 ho
                      obtain ⟨hg, rfl⟩ := ho.none HX.out
                      exact ⟨rfl, ⟨rfl, Out.of_none HM.out.symm ((HG5.out.step (below_drew1 (Below.refl _ _))).trans hg)⟩⟩
                      
                    | some p =>
                      obtain ⟨x, r6⟩ := p
                      rw [hx] at hm
                      have HM := Aside0.mk hm
                      have HX := Aside0.mk hx
                      clear hm hx
                      go_wp2_with (first | (go_at_call 327; refine (peek_calls HQ.out).mono ?_; rintro e w3 ⟨rfl, hb⟩; rw [HS.out]; have hg := Gr.of_below (g := g) hb; have hs3 := hb.size; have BK3 := Aside0.mk (hg.blk BK.out (by omega)); have BR3 := Aside0.mk (hg.blk BR.out (by omega)); have HE3 := Aside0.mk (hg.F HE.out (fun q hq => by omega)); have HQ3 := Aside0.mk (HQ.out.below hb); have HG3 := Aside0.mk (HG.out.trans hg); clear hg hb) | (go_at_call 102; refine (parse_binds.calls 3 _ _ _ BI.out).mono ?_; rintro e w4 ⟨rfl, ⟨nd, rfl⟩⟩) | (go_at_call 258; refine (next_out (HQ3.out.drewN _)).mono ?_; intro e w5 ho; obtain ⟨hg, v, rfl, rfl, hp⟩ := ho.some HN5.out; have hg3 := ((Gr.refl g w3).drewN nd).trans hg; have hs5 := hg3.size; have BK5 := Aside0.mk (hg3.blk BK3.out (by omega)); have BR5 := Aside0.mk (hg3.blk BR3.out (by omega)); have HE5 := Aside0.mk (hg3.F HE3.out (fun q hq => by omega)); have b5c0 : w5.cell? ⟨w2.heap.size, 0, none⟩ = some (.string e.f0) := (blk_cell BK5.out 0).trans rfl; have b5c1 : w5.cell? ⟨w2.heap.size, 1, none⟩ = some (.int .i64 e.f1.f0) := (blk_cell BK5.out 1).trans rfl; have b5c2 : w5.cell? ⟨w2.heap.size, 2, none⟩ = some (.int .i64 e.f1.f1) := (blk_cell BK5.out 2).trans rfl; have b5c3 : w5.cell? ⟨w2.heap.size, 3, none⟩ = some (.string e.f1.f2) := (blk_cell BK5.out 3).trans rfl; have b5c4 : w5.cell? ⟨w2.heap.size, 4, none⟩ = some (.string e.f2) := (blk_cell BK5.out 4).trans rfl; have b5c5 : w5.cell? ⟨w2.heap.size, 5, none⟩ = some (.slice A e.f3.length n) := (blk_cell BK5.out 5).trans rfl; have b5z0 := blk_frozen BK5.out 0; have b5z1 := blk_frozen BK5.out 1; have b5z2 := blk_frozen BK5.out 2; have b5z3 := blk_frozen BK5.out 3; have b5z4 := blk_frozen BK5.out 4; have b5z5 := blk_frozen BK5.out 5; have HQ5 := Aside0.mk hp; have HG5 := Aside0.mk (HG3.out.trans hg3); clear hg hg3 ho hp))
                      refine start_ (n := 9) (S := fun w' => w'.cell? ⟨w2.heap.size, 0, none⟩ = some (.string e.f0) ∧ w'.cell? ⟨w2.heap.size, 1, none⟩ = some (.int .i64 e.f1.f0) ∧ w'.cell? ⟨w2.heap.size, 2, none⟩ = some (.int .i64 e.f1.f1) ∧ w'.cell? ⟨w2.heap.size, 3, none⟩ = some (.string e.f1.f2) ∧ w'.cell? ⟨w2.heap.size, 4, none⟩ = some (.string e.f2) ∧ w'.cell? ⟨w2.heap.size, 5, none⟩ = some (.slice A e.f3.length n)) (ds := [8]) #[false, false, false, false, false, false, false, false, false] (by kernel_rfl) rfl rfl ⟨b5c0, b5c1, b5c2, b5c3, b5c4, b5c5⟩ (fun hHeld => ?_)
                      refine pure_ (i := 0) (N := some 36) (v := ?_) (a' := ?_) #[true, false, false, false, false, false, false, false, false] rfl rfl (by kernel_rfl) (fun _ _ _ h => h) (Or.inl ⟨by rfl, ?_⟩) ?_ ?_
                      rotate_left
                      · intro w'
                        go_simp
                        with_reducible rfl
                      rotate_left
                      · simp only [Act.put, List.setIfInBounds_toArray, List.set_cons_zero, List.set_cons_succ, i64_w, i32_w]
                        rfl
                      refine take_ (i := 1) (N := some 37) (v := ?_) (a' := ?_) #[true, true, false, false, false, false, false, false, false] rfl rfl (by kernel_rfl) (fun _ _ _ h => h) (Or.inl ⟨by rfl, ?_⟩) hHeld ?_ ?_
                      rotate_left
                      · rintro w' ⟨s0, s1, s2, s3, s4, s5⟩
                        go_simp
                        with_reducible rfl
                      rotate_left
                      · simp only [Act.put, List.setIfInBounds_toArray, List.set_cons_zero, List.set_cons_succ, i64_w, i32_w]
                        rfl
                      refine pure_ (i := 2) (N := some 38) (v := ?_) (a' := ?_) #[true, true, true, false, false, false, false, false, false] rfl rfl (by kernel_rfl) (fun _ _ _ h => h) (Or.inl ⟨by rfl, ?_⟩) ?_ ?_
                      rotate_left
                      · intro w'
                        go_simp
                        with_reducible rfl
                      rotate_left
                      · simp only [Act.put, List.setIfInBounds_toArray, List.set_cons_zero, List.set_cons_succ, i64_w, i32_w]
                        rfl
                      refine pure_ (i := 3) (N := some 39) (v := ?_) (a' := ?_) #[true, true, true, true, false, false, false, false, false] rfl rfl (by kernel_rfl) (fun _ _ _ h => h) (Or.inl ⟨by rfl, ?_⟩) ?_ ?_
                      rotate_left
                      · intro w'
                        go_simp
                        with_reducible rfl
                      rotate_left
                      · simp only [Act.put, List.setIfInBounds_toArray, List.set_cons_zero, List.set_cons_succ, i64_w, i32_w]
                        rfl
                      refine pure_ (i := 4) (N := some 40) (v := ?_) (a' := ?_) #[true, true, true, true, true, false, false, false, false] rfl rfl (by kernel_rfl) (fun _ _ _ h => h) (Or.inl ⟨by rfl, ?_⟩) ?_ ?_
                      rotate_left
                      · intro w'
                        go_simp
                        with_reducible rfl
                      rotate_left
                      · simp only [Act.put, List.setIfInBounds_toArray, List.set_cons_zero, List.set_cons_succ, i64_w, i32_w]
                        rfl
                      refine one_ (i := 5) (N := some 41) #[true, true, true, true, true, true, false, false, false] rfl rfl (by kernel_rfl) (by decide) (fun K hK => ?_)
                      refine goes_ Tryz.func358 (by kernel_rfl) rfl #[.pointer (some ⟨g, 0, none⟩), .int .i64 (wrap64 (b + 1))] (by rfl) rfl rfl (by (try simp only [List.map_toArray, List.map_cons, List.map_nil]); first | done | rfl) ?_
                      refine (HC.out w5.drew (HQ5.out.below (below_drew1 (Below.refl _ _)))).mono ?_
                      intro e7 w7 ho
                      obtain ⟨hg, v, rfl, hv, hp⟩ := ho.some HX.out
                      obtain ⟨Ax, nx, rfl, hnx, hfx⟩ := hv
                      refine ⟨_, rfl, ?_⟩
                      have hg5 := ((Gr.refl g w5).step (below_drew1 (Below.refl _ _))).trans hg
                      have hs7 := hg5.size
                      have BK7 := Aside0.mk (hg5.blk BK5.out (by omega))
                      have BR7 := Aside0.mk (hg5.blk BR5.out (by omega))
                      have HE7 := Aside0.mk (hg5.F HE5.out (fun q hq => by omega))
                      have b7c0 : w7.cell? ⟨w2.heap.size, 0, none⟩ = some (.string e.f0) := (blk_cell BK7.out 0).trans rfl
                      have b7c1 : w7.cell? ⟨w2.heap.size, 1, none⟩ = some (.int .i64 e.f1.f0) := (blk_cell BK7.out 1).trans rfl
                      have b7c2 : w7.cell? ⟨w2.heap.size, 2, none⟩ = some (.int .i64 e.f1.f1) := (blk_cell BK7.out 2).trans rfl
                      have b7c3 : w7.cell? ⟨w2.heap.size, 3, none⟩ = some (.string e.f1.f2) := (blk_cell BK7.out 3).trans rfl
                      have b7c4 : w7.cell? ⟨w2.heap.size, 4, none⟩ = some (.string e.f2) := (blk_cell BK7.out 4).trans rfl
                      have b7c5 : w7.cell? ⟨w2.heap.size, 5, none⟩ = some (.slice A e.f3.length n) := (blk_cell BK7.out 5).trans rfl
                      have b7z0 := blk_frozen BK7.out 0
                      have b7z1 := blk_frozen BK7.out 1
                      have b7z2 := blk_frozen BK7.out 2
                      have b7z3 := blk_frozen BK7.out 3
                      have b7z4 := blk_frozen BK7.out 4
                      have b7z5 := blk_frozen BK7.out 5
                      have HQ7 := Aside0.mk hp
                      have HG7 := Aside0.mk (HG5.out.trans hg5)
                      have HNX := Aside0.mk hnx
                      have HFX := Aside0.mk (Kd.F_mono hfx (ok' := fun q => w.heap.size < q ∧ q ≠ w2.heap.size) (fun q hq => by have h1 : w5.heap.size ≤ q := hq; exact ⟨by omega, by omega⟩))
                      clear hg hg5 ho hp hnx hfx
                      refine hK.out _ _ ⟨b7c0, b7c1, b7c2, b7c3, b7c4, b7c5⟩ (fun hHeld => ?_)
                      clear hK K
                      refine norm_ (a' := ?_) ?_ ?_
                      rotate_left
                      · show Act.put _ (some 41) _ = _
                        simp only [Act.put, List.setIfInBounds_toArray, List.set_cons_zero, List.set_cons_succ, i64_w, i32_w]
                        rfl
                      refine one_ (i := 6) (N := some 42) #[true, true, true, true, true, true, true, false, false] rfl rfl (by kernel_rfl) (by decide) (fun K hK => ?_)
                      refine value_ (v := .slice (some ⟨w7.heap.size, 0, none⟩) 2 2) (w1 := w7.alloc (.cells (cells43 e A n ++ cells43 x Ax nx).toArray 43)) (by rfl) rfl ?_ ?_
                      · unfold cells43
                        go_simp
                      refine hK.out _ _ ⟨blkc_alloc BK7.out 0 rfl, blkc_alloc BK7.out 1 rfl, blkc_alloc BK7.out 2 rfl, blkc_alloc BK7.out 3 rfl, blkc_alloc BK7.out 4 rfl, blkc_alloc BK7.out 5 rfl⟩ (fun hHeld => ?_)
                      clear hK K
                      refine norm_ (a' := ?_) ?_ ?_
                      rotate_left
                      · show Act.put _ (some 42) _ = _
                        simp only [Act.put, List.setIfInBounds_toArray, List.set_cons_zero, List.set_cons_succ, i64_w, i32_w]
                        rfl
                      refine one_ (i := 7) (N := some 43) #[true, true, true, true, true, true, true, true, false] rfl rfl (by kernel_rfl) (by decide) (fun K hK => ?_)
                      refine goes_ Tryz.func369 (by kernel_rfl) rfl #[.string s, .slice (some ⟨w7.heap.size, 0, none⟩) 2 2] (by rfl) rfl rfl (by (try simp only [List.map_toArray, List.map_cons, List.map_nil]); first | done | rfl) ?_
                      refine (op_calls _ _ _ _ _).mono ?_
                      rintro e8 w8 ⟨rfl, o8, rfl⟩
                      refine ⟨_, rfl, ?_⟩
                      refine hK.out _ _ ⟨blkc_alloc (blk_alloc BK7.out _) 0 rfl, blkc_alloc (blk_alloc BK7.out _) 1 rfl, blkc_alloc (blk_alloc BK7.out _) 2 rfl, blkc_alloc (blk_alloc BK7.out _) 3 rfl, blkc_alloc (blk_alloc BK7.out _) 4 rfl, blkc_alloc (blk_alloc BK7.out _) 5 rfl⟩ (fun hHeld => ?_)
                      clear hK K
                      refine norm_ (a' := ?_) ?_ ?_
                      rotate_left
                      · show Act.put _ (some 43) _ = _
                        simp only [Act.put, List.setIfInBounds_toArray, List.set_cons_zero, List.set_cons_succ, i64_w, i32_w]
                        rfl
                      refine last_ (i := 8) (N := none) #[true, true, true, true, true, true, true, true, true] rfl rfl (by kernel_rfl) (by decide) (fun K hK => ?_)
                      have hb7 : w2.heap.size < w7.heap.size := blk_lt BK7.out
                      refine skip_ (w1 := ((((((((w7.alloc (.cells (cells43 e A n ++ cells43 x Ax nx).toArray 43)).alloc o8).setCell ⟨w2.heap.size, 0, none⟩ (.string s)).setCell ⟨w2.heap.size, 1, none⟩ (.int .i64 0)).setCell ⟨w2.heap.size, 2, none⟩ (.int .i64 0)).setCell ⟨w2.heap.size, 3, none⟩ (.string ⟨#[]⟩)).setCell ⟨w2.heap.size, 4, none⟩ (.string ⟨#[]⟩)).setCell ⟨w2.heap.size, 5, none⟩ (.slice (some ⟨w7.heap.size, 0, none⟩) 2 2))) (by rfl) rfl ?_ ?_
                      · unfold cells43
                        go_simp
                      refine hK.out _ _ ?_
                      clear hK K
                      refine done_ (by kernel_rfl) ?_
                      go_wp2
                      go_roundg j
                      case measure => have := HL.out; omega
                      case rel =>
                        refine ⟨Ps.op s [e, x], some ⟨w7.heap.size, 0, none⟩, 2, r6, HM, ⟨by have := HL.out; have := (Ps.nx_len HN5.out).1; have := Ps.expr_len HX.out; omega⟩, ⟨by have := HK.out; omega⟩, ⟨blk_put6 (blk_alloc (blk_alloc BK7.out _) _)⟩, ?_, ⟨Nat.le_refl _⟩, ?_, ?_, ?_⟩
                        · exact ⟨by with_reducible (repeat (first | exact blk_alloc (blk_alloc BR7.out _) _ | refine blk_setNe ?_ (by omega) _ _))⟩
                        · refine ⟨F_two (x := e) (y := x) (A := A) (c := n) (A' := Ax) (c' := nx) ?_ ⟨by omega, by omega⟩ HN.out ?_ HNX.out ?_⟩
                          · with_reducible (repeat (first | exact blk_alloc (new_blk _ rfl) _ | refine blk_setNe ?_ (by omega) _ _))
                          · with_reducible (repeat (first | exact Kd.F_alloc (Kd.F_alloc HE7.out _) _ | refine Kd.F_far ?_ (fun q hq => hq.2) _))
                          · with_reducible (repeat (first | exact Kd.F_alloc (Kd.F_alloc HFX.out _) _ | refine Kd.F_far ?_ (fun q hq => hq.2) _))
                        · exact ⟨by with_reducible (repeat (first | exact (HQ7.out.alloc _).alloc _ | refine PS.setB ?_ (by omega) (by omega) _ _))⟩
                        · exact ⟨by with_reducible (repeat (first | exact (HG7.out.alloc _).alloc _ | refine Gr.setB ?_ (by omega) _ _))⟩
                      
                    
                
end Go.Proofs.YtcgdncpioafbdaaGreatDoor.Q

/- The parser: first (under expr's contract with less rounds); both, by induction on the rounds. -/
import Derived.Test.YtcgdncpioafbdaaGreatDoorPe
namespace Go.Proofs.YtcgdncpioafbdaaGreatDoor.Q
open Go Go.RowKit Go.Proofs.YtcgdncpioafbdaaGreatDoorW.PrintWords

set_option maxHeartbeats 4000000 in
set_option maxRecDepth 100000 in
theorem first_step (k : Nat) (ihE : ExprAt k) : FirstAt (k + 1) := by
  intro w0 g ts w hps hk
  have HP := Aside0.mk hps
  clear hps
  have hlt := HP.out.lt
  have hlow := HP.out.low
  cases hn : Ps.nx ts with
  | none =>
    have HN := Aside0.mk hn
    have HM := Aside0.mk (show Ps.first (k + 1) ts = none by simp only [Ps.first]; rw [hn])
    clear hn
    go_enter Tryz.func368, Tryz.ntmps368
    go_wp2_with (first | (go_at_call 258; refine (next_out (HP.out.alloc _)).mono ?_; intro e w1 ho; obtain ⟨hg, rfl⟩ := ho.none HN.out; have HG1 := Aside0.mk (((Gr.refl g w).alloc _).trans hg); clear hg ho))
    exact ⟨rfl, Out.of_none HM.out HG1.out⟩
  | some p =>
    obtain ⟨t, r⟩ := p
    have HN := Aside0.mk hn
    obtain ⟨R, hR⟩ : ∃ R, Ps.first (k + 1) ts = R := ⟨_, rfl⟩
    have hm := hR
    simp only [Ps.first] at hm
    rw [hn] at hm
    simp only at hm
    rw [← hR] at hm
    replace hm := hm.symm
    clear hR hn
    by_cases k2 : t.f0 = 2
    · rw [if_pos k2] at hm
      have b2 : (t.f0 == 2) = true := beq_iff_eq.mpr k2
      clear k2
      have HM := Aside0.mk hm
      clear hm
      go_enter Tryz.func368, Tryz.ntmps368
      go_wp2_with (first | (go_at_call 258; refine (next_out (HP.out.alloc _)).mono ?_; intro e w1 ho; obtain ⟨hg, v, rfl, rfl, hp⟩ := ho.some HN.out; have BR1 := Aside0.mk (hg.blk (new_blk (W := w) _ rfl) (by omega)); have hs1 : w.heap.size < w1.heap.size := blk_lt BR1.out; have r1c0 : w1.cell? ⟨w.heap.size, 0, none⟩ = some (.string ⟨#[]⟩) := (blk_cell BR1.out 0).trans rfl; have r1c1 : w1.cell? ⟨w.heap.size, 1, none⟩ = some (.int .i64 0) := (blk_cell BR1.out 1).trans rfl; have r1c2 : w1.cell? ⟨w.heap.size, 2, none⟩ = some (.int .i64 0) := (blk_cell BR1.out 2).trans rfl; have r1c3 : w1.cell? ⟨w.heap.size, 3, none⟩ = some (.string ⟨#[]⟩) := (blk_cell BR1.out 3).trans rfl; have r1c4 : w1.cell? ⟨w.heap.size, 4, none⟩ = some (.string ⟨#[]⟩) := (blk_cell BR1.out 4).trans rfl; have r1c5 : w1.cell? ⟨w.heap.size, 5, none⟩ = some (.slice none 0 0) := (blk_cell BR1.out 5).trans rfl; have r1z0 := blk_frozen BR1.out 0; have r1z1 := blk_frozen BR1.out 1; have r1z2 := blk_frozen BR1.out 2; have r1z3 := blk_frozen BR1.out 3; have r1z4 := blk_frozen BR1.out 4; have r1z5 := blk_frozen BR1.out 5; have HQ1 := Aside0.mk hp; have HG1 := Aside0.mk (((Gr.refl g w).alloc _).trans hg); clear hg ho hp) | (go_at_call 370; refine (val_below _ _ _ _).mono ?_; rintro e8 w8 ⟨rfl, hb⟩; have hg := Gr.of_below (g := g) hb; have BR8 := Aside0.mk (hg.blk (blk_alloc BR1.out _) (by omega)); have hs8 : w.heap.size < w8.heap.size := blk_lt BR8.out; have r8c0 : w8.cell? ⟨w.heap.size, 0, none⟩ = some (.string ⟨#[]⟩) := (blk_cell BR8.out 0).trans rfl; have r8c1 : w8.cell? ⟨w.heap.size, 1, none⟩ = some (.int .i64 0) := (blk_cell BR8.out 1).trans rfl; have r8c2 : w8.cell? ⟨w.heap.size, 2, none⟩ = some (.int .i64 0) := (blk_cell BR8.out 2).trans rfl; have r8c3 : w8.cell? ⟨w.heap.size, 3, none⟩ = some (.string ⟨#[]⟩) := (blk_cell BR8.out 3).trans rfl; have r8c4 : w8.cell? ⟨w.heap.size, 4, none⟩ = some (.string ⟨#[]⟩) := (blk_cell BR8.out 4).trans rfl; have r8c5 : w8.cell? ⟨w.heap.size, 5, none⟩ = some (.slice none 0 0) := (blk_cell BR8.out 5).trans rfl; have r8z0 := blk_frozen BR8.out 0; have r8z1 := blk_frozen BR8.out 1; have r8z2 := blk_frozen BR8.out 2; have r8z3 := blk_frozen BR8.out 3; have r8z4 := blk_frozen BR8.out 4; have r8z5 := blk_frozen BR8.out 5; have HQ8 := Aside0.mk ((HQ1.out.alloc _).below hb); have HG8 := Aside0.mk ((HG1.out.alloc _).trans hg); clear hg hb))
      refine bodyPost_ret (v := .agg (cells43 (Ps.val ⟨1, t.f2, ⟨#[]⟩⟩) (none) 0).toArray) ?_ rfl ?_
      · simp [results, Tryz.results368, go_sem, cells43, r8c0, r8z0, r8c1, r8z1, r8c2, r8z2, r8c3, r8z3, r8c4, r8z4, r8c5, r8z5, hs8, Ps.val] <;> exact ⟨rfl, rfl, rfl, rfl, rfl, rfl⟩
      · refine Out.of_some HM.out ?_ ⟨none, 0, rfl, Nat.le_refl _, ?_⟩ ?_
        · with_reducible (repeat (first | exact HG8.out | refine Gr.setB ?_ (Nat.le_refl _) _ _ | apply Gr.alloc | apply Gr.drewN))
        · exact Kd.F_nil _ _ _
        · with_reducible (repeat (first | exact HQ8.out | refine PS.setB ?_ (by omega) (by omega) _ _ | apply PS.alloc | apply PS.drewN))
    · rw [if_neg k2] at hm
      have b2 : (t.f0 == 2) = false := beq_eq_false_iff_ne.mpr k2
      clear k2
      by_cases k3 : t.f0 = 3
      · rw [if_pos k3] at hm
        have b3 : (t.f0 == 3) = true := beq_iff_eq.mpr k3
        clear k3
        have HM := Aside0.mk hm
        clear hm
        go_enter Tryz.func368, Tryz.ntmps368
        go_wp2_with (first | (go_at_call 258; refine (next_out (HP.out.alloc _)).mono ?_; intro e w1 ho; obtain ⟨hg, v, rfl, rfl, hp⟩ := ho.some HN.out; have BR1 := Aside0.mk (hg.blk (new_blk (W := w) _ rfl) (by omega)); have hs1 : w.heap.size < w1.heap.size := blk_lt BR1.out; have r1c0 : w1.cell? ⟨w.heap.size, 0, none⟩ = some (.string ⟨#[]⟩) := (blk_cell BR1.out 0).trans rfl; have r1c1 : w1.cell? ⟨w.heap.size, 1, none⟩ = some (.int .i64 0) := (blk_cell BR1.out 1).trans rfl; have r1c2 : w1.cell? ⟨w.heap.size, 2, none⟩ = some (.int .i64 0) := (blk_cell BR1.out 2).trans rfl; have r1c3 : w1.cell? ⟨w.heap.size, 3, none⟩ = some (.string ⟨#[]⟩) := (blk_cell BR1.out 3).trans rfl; have r1c4 : w1.cell? ⟨w.heap.size, 4, none⟩ = some (.string ⟨#[]⟩) := (blk_cell BR1.out 4).trans rfl; have r1c5 : w1.cell? ⟨w.heap.size, 5, none⟩ = some (.slice none 0 0) := (blk_cell BR1.out 5).trans rfl; have r1z0 := blk_frozen BR1.out 0; have r1z1 := blk_frozen BR1.out 1; have r1z2 := blk_frozen BR1.out 2; have r1z3 := blk_frozen BR1.out 3; have r1z4 := blk_frozen BR1.out 4; have r1z5 := blk_frozen BR1.out 5; have HQ1 := Aside0.mk hp; have HG1 := Aside0.mk (((Gr.refl g w).alloc _).trans hg); clear hg ho hp) | (go_at_call 370; refine (val_below _ _ _ _).mono ?_; rintro e8 w8 ⟨rfl, hb⟩; have hg := Gr.of_below (g := g) hb; have BR8 := Aside0.mk (hg.blk (blk_alloc BR1.out _) (by omega)); have hs8 : w.heap.size < w8.heap.size := blk_lt BR8.out; have r8c0 : w8.cell? ⟨w.heap.size, 0, none⟩ = some (.string ⟨#[]⟩) := (blk_cell BR8.out 0).trans rfl; have r8c1 : w8.cell? ⟨w.heap.size, 1, none⟩ = some (.int .i64 0) := (blk_cell BR8.out 1).trans rfl; have r8c2 : w8.cell? ⟨w.heap.size, 2, none⟩ = some (.int .i64 0) := (blk_cell BR8.out 2).trans rfl; have r8c3 : w8.cell? ⟨w.heap.size, 3, none⟩ = some (.string ⟨#[]⟩) := (blk_cell BR8.out 3).trans rfl; have r8c4 : w8.cell? ⟨w.heap.size, 4, none⟩ = some (.string ⟨#[]⟩) := (blk_cell BR8.out 4).trans rfl; have r8c5 : w8.cell? ⟨w.heap.size, 5, none⟩ = some (.slice none 0 0) := (blk_cell BR8.out 5).trans rfl; have r8z0 := blk_frozen BR8.out 0; have r8z1 := blk_frozen BR8.out 1; have r8z2 := blk_frozen BR8.out 2; have r8z3 := blk_frozen BR8.out 3; have r8z4 := blk_frozen BR8.out 4; have r8z5 := blk_frozen BR8.out 5; have HQ8 := Aside0.mk ((HQ1.out.alloc _).below hb); have HG8 := Aside0.mk ((HG1.out.alloc _).trans hg); clear hg hb))
        refine bodyPost_ret (v := .agg (cells43 (Ps.val ⟨2, 0, t.f1⟩) (none) 0).toArray) ?_ rfl ?_
        · simp [results, Tryz.results368, go_sem, cells43, r8c0, r8z0, r8c1, r8z1, r8c2, r8z2, r8c3, r8z3, r8c4, r8z4, r8c5, r8z5, hs8, Ps.val] <;> exact ⟨rfl, rfl, rfl, rfl, rfl, rfl⟩
        · refine Out.of_some HM.out ?_ ⟨none, 0, rfl, Nat.le_refl _, ?_⟩ ?_
          · with_reducible (repeat (first | exact HG8.out | refine Gr.setB ?_ (Nat.le_refl _) _ _ | apply Gr.alloc | apply Gr.drewN))
          · exact Kd.F_nil _ _ _
          · with_reducible (repeat (first | exact HQ8.out | refine PS.setB ?_ (by omega) (by omega) _ _ | apply PS.alloc | apply PS.drewN))
      · rw [if_neg k3] at hm
        have b3 : (t.f0 == 3) = false := beq_eq_false_iff_ne.mpr k3
        clear k3
        by_cases m0 : t.f1.toList = Ps.sNot.toList
        · rw [if_pos m0] at hm
          rw [wNot] at m0
          have q0 : (t.f1.toList == [110, 111, 116]) = true := beq_iff_eq.mpr m0
          clear m0
          cases hx : Ps.expr k 3 r with
          | none =>
            rw [hx] at hm
            have HX := Aside0.mk hx
            clear hx
            have HM := Aside0.mk hm
            clear hm
            go_enter Tryz.func368, Tryz.ntmps368
            go_wp2_with (first | (go_at_call 258; refine (next_out (HP.out.alloc _)).mono ?_; intro e w1 ho; obtain ⟨hg, v, rfl, rfl, hp⟩ := ho.some HN.out; have BR1 := Aside0.mk (hg.blk (new_blk (W := w) _ rfl) (by omega)); have hs1 : w.heap.size < w1.heap.size := blk_lt BR1.out; have r1c0 : w1.cell? ⟨w.heap.size, 0, none⟩ = some (.string ⟨#[]⟩) := (blk_cell BR1.out 0).trans rfl; have r1c1 : w1.cell? ⟨w.heap.size, 1, none⟩ = some (.int .i64 0) := (blk_cell BR1.out 1).trans rfl; have r1c2 : w1.cell? ⟨w.heap.size, 2, none⟩ = some (.int .i64 0) := (blk_cell BR1.out 2).trans rfl; have r1c3 : w1.cell? ⟨w.heap.size, 3, none⟩ = some (.string ⟨#[]⟩) := (blk_cell BR1.out 3).trans rfl; have r1c4 : w1.cell? ⟨w.heap.size, 4, none⟩ = some (.string ⟨#[]⟩) := (blk_cell BR1.out 4).trans rfl; have r1c5 : w1.cell? ⟨w.heap.size, 5, none⟩ = some (.slice none 0 0) := (blk_cell BR1.out 5).trans rfl; have r1z0 := blk_frozen BR1.out 0; have r1z1 := blk_frozen BR1.out 1; have r1z2 := blk_frozen BR1.out 2; have r1z3 := blk_frozen BR1.out 3; have r1z4 := blk_frozen BR1.out 4; have r1z5 := blk_frozen BR1.out 5; have HQ1 := Aside0.mk hp; have HG1 := Aside0.mk (((Gr.refl g w).alloc _).trans hg); clear hg ho hp) | (go_at_call 358; refine (ihE w0 g r _ 3 (HQ1.out.alloc _) (by have := (Ps.nx_len HN.out).1; omega)).mono ?_; intro e w2 ho; obtain ⟨hg, rfl⟩ := ho.none HX.out; have HG2 := Aside0.mk ((HG1.out.alloc _).trans hg); clear hg ho))
            exact ⟨rfl, Out.of_none HM.out HG2.out⟩
          | some p =>
            obtain ⟨e, r1⟩ := p
            rw [hx] at hm
            have HX := Aside0.mk hx
            clear hx
            have HM := Aside0.mk hm
            clear hm
            go_enter Tryz.func368, Tryz.ntmps368
            go_wp2_with (first | (go_at_call 258; refine (next_out (HP.out.alloc _)).mono ?_; intro e w1 ho; obtain ⟨hg, v, rfl, rfl, hp⟩ := ho.some HN.out; have BR1 := Aside0.mk (hg.blk (new_blk (W := w) _ rfl) (by omega)); have hs1 : w.heap.size < w1.heap.size := blk_lt BR1.out; have r1c0 : w1.cell? ⟨w.heap.size, 0, none⟩ = some (.string ⟨#[]⟩) := (blk_cell BR1.out 0).trans rfl; have r1c1 : w1.cell? ⟨w.heap.size, 1, none⟩ = some (.int .i64 0) := (blk_cell BR1.out 1).trans rfl; have r1c2 : w1.cell? ⟨w.heap.size, 2, none⟩ = some (.int .i64 0) := (blk_cell BR1.out 2).trans rfl; have r1c3 : w1.cell? ⟨w.heap.size, 3, none⟩ = some (.string ⟨#[]⟩) := (blk_cell BR1.out 3).trans rfl; have r1c4 : w1.cell? ⟨w.heap.size, 4, none⟩ = some (.string ⟨#[]⟩) := (blk_cell BR1.out 4).trans rfl; have r1c5 : w1.cell? ⟨w.heap.size, 5, none⟩ = some (.slice none 0 0) := (blk_cell BR1.out 5).trans rfl; have r1z0 := blk_frozen BR1.out 0; have r1z1 := blk_frozen BR1.out 1; have r1z2 := blk_frozen BR1.out 2; have r1z3 := blk_frozen BR1.out 3; have r1z4 := blk_frozen BR1.out 4; have r1z5 := blk_frozen BR1.out 5; have HQ1 := Aside0.mk hp; have HG1 := Aside0.mk (((Gr.refl g w).alloc _).trans hg); clear hg ho hp) | (go_at_call 358; refine (ihE w0 g r _ 3 (HQ1.out.alloc _) (by have := (Ps.nx_len HN.out).1; omega)).mono ?_; intro e9 w2 ho; obtain ⟨hg, v, rfl, hv, hp⟩ := ho.some HX.out; obtain ⟨Ax, nx, rfl, hnx, hfx⟩ := hv; have BR2 := Aside0.mk (hg.blk (blk_alloc BR1.out _) (by omega)); have hs2 : w.heap.size < w2.heap.size := blk_lt BR2.out; have r2c0 : w2.cell? ⟨w.heap.size, 0, none⟩ = some (.string ⟨#[]⟩) := (blk_cell BR2.out 0).trans rfl; have r2c1 : w2.cell? ⟨w.heap.size, 1, none⟩ = some (.int .i64 0) := (blk_cell BR2.out 1).trans rfl; have r2c2 : w2.cell? ⟨w.heap.size, 2, none⟩ = some (.int .i64 0) := (blk_cell BR2.out 2).trans rfl; have r2c3 : w2.cell? ⟨w.heap.size, 3, none⟩ = some (.string ⟨#[]⟩) := (blk_cell BR2.out 3).trans rfl; have r2c4 : w2.cell? ⟨w.heap.size, 4, none⟩ = some (.string ⟨#[]⟩) := (blk_cell BR2.out 4).trans rfl; have r2c5 : w2.cell? ⟨w.heap.size, 5, none⟩ = some (.slice none 0 0) := (blk_cell BR2.out 5).trans rfl; have r2z0 := blk_frozen BR2.out 0; have r2z1 := blk_frozen BR2.out 1; have r2z2 := blk_frozen BR2.out 2; have r2z3 := blk_frozen BR2.out 3; have r2z4 := blk_frozen BR2.out 4; have r2z5 := blk_frozen BR2.out 5; have HQ2 := Aside0.mk hp; have HG2 := Aside0.mk ((HG1.out.alloc _).trans hg); have HNX := Aside0.mk hnx; have HFX := Aside0.mk (Kd.F_mono hfx (ok' := fun q => w.heap.size < q) (fun q hq => by simp at hq; omega)); clear hg ho hp hnx hfx; unfold cells43) | (go_at_call 369; refine (op_calls _ _ _ _ _).mono ?_; rintro e8 w8 ⟨rfl, o8, rfl⟩))
            refine bodyPost_ret (v := .agg (cells43 (Ps.op Ps.sNot [e]) (some ⟨w2.heap.size, 0, none⟩) 1).toArray) ?_ rfl ?_
            · simp [results, Tryz.results368, go_sem, cells43, r2c0, r2z0, r2c1, r2z1, r2c2, r2z2, r2c3, r2z3, r2c4, r2z4, r2c5, r2z5, hs2] <;> exact ⟨rfl, rfl, rfl, rfl, rfl, rfl⟩
            · refine Out.of_some HM.out ?_ ⟨some ⟨w2.heap.size, 0, none⟩, 1, rfl, Nat.le_refl _, ?_⟩ ?_
              · with_reducible (repeat (first | exact HG2.out | refine Gr.setB ?_ (Nat.le_refl _) _ _ | apply Gr.alloc | apply Gr.drewN))
              · refine F_one (x := e) (A := Ax) (c := nx) ?_ (by omega) HNX.out ?_
                · exact blk_alloc (new_blk _ (by simp)) _
                · refine Kd.F_mono (ok := fun q => w.heap.size < q) ?_ (fun q hq => Nat.le_of_lt hq)
                  with_reducible (repeat (first | exact HFX.out | refine Kd.F_far ?_ (fun q hq => Nat.ne_of_gt hq) _ | apply Kd.F_alloc))
              · with_reducible (repeat (first | exact HQ2.out | refine PS.setB ?_ (by omega) (by omega) _ _ | apply PS.alloc | apply PS.drewN))
        · rw [if_neg m0] at hm
          rw [wNot] at m0
          have q0 : (t.f1.toList == [110, 111, 116]) = false := beq_eq_false_iff_ne.mpr m0
          clear m0
          by_cases m1 : t.f1.toList = Ps.sMinus.toList
          · rw [if_pos m1] at hm
            rw [wMinus] at m1
            have q1 : (t.f1.toList == [45]) = true := beq_iff_eq.mpr m1
            clear m1
            cases hx : Ps.expr k 7 r with
            | none =>
              rw [hx] at hm
              have HX := Aside0.mk hx
              clear hx
              have HM := Aside0.mk hm
              clear hm
              go_enter Tryz.func368, Tryz.ntmps368
              go_wp2_with (first | (go_at_call 258; refine (next_out (HP.out.alloc _)).mono ?_; intro e w1 ho; obtain ⟨hg, v, rfl, rfl, hp⟩ := ho.some HN.out; have BR1 := Aside0.mk (hg.blk (new_blk (W := w) _ rfl) (by omega)); have hs1 : w.heap.size < w1.heap.size := blk_lt BR1.out; have r1c0 : w1.cell? ⟨w.heap.size, 0, none⟩ = some (.string ⟨#[]⟩) := (blk_cell BR1.out 0).trans rfl; have r1c1 : w1.cell? ⟨w.heap.size, 1, none⟩ = some (.int .i64 0) := (blk_cell BR1.out 1).trans rfl; have r1c2 : w1.cell? ⟨w.heap.size, 2, none⟩ = some (.int .i64 0) := (blk_cell BR1.out 2).trans rfl; have r1c3 : w1.cell? ⟨w.heap.size, 3, none⟩ = some (.string ⟨#[]⟩) := (blk_cell BR1.out 3).trans rfl; have r1c4 : w1.cell? ⟨w.heap.size, 4, none⟩ = some (.string ⟨#[]⟩) := (blk_cell BR1.out 4).trans rfl; have r1c5 : w1.cell? ⟨w.heap.size, 5, none⟩ = some (.slice none 0 0) := (blk_cell BR1.out 5).trans rfl; have r1z0 := blk_frozen BR1.out 0; have r1z1 := blk_frozen BR1.out 1; have r1z2 := blk_frozen BR1.out 2; have r1z3 := blk_frozen BR1.out 3; have r1z4 := blk_frozen BR1.out 4; have r1z5 := blk_frozen BR1.out 5; have HQ1 := Aside0.mk hp; have HG1 := Aside0.mk (((Gr.refl g w).alloc _).trans hg); clear hg ho hp) | (go_at_call 358; refine (ihE w0 g r _ 7 (HQ1.out.alloc _) (by have := (Ps.nx_len HN.out).1; omega)).mono ?_; intro e w2 ho; obtain ⟨hg, rfl⟩ := ho.none HX.out; have HG2 := Aside0.mk ((HG1.out.alloc _).trans hg); clear hg ho))
              exact ⟨rfl, Out.of_none HM.out HG2.out⟩
            | some p =>
              obtain ⟨e, r1⟩ := p
              rw [hx] at hm
              have HX := Aside0.mk hx
              clear hx
              have HM := Aside0.mk hm
              clear hm
              go_enter Tryz.func368, Tryz.ntmps368
              go_wp2_with (first | (go_at_call 258; refine (next_out (HP.out.alloc _)).mono ?_; intro e w1 ho; obtain ⟨hg, v, rfl, rfl, hp⟩ := ho.some HN.out; have BR1 := Aside0.mk (hg.blk (new_blk (W := w) _ rfl) (by omega)); have hs1 : w.heap.size < w1.heap.size := blk_lt BR1.out; have r1c0 : w1.cell? ⟨w.heap.size, 0, none⟩ = some (.string ⟨#[]⟩) := (blk_cell BR1.out 0).trans rfl; have r1c1 : w1.cell? ⟨w.heap.size, 1, none⟩ = some (.int .i64 0) := (blk_cell BR1.out 1).trans rfl; have r1c2 : w1.cell? ⟨w.heap.size, 2, none⟩ = some (.int .i64 0) := (blk_cell BR1.out 2).trans rfl; have r1c3 : w1.cell? ⟨w.heap.size, 3, none⟩ = some (.string ⟨#[]⟩) := (blk_cell BR1.out 3).trans rfl; have r1c4 : w1.cell? ⟨w.heap.size, 4, none⟩ = some (.string ⟨#[]⟩) := (blk_cell BR1.out 4).trans rfl; have r1c5 : w1.cell? ⟨w.heap.size, 5, none⟩ = some (.slice none 0 0) := (blk_cell BR1.out 5).trans rfl; have r1z0 := blk_frozen BR1.out 0; have r1z1 := blk_frozen BR1.out 1; have r1z2 := blk_frozen BR1.out 2; have r1z3 := blk_frozen BR1.out 3; have r1z4 := blk_frozen BR1.out 4; have r1z5 := blk_frozen BR1.out 5; have HQ1 := Aside0.mk hp; have HG1 := Aside0.mk (((Gr.refl g w).alloc _).trans hg); clear hg ho hp) | (go_at_call 358; refine (ihE w0 g r _ 7 (HQ1.out.alloc _) (by have := (Ps.nx_len HN.out).1; omega)).mono ?_; intro e9 w2 ho; obtain ⟨hg, v, rfl, hv, hp⟩ := ho.some HX.out; obtain ⟨Ax, nx, rfl, hnx, hfx⟩ := hv; have BR2 := Aside0.mk (hg.blk (blk_alloc BR1.out _) (by omega)); have hs2 : w.heap.size < w2.heap.size := blk_lt BR2.out; have r2c0 : w2.cell? ⟨w.heap.size, 0, none⟩ = some (.string ⟨#[]⟩) := (blk_cell BR2.out 0).trans rfl; have r2c1 : w2.cell? ⟨w.heap.size, 1, none⟩ = some (.int .i64 0) := (blk_cell BR2.out 1).trans rfl; have r2c2 : w2.cell? ⟨w.heap.size, 2, none⟩ = some (.int .i64 0) := (blk_cell BR2.out 2).trans rfl; have r2c3 : w2.cell? ⟨w.heap.size, 3, none⟩ = some (.string ⟨#[]⟩) := (blk_cell BR2.out 3).trans rfl; have r2c4 : w2.cell? ⟨w.heap.size, 4, none⟩ = some (.string ⟨#[]⟩) := (blk_cell BR2.out 4).trans rfl; have r2c5 : w2.cell? ⟨w.heap.size, 5, none⟩ = some (.slice none 0 0) := (blk_cell BR2.out 5).trans rfl; have r2z0 := blk_frozen BR2.out 0; have r2z1 := blk_frozen BR2.out 1; have r2z2 := blk_frozen BR2.out 2; have r2z3 := blk_frozen BR2.out 3; have r2z4 := blk_frozen BR2.out 4; have r2z5 := blk_frozen BR2.out 5; have HQ2 := Aside0.mk hp; have HG2 := Aside0.mk ((HG1.out.alloc _).trans hg); have HNX := Aside0.mk hnx; have HFX := Aside0.mk (Kd.F_mono hfx (ok' := fun q => w.heap.size < q) (fun q hq => by simp at hq; omega)); clear hg ho hp hnx hfx; unfold cells43) | (go_at_call 369; refine (op_calls _ _ _ _ _).mono ?_; rintro e8 w8 ⟨rfl, o8, rfl⟩))
              refine bodyPost_ret (v := .agg (cells43 (Ps.op Ps.sNeg [e]) (some ⟨w2.heap.size, 0, none⟩) 1).toArray) ?_ rfl ?_
              · simp [results, Tryz.results368, go_sem, cells43, r2c0, r2z0, r2c1, r2z1, r2c2, r2z2, r2c3, r2z3, r2c4, r2z4, r2c5, r2z5, hs2] <;> exact ⟨rfl, rfl, rfl, rfl, rfl, rfl⟩
              · refine Out.of_some HM.out ?_ ⟨some ⟨w2.heap.size, 0, none⟩, 1, rfl, Nat.le_refl _, ?_⟩ ?_
                · with_reducible (repeat (first | exact HG2.out | refine Gr.setB ?_ (Nat.le_refl _) _ _ | apply Gr.alloc | apply Gr.drewN))
                · refine F_one (x := e) (A := Ax) (c := nx) ?_ (by omega) HNX.out ?_
                  · exact blk_alloc (new_blk _ (by simp)) _
                  · refine Kd.F_mono (ok := fun q => w.heap.size < q) ?_ (fun q hq => Nat.le_of_lt hq)
                    with_reducible (repeat (first | exact HFX.out | refine Kd.F_far ?_ (fun q hq => Nat.ne_of_gt hq) _ | apply Kd.F_alloc))
                · with_reducible (repeat (first | exact HQ2.out | refine PS.setB ?_ (by omega) (by omega) _ _ | apply PS.alloc | apply PS.drewN))
          · rw [if_neg m1] at hm
            rw [wMinus] at m1
            have q1 : (t.f1.toList == [45]) = false := beq_eq_false_iff_ne.mpr m1
            clear m1
            by_cases m2 : t.f1.toList = Ps.sNull.toList
            · rw [if_pos m2] at hm
              rw [wNull] at m2
              have q2 : (t.f1.toList == [110, 117, 108, 108]) = true := beq_iff_eq.mpr m2
              clear m2
              have HM := Aside0.mk hm
              clear hm
              go_enter Tryz.func368, Tryz.ntmps368
              go_wp2_with (first | (go_at_call 258; refine (next_out (HP.out.alloc _)).mono ?_; intro e w1 ho; obtain ⟨hg, v, rfl, rfl, hp⟩ := ho.some HN.out; have BR1 := Aside0.mk (hg.blk (new_blk (W := w) _ rfl) (by omega)); have hs1 : w.heap.size < w1.heap.size := blk_lt BR1.out; have r1c0 : w1.cell? ⟨w.heap.size, 0, none⟩ = some (.string ⟨#[]⟩) := (blk_cell BR1.out 0).trans rfl; have r1c1 : w1.cell? ⟨w.heap.size, 1, none⟩ = some (.int .i64 0) := (blk_cell BR1.out 1).trans rfl; have r1c2 : w1.cell? ⟨w.heap.size, 2, none⟩ = some (.int .i64 0) := (blk_cell BR1.out 2).trans rfl; have r1c3 : w1.cell? ⟨w.heap.size, 3, none⟩ = some (.string ⟨#[]⟩) := (blk_cell BR1.out 3).trans rfl; have r1c4 : w1.cell? ⟨w.heap.size, 4, none⟩ = some (.string ⟨#[]⟩) := (blk_cell BR1.out 4).trans rfl; have r1c5 : w1.cell? ⟨w.heap.size, 5, none⟩ = some (.slice none 0 0) := (blk_cell BR1.out 5).trans rfl; have r1z0 := blk_frozen BR1.out 0; have r1z1 := blk_frozen BR1.out 1; have r1z2 := blk_frozen BR1.out 2; have r1z3 := blk_frozen BR1.out 3; have r1z4 := blk_frozen BR1.out 4; have r1z5 := blk_frozen BR1.out 5; have HQ1 := Aside0.mk hp; have HG1 := Aside0.mk (((Gr.refl g w).alloc _).trans hg); clear hg ho hp) | (go_at_call 370; refine (val_below _ _ _ _).mono ?_; rintro e8 w8 ⟨rfl, hb⟩; have hg := Gr.of_below (g := g) hb; have BR8 := Aside0.mk (hg.blk (blk_alloc BR1.out _) (by omega)); have hs8 : w.heap.size < w8.heap.size := blk_lt BR8.out; have r8c0 : w8.cell? ⟨w.heap.size, 0, none⟩ = some (.string ⟨#[]⟩) := (blk_cell BR8.out 0).trans rfl; have r8c1 : w8.cell? ⟨w.heap.size, 1, none⟩ = some (.int .i64 0) := (blk_cell BR8.out 1).trans rfl; have r8c2 : w8.cell? ⟨w.heap.size, 2, none⟩ = some (.int .i64 0) := (blk_cell BR8.out 2).trans rfl; have r8c3 : w8.cell? ⟨w.heap.size, 3, none⟩ = some (.string ⟨#[]⟩) := (blk_cell BR8.out 3).trans rfl; have r8c4 : w8.cell? ⟨w.heap.size, 4, none⟩ = some (.string ⟨#[]⟩) := (blk_cell BR8.out 4).trans rfl; have r8c5 : w8.cell? ⟨w.heap.size, 5, none⟩ = some (.slice none 0 0) := (blk_cell BR8.out 5).trans rfl; have r8z0 := blk_frozen BR8.out 0; have r8z1 := blk_frozen BR8.out 1; have r8z2 := blk_frozen BR8.out 2; have r8z3 := blk_frozen BR8.out 3; have r8z4 := blk_frozen BR8.out 4; have r8z5 := blk_frozen BR8.out 5; have HQ8 := Aside0.mk ((HQ1.out.alloc _).below hb); have HG8 := Aside0.mk ((HG1.out.alloc _).trans hg); clear hg hb))
              refine bodyPost_ret (v := .agg (cells43 (Ps.val Ps.v0) (none) 0).toArray) ?_ rfl ?_
              · simp [results, Tryz.results368, go_sem, cells43, r8c0, r8z0, r8c1, r8z1, r8c2, r8z2, r8c3, r8z3, r8c4, r8z4, r8c5, r8z5, hs8] <;> exact ⟨rfl, rfl, rfl, rfl, rfl, rfl⟩
              · refine Out.of_some HM.out ?_ ⟨none, 0, rfl, Nat.le_refl _, ?_⟩ ?_
                · with_reducible (repeat (first | exact HG8.out | refine Gr.setB ?_ (Nat.le_refl _) _ _ | apply Gr.alloc | apply Gr.drewN))
                · exact Kd.F_nil _ _ _
                · with_reducible (repeat (first | exact HQ8.out | refine PS.setB ?_ (by omega) (by omega) _ _ | apply PS.alloc | apply PS.drewN))
            · rw [if_neg m2] at hm
              rw [wNull] at m2
              have q2 : (t.f1.toList == [110, 117, 108, 108]) = false := beq_eq_false_iff_ne.mpr m2
              clear m2
              by_cases m3 : t.f1.toList = Ps.sOpen.toList
              · rw [if_pos m3] at hm
                rw [wOpen] at m3
                have q3 : (t.f1.toList == [40]) = true := beq_iff_eq.mpr m3
                clear m3
                cases hx : Ps.expr k 0 r with
                | none =>
                  rw [hx] at hm
                  have HX := Aside0.mk hx
                  clear hx
                  have HM := Aside0.mk hm
                  clear hm
                  go_enter Tryz.func368, Tryz.ntmps368
                  go_wp2_with (first | (go_at_call 258; refine (next_out (HP.out.alloc _)).mono ?_; intro e w1 ho; obtain ⟨hg, v, rfl, rfl, hp⟩ := ho.some HN.out; have BR1 := Aside0.mk (hg.blk (new_blk (W := w) _ rfl) (by omega)); have hs1 : w.heap.size < w1.heap.size := blk_lt BR1.out; have r1c0 : w1.cell? ⟨w.heap.size, 0, none⟩ = some (.string ⟨#[]⟩) := (blk_cell BR1.out 0).trans rfl; have r1c1 : w1.cell? ⟨w.heap.size, 1, none⟩ = some (.int .i64 0) := (blk_cell BR1.out 1).trans rfl; have r1c2 : w1.cell? ⟨w.heap.size, 2, none⟩ = some (.int .i64 0) := (blk_cell BR1.out 2).trans rfl; have r1c3 : w1.cell? ⟨w.heap.size, 3, none⟩ = some (.string ⟨#[]⟩) := (blk_cell BR1.out 3).trans rfl; have r1c4 : w1.cell? ⟨w.heap.size, 4, none⟩ = some (.string ⟨#[]⟩) := (blk_cell BR1.out 4).trans rfl; have r1c5 : w1.cell? ⟨w.heap.size, 5, none⟩ = some (.slice none 0 0) := (blk_cell BR1.out 5).trans rfl; have r1z0 := blk_frozen BR1.out 0; have r1z1 := blk_frozen BR1.out 1; have r1z2 := blk_frozen BR1.out 2; have r1z3 := blk_frozen BR1.out 3; have r1z4 := blk_frozen BR1.out 4; have r1z5 := blk_frozen BR1.out 5; have HQ1 := Aside0.mk hp; have HG1 := Aside0.mk (((Gr.refl g w).alloc _).trans hg); clear hg ho hp) | (go_at_call 358; refine (ihE w0 g r _ 0 (HQ1.out.alloc _) (by have := (Ps.nx_len HN.out).1; omega)).mono ?_; intro e w2 ho; obtain ⟨hg, rfl⟩ := ho.none HX.out; have HG2 := Aside0.mk ((HG1.out.alloc _).trans hg); clear hg ho))
                  exact ⟨rfl, Out.of_none HM.out HG2.out⟩
                | some p =>
                  obtain ⟨e, r1⟩ := p
                  rw [hx] at hm
                  simp only at hm
                  have HX := Aside0.mk hx
                  clear hx
                  cases hu : Ps.ms [Ps.sClose] r1 with
                  | none =>
                    rw [hu] at hm
                    have HU := Aside0.mk hu
                    clear hu
                    have HM := Aside0.mk hm
                    clear hm
                    go_enter Tryz.func368, Tryz.ntmps368
                    go_wp2_with (first | (go_at_call 258; refine (next_out (HP.out.alloc _)).mono ?_; intro e w1 ho; obtain ⟨hg, v, rfl, rfl, hp⟩ := ho.some HN.out; have BR1 := Aside0.mk (hg.blk (new_blk (W := w) _ rfl) (by omega)); have hs1 : w.heap.size < w1.heap.size := blk_lt BR1.out; have r1c0 : w1.cell? ⟨w.heap.size, 0, none⟩ = some (.string ⟨#[]⟩) := (blk_cell BR1.out 0).trans rfl; have r1c1 : w1.cell? ⟨w.heap.size, 1, none⟩ = some (.int .i64 0) := (blk_cell BR1.out 1).trans rfl; have r1c2 : w1.cell? ⟨w.heap.size, 2, none⟩ = some (.int .i64 0) := (blk_cell BR1.out 2).trans rfl; have r1c3 : w1.cell? ⟨w.heap.size, 3, none⟩ = some (.string ⟨#[]⟩) := (blk_cell BR1.out 3).trans rfl; have r1c4 : w1.cell? ⟨w.heap.size, 4, none⟩ = some (.string ⟨#[]⟩) := (blk_cell BR1.out 4).trans rfl; have r1c5 : w1.cell? ⟨w.heap.size, 5, none⟩ = some (.slice none 0 0) := (blk_cell BR1.out 5).trans rfl; have r1z0 := blk_frozen BR1.out 0; have r1z1 := blk_frozen BR1.out 1; have r1z2 := blk_frozen BR1.out 2; have r1z3 := blk_frozen BR1.out 3; have r1z4 := blk_frozen BR1.out 4; have r1z5 := blk_frozen BR1.out 5; have HQ1 := Aside0.mk hp; have HG1 := Aside0.mk (((Gr.refl g w).alloc _).trans hg); clear hg ho hp) | (go_at_call 358; refine (ihE w0 g r _ 0 (HQ1.out.alloc _) (by have := (Ps.nx_len HN.out).1; omega)).mono ?_; intro e9 w2 ho; obtain ⟨hg, v, rfl, hv, hp⟩ := ho.some HX.out; obtain ⟨Ax, nx, rfl, hnx, hfx⟩ := hv; have BR2 := Aside0.mk (hg.blk (blk_alloc BR1.out _) (by omega)); have hs2 : w.heap.size < w2.heap.size := blk_lt BR2.out; have r2c0 : w2.cell? ⟨w.heap.size, 0, none⟩ = some (.string ⟨#[]⟩) := (blk_cell BR2.out 0).trans rfl; have r2c1 : w2.cell? ⟨w.heap.size, 1, none⟩ = some (.int .i64 0) := (blk_cell BR2.out 1).trans rfl; have r2c2 : w2.cell? ⟨w.heap.size, 2, none⟩ = some (.int .i64 0) := (blk_cell BR2.out 2).trans rfl; have r2c3 : w2.cell? ⟨w.heap.size, 3, none⟩ = some (.string ⟨#[]⟩) := (blk_cell BR2.out 3).trans rfl; have r2c4 : w2.cell? ⟨w.heap.size, 4, none⟩ = some (.string ⟨#[]⟩) := (blk_cell BR2.out 4).trans rfl; have r2c5 : w2.cell? ⟨w.heap.size, 5, none⟩ = some (.slice none 0 0) := (blk_cell BR2.out 5).trans rfl; have r2z0 := blk_frozen BR2.out 0; have r2z1 := blk_frozen BR2.out 1; have r2z2 := blk_frozen BR2.out 2; have r2z3 := blk_frozen BR2.out 3; have r2z4 := blk_frozen BR2.out 4; have r2z5 := blk_frozen BR2.out 5; have HQ2 := Aside0.mk hp; have HG2 := Aside0.mk ((HG1.out.alloc _).trans hg); have HNX := Aside0.mk hnx; have HFX := Aside0.mk (Kd.F_mono hfx (ok' := fun q => w.heap.size < q) (fun q hq => by simp at hq; omega)); clear hg ho hp hnx hfx; unfold cells43) | (go_at_call 259; refine (must1 (HQ2.out.alloc _) (by simp) Ps.sClose 1).mono ?_; intro e7 w3 ho; obtain ⟨hg, rfl⟩ := ho.none (msU_none HU.out); have HGN := Aside0.mk ((HG2.out.alloc _).trans hg); clear hg ho))
                    exact ⟨rfl, Out.of_none HM.out HGN.out⟩
                  | some r2 =>
                    rw [hu] at hm
                    have HU := Aside0.mk hu
                    clear hu
                    have HM := Aside0.mk hm
                    clear hm
                    go_enter Tryz.func368, Tryz.ntmps368
                    go_wp2_with (first | (go_at_call 258; refine (next_out (HP.out.alloc _)).mono ?_; intro e w1 ho; obtain ⟨hg, v, rfl, rfl, hp⟩ := ho.some HN.out; have BR1 := Aside0.mk (hg.blk (new_blk (W := w) _ rfl) (by omega)); have hs1 : w.heap.size < w1.heap.size := blk_lt BR1.out; have r1c0 : w1.cell? ⟨w.heap.size, 0, none⟩ = some (.string ⟨#[]⟩) := (blk_cell BR1.out 0).trans rfl; have r1c1 : w1.cell? ⟨w.heap.size, 1, none⟩ = some (.int .i64 0) := (blk_cell BR1.out 1).trans rfl; have r1c2 : w1.cell? ⟨w.heap.size, 2, none⟩ = some (.int .i64 0) := (blk_cell BR1.out 2).trans rfl; have r1c3 : w1.cell? ⟨w.heap.size, 3, none⟩ = some (.string ⟨#[]⟩) := (blk_cell BR1.out 3).trans rfl; have r1c4 : w1.cell? ⟨w.heap.size, 4, none⟩ = some (.string ⟨#[]⟩) := (blk_cell BR1.out 4).trans rfl; have r1c5 : w1.cell? ⟨w.heap.size, 5, none⟩ = some (.slice none 0 0) := (blk_cell BR1.out 5).trans rfl; have r1z0 := blk_frozen BR1.out 0; have r1z1 := blk_frozen BR1.out 1; have r1z2 := blk_frozen BR1.out 2; have r1z3 := blk_frozen BR1.out 3; have r1z4 := blk_frozen BR1.out 4; have r1z5 := blk_frozen BR1.out 5; have HQ1 := Aside0.mk hp; have HG1 := Aside0.mk (((Gr.refl g w).alloc _).trans hg); clear hg ho hp) | (go_at_call 358; refine (ihE w0 g r _ 0 (HQ1.out.alloc _) (by have := (Ps.nx_len HN.out).1; omega)).mono ?_; intro e9 w2 ho; obtain ⟨hg, v, rfl, hv, hp⟩ := ho.some HX.out; obtain ⟨Ax, nx, rfl, hnx, hfx⟩ := hv; have BR2 := Aside0.mk (hg.blk (blk_alloc BR1.out _) (by omega)); have hs2 : w.heap.size < w2.heap.size := blk_lt BR2.out; have r2c0 : w2.cell? ⟨w.heap.size, 0, none⟩ = some (.string ⟨#[]⟩) := (blk_cell BR2.out 0).trans rfl; have r2c1 : w2.cell? ⟨w.heap.size, 1, none⟩ = some (.int .i64 0) := (blk_cell BR2.out 1).trans rfl; have r2c2 : w2.cell? ⟨w.heap.size, 2, none⟩ = some (.int .i64 0) := (blk_cell BR2.out 2).trans rfl; have r2c3 : w2.cell? ⟨w.heap.size, 3, none⟩ = some (.string ⟨#[]⟩) := (blk_cell BR2.out 3).trans rfl; have r2c4 : w2.cell? ⟨w.heap.size, 4, none⟩ = some (.string ⟨#[]⟩) := (blk_cell BR2.out 4).trans rfl; have r2c5 : w2.cell? ⟨w.heap.size, 5, none⟩ = some (.slice none 0 0) := (blk_cell BR2.out 5).trans rfl; have r2z0 := blk_frozen BR2.out 0; have r2z1 := blk_frozen BR2.out 1; have r2z2 := blk_frozen BR2.out 2; have r2z3 := blk_frozen BR2.out 3; have r2z4 := blk_frozen BR2.out 4; have r2z5 := blk_frozen BR2.out 5; have HQ2 := Aside0.mk hp; have HG2 := Aside0.mk ((HG1.out.alloc _).trans hg); have HNX := Aside0.mk hnx; have HFX := Aside0.mk (Kd.F_mono hfx (ok' := fun q => w.heap.size < q) (fun q hq => by simp at hq; omega)); clear hg ho hp hnx hfx; unfold cells43) | (go_at_call 259; refine (must1 (HQ2.out.alloc _) (by simp) Ps.sClose 1).mono ?_; intro e7 w3 ho; obtain ⟨hg, v, rfl, rfl, hp⟩ := ho.some (msU_some HU.out); have BR3 := Aside0.mk (hg.blk (blk_alloc BR2.out _) (by omega)); have hs3 : w.heap.size < w3.heap.size := blk_lt BR3.out; have r3c0 : w3.cell? ⟨w.heap.size, 0, none⟩ = some (.string ⟨#[]⟩) := (blk_cell BR3.out 0).trans rfl; have r3c1 : w3.cell? ⟨w.heap.size, 1, none⟩ = some (.int .i64 0) := (blk_cell BR3.out 1).trans rfl; have r3c2 : w3.cell? ⟨w.heap.size, 2, none⟩ = some (.int .i64 0) := (blk_cell BR3.out 2).trans rfl; have r3c3 : w3.cell? ⟨w.heap.size, 3, none⟩ = some (.string ⟨#[]⟩) := (blk_cell BR3.out 3).trans rfl; have r3c4 : w3.cell? ⟨w.heap.size, 4, none⟩ = some (.string ⟨#[]⟩) := (blk_cell BR3.out 4).trans rfl; have r3c5 : w3.cell? ⟨w.heap.size, 5, none⟩ = some (.slice none 0 0) := (blk_cell BR3.out 5).trans rfl; have r3z0 := blk_frozen BR3.out 0; have r3z1 := blk_frozen BR3.out 1; have r3z2 := blk_frozen BR3.out 2; have r3z3 := blk_frozen BR3.out 3; have r3z4 := blk_frozen BR3.out 4; have r3z5 := blk_frozen BR3.out 5; have BE3 := Aside0.mk (hg.blk (new_blk (W := w2) _ rfl) (by omega)); have e3c0 : w3.cell? ⟨w2.heap.size, 0, none⟩ = some (.string e.f0) := (blk_cell BE3.out 0).trans rfl; have e3c1 : w3.cell? ⟨w2.heap.size, 1, none⟩ = some (.int .i64 e.f1.f0) := (blk_cell BE3.out 1).trans rfl; have e3c2 : w3.cell? ⟨w2.heap.size, 2, none⟩ = some (.int .i64 e.f1.f1) := (blk_cell BE3.out 2).trans rfl; have e3c3 : w3.cell? ⟨w2.heap.size, 3, none⟩ = some (.string e.f1.f2) := (blk_cell BE3.out 3).trans rfl; have e3c4 : w3.cell? ⟨w2.heap.size, 4, none⟩ = some (.string e.f2) := (blk_cell BE3.out 4).trans rfl; have e3c5 : w3.cell? ⟨w2.heap.size, 5, none⟩ = some (.slice Ax e.f3.length nx) := (blk_cell BE3.out 5).trans rfl; have HQ3 := Aside0.mk hp; have HG3 := Aside0.mk ((HG2.out.alloc _).trans hg); have HF3 := Aside0.mk (hg.F (Kd.F_alloc HFX.out _) (fun q hq => by have h1 : w.heap.size < q := hq; omega)); clear hg ho hp))
                    refine bodyPost_ret (v := .agg (cells43 (e) (Ax) nx).toArray) ?_ rfl ?_
                    · simp [results, Tryz.results368, go_sem, cells43, r3c0, r3z0, r3c1, r3z1, r3c2, r3z2, r3c3, r3z3, r3c4, r3z4, r3c5, r3z5, hs3] <;> exact ⟨rfl, rfl, rfl, rfl, rfl, rfl⟩
                    · refine Out.of_some HM.out ?_ ⟨Ax, nx, rfl, HNX.out, ?_⟩ ?_
                      · with_reducible (repeat (first | exact HG3.out | refine Gr.setB ?_ (Nat.le_refl _) _ _ | apply Gr.alloc | apply Gr.drewN))
                      · refine Kd.F_mono (ok := fun q => w.heap.size < q) ?_ (fun q hq => Nat.le_of_lt hq)
                        with_reducible (repeat (first | exact HF3.out | refine Kd.F_far ?_ (fun q hq => Nat.ne_of_gt hq) _ | apply Kd.F_alloc))
                      · with_reducible (repeat (first | exact HQ3.out | refine PS.setB ?_ (by omega) (by omega) _ _ | apply PS.alloc | apply PS.drewN))
              · rw [if_neg m3] at hm
                rw [wOpen] at m3
                have q3 : (t.f1.toList == [40]) = false := beq_eq_false_iff_ne.mpr m3
                clear m3
                by_cases m4 : t.f1.toList = Ps.sCount.toList
                · rw [if_pos m4] at hm
                  rw [wCount] at m4
                  have q4 : (t.f1.toList == [99, 111, 117, 110, 116]) = true := beq_iff_eq.mpr m4
                  clear m4
                  cases hu : Ps.ms [Ps.sOpen, Ps.sStar, Ps.sClose] r with
                  | none =>
                    rw [hu] at hm
                    have HU := Aside0.mk hu
                    clear hu
                    have HM := Aside0.mk hm
                    clear hm
                    go_enter Tryz.func368, Tryz.ntmps368
                    go_wp2_with (first | (go_at_call 258; refine (next_out (HP.out.alloc _)).mono ?_; intro e w1 ho; obtain ⟨hg, v, rfl, rfl, hp⟩ := ho.some HN.out; have BR1 := Aside0.mk (hg.blk (new_blk (W := w) _ rfl) (by omega)); have hs1 : w.heap.size < w1.heap.size := blk_lt BR1.out; have r1c0 : w1.cell? ⟨w.heap.size, 0, none⟩ = some (.string ⟨#[]⟩) := (blk_cell BR1.out 0).trans rfl; have r1c1 : w1.cell? ⟨w.heap.size, 1, none⟩ = some (.int .i64 0) := (blk_cell BR1.out 1).trans rfl; have r1c2 : w1.cell? ⟨w.heap.size, 2, none⟩ = some (.int .i64 0) := (blk_cell BR1.out 2).trans rfl; have r1c3 : w1.cell? ⟨w.heap.size, 3, none⟩ = some (.string ⟨#[]⟩) := (blk_cell BR1.out 3).trans rfl; have r1c4 : w1.cell? ⟨w.heap.size, 4, none⟩ = some (.string ⟨#[]⟩) := (blk_cell BR1.out 4).trans rfl; have r1c5 : w1.cell? ⟨w.heap.size, 5, none⟩ = some (.slice none 0 0) := (blk_cell BR1.out 5).trans rfl; have r1z0 := blk_frozen BR1.out 0; have r1z1 := blk_frozen BR1.out 1; have r1z2 := blk_frozen BR1.out 2; have r1z3 := blk_frozen BR1.out 3; have r1z4 := blk_frozen BR1.out 4; have r1z5 := blk_frozen BR1.out 5; have HQ1 := Aside0.mk hp; have HG1 := Aside0.mk (((Gr.refl g w).alloc _).trans hg); clear hg ho hp) | (go_at_call 259; refine (must3 (HQ1.out.alloc _) (by simp) Ps.sOpen Ps.sStar Ps.sClose 3).mono ?_; intro e7 w2 ho; obtain ⟨hg, rfl⟩ := ho.none (msU_none HU.out); have HGN := Aside0.mk ((HG1.out.alloc _).trans hg); clear hg ho))
                    exact ⟨rfl, Out.of_none HM.out HGN.out⟩
                  | some r1 =>
                    rw [hu] at hm
                    have HU := Aside0.mk hu
                    clear hu
                    have HM := Aside0.mk hm
                    clear hm
                    go_enter Tryz.func368, Tryz.ntmps368
                    go_wp2_with (first | (go_at_call 258; refine (next_out (HP.out.alloc _)).mono ?_; intro e w1 ho; obtain ⟨hg, v, rfl, rfl, hp⟩ := ho.some HN.out; have BR1 := Aside0.mk (hg.blk (new_blk (W := w) _ rfl) (by omega)); have hs1 : w.heap.size < w1.heap.size := blk_lt BR1.out; have r1c0 : w1.cell? ⟨w.heap.size, 0, none⟩ = some (.string ⟨#[]⟩) := (blk_cell BR1.out 0).trans rfl; have r1c1 : w1.cell? ⟨w.heap.size, 1, none⟩ = some (.int .i64 0) := (blk_cell BR1.out 1).trans rfl; have r1c2 : w1.cell? ⟨w.heap.size, 2, none⟩ = some (.int .i64 0) := (blk_cell BR1.out 2).trans rfl; have r1c3 : w1.cell? ⟨w.heap.size, 3, none⟩ = some (.string ⟨#[]⟩) := (blk_cell BR1.out 3).trans rfl; have r1c4 : w1.cell? ⟨w.heap.size, 4, none⟩ = some (.string ⟨#[]⟩) := (blk_cell BR1.out 4).trans rfl; have r1c5 : w1.cell? ⟨w.heap.size, 5, none⟩ = some (.slice none 0 0) := (blk_cell BR1.out 5).trans rfl; have r1z0 := blk_frozen BR1.out 0; have r1z1 := blk_frozen BR1.out 1; have r1z2 := blk_frozen BR1.out 2; have r1z3 := blk_frozen BR1.out 3; have r1z4 := blk_frozen BR1.out 4; have r1z5 := blk_frozen BR1.out 5; have HQ1 := Aside0.mk hp; have HG1 := Aside0.mk (((Gr.refl g w).alloc _).trans hg); clear hg ho hp) | (go_at_call 259; refine (must3 (HQ1.out.alloc _) (by simp) Ps.sOpen Ps.sStar Ps.sClose 3).mono ?_; intro e7 w2 ho; obtain ⟨hg, v, rfl, rfl, hp⟩ := ho.some (msU_some HU.out); have BR2 := Aside0.mk (hg.blk (blk_alloc BR1.out _) (by omega)); have hs2 : w.heap.size < w2.heap.size := blk_lt BR2.out; have r2c0 : w2.cell? ⟨w.heap.size, 0, none⟩ = some (.string ⟨#[]⟩) := (blk_cell BR2.out 0).trans rfl; have r2c1 : w2.cell? ⟨w.heap.size, 1, none⟩ = some (.int .i64 0) := (blk_cell BR2.out 1).trans rfl; have r2c2 : w2.cell? ⟨w.heap.size, 2, none⟩ = some (.int .i64 0) := (blk_cell BR2.out 2).trans rfl; have r2c3 : w2.cell? ⟨w.heap.size, 3, none⟩ = some (.string ⟨#[]⟩) := (blk_cell BR2.out 3).trans rfl; have r2c4 : w2.cell? ⟨w.heap.size, 4, none⟩ = some (.string ⟨#[]⟩) := (blk_cell BR2.out 4).trans rfl; have r2c5 : w2.cell? ⟨w.heap.size, 5, none⟩ = some (.slice none 0 0) := (blk_cell BR2.out 5).trans rfl; have r2z0 := blk_frozen BR2.out 0; have r2z1 := blk_frozen BR2.out 1; have r2z2 := blk_frozen BR2.out 2; have r2z3 := blk_frozen BR2.out 3; have r2z4 := blk_frozen BR2.out 4; have r2z5 := blk_frozen BR2.out 5; have HQ2 := Aside0.mk hp; have HG2 := Aside0.mk ((HG1.out.alloc _).trans hg); clear hg ho hp) | (go_at_call 369; refine (op_calls _ _ _ _ _).mono ?_; rintro e8 w8 ⟨rfl, o8, rfl⟩))
                    refine bodyPost_ret (v := .agg (cells43 (Ps.op Ps.sCount []) (none) 0).toArray) ?_ rfl ?_
                    · simp [results, Tryz.results368, go_sem, cells43, r2c0, r2z0, r2c1, r2z1, r2c2, r2z2, r2c3, r2z3, r2c4, r2z4, r2c5, r2z5, hs2] <;> exact ⟨rfl, rfl, rfl, rfl, rfl, rfl⟩
                    · refine Out.of_some HM.out ?_ ⟨none, 0, rfl, Nat.le_refl _, ?_⟩ ?_
                      · with_reducible (repeat (first | exact HG2.out | refine Gr.setB ?_ (Nat.le_refl _) _ _ | apply Gr.alloc | apply Gr.drewN))
                      · exact Kd.F_nil _ _ _
                      · with_reducible (repeat (first | exact HQ2.out | refine PS.setB ?_ (by omega) (by omega) _ _ | apply PS.alloc | apply PS.drewN))
                · rw [if_neg m4] at hm
                  rw [wCount] at m4
                  have q4 : (t.f1.toList == [99, 111, 117, 110, 116]) = false := beq_eq_false_iff_ne.mpr m4
                  clear m4
                  by_cases m6 : t.f1.toList = Ps.sSum.toList
                  · rw [if_pos (Or.inl m6)] at hm
                    rw [wSum] at m6
                    have q6 : (t.f1.toList == [115, 117, 109]) = true := beq_iff_eq.mpr m6
                    clear m6
                    cases hu : Ps.ms [Ps.sOpen] r with
                    | none =>
                      rw [hu] at hm
                      have HU := Aside0.mk hu
                      clear hu
                      have HM := Aside0.mk hm
                      clear hm
                      go_enter Tryz.func368, Tryz.ntmps368
                      go_wp2_with (first | (go_at_call 258; refine (next_out (HP.out.alloc _)).mono ?_; intro e w1 ho; obtain ⟨hg, v, rfl, rfl, hp⟩ := ho.some HN.out; have BR1 := Aside0.mk (hg.blk (new_blk (W := w) _ rfl) (by omega)); have hs1 : w.heap.size < w1.heap.size := blk_lt BR1.out; have r1c0 : w1.cell? ⟨w.heap.size, 0, none⟩ = some (.string ⟨#[]⟩) := (blk_cell BR1.out 0).trans rfl; have r1c1 : w1.cell? ⟨w.heap.size, 1, none⟩ = some (.int .i64 0) := (blk_cell BR1.out 1).trans rfl; have r1c2 : w1.cell? ⟨w.heap.size, 2, none⟩ = some (.int .i64 0) := (blk_cell BR1.out 2).trans rfl; have r1c3 : w1.cell? ⟨w.heap.size, 3, none⟩ = some (.string ⟨#[]⟩) := (blk_cell BR1.out 3).trans rfl; have r1c4 : w1.cell? ⟨w.heap.size, 4, none⟩ = some (.string ⟨#[]⟩) := (blk_cell BR1.out 4).trans rfl; have r1c5 : w1.cell? ⟨w.heap.size, 5, none⟩ = some (.slice none 0 0) := (blk_cell BR1.out 5).trans rfl; have r1z0 := blk_frozen BR1.out 0; have r1z1 := blk_frozen BR1.out 1; have r1z2 := blk_frozen BR1.out 2; have r1z3 := blk_frozen BR1.out 3; have r1z4 := blk_frozen BR1.out 4; have r1z5 := blk_frozen BR1.out 5; have HQ1 := Aside0.mk hp; have HG1 := Aside0.mk (((Gr.refl g w).alloc _).trans hg); clear hg ho hp) | (go_at_call 259; refine (must1 (HQ1.out.alloc _) (by simp) Ps.sOpen 1).mono ?_; intro e7 w2 ho; obtain ⟨hg, rfl⟩ := ho.none (msU_none HU.out); have HGN := Aside0.mk ((HG1.out.alloc _).trans hg); clear hg ho))
                      exact ⟨rfl, Out.of_none HM.out HGN.out⟩
                    | some r1 =>
                      rw [hu] at hm
                      simp only at hm
                      have HU := Aside0.mk hu
                      clear hu
                      cases hx : Ps.expr k 0 r1 with
                      | none =>
                        rw [hx] at hm
                        have HX := Aside0.mk hx
                        clear hx
                        have HM := Aside0.mk hm
                        clear hm
                        go_enter Tryz.func368, Tryz.ntmps368
                        go_wp2_with (first | (go_at_call 258; refine (next_out (HP.out.alloc _)).mono ?_; intro e w1 ho; obtain ⟨hg, v, rfl, rfl, hp⟩ := ho.some HN.out; have BR1 := Aside0.mk (hg.blk (new_blk (W := w) _ rfl) (by omega)); have hs1 : w.heap.size < w1.heap.size := blk_lt BR1.out; have r1c0 : w1.cell? ⟨w.heap.size, 0, none⟩ = some (.string ⟨#[]⟩) := (blk_cell BR1.out 0).trans rfl; have r1c1 : w1.cell? ⟨w.heap.size, 1, none⟩ = some (.int .i64 0) := (blk_cell BR1.out 1).trans rfl; have r1c2 : w1.cell? ⟨w.heap.size, 2, none⟩ = some (.int .i64 0) := (blk_cell BR1.out 2).trans rfl; have r1c3 : w1.cell? ⟨w.heap.size, 3, none⟩ = some (.string ⟨#[]⟩) := (blk_cell BR1.out 3).trans rfl; have r1c4 : w1.cell? ⟨w.heap.size, 4, none⟩ = some (.string ⟨#[]⟩) := (blk_cell BR1.out 4).trans rfl; have r1c5 : w1.cell? ⟨w.heap.size, 5, none⟩ = some (.slice none 0 0) := (blk_cell BR1.out 5).trans rfl; have r1z0 := blk_frozen BR1.out 0; have r1z1 := blk_frozen BR1.out 1; have r1z2 := blk_frozen BR1.out 2; have r1z3 := blk_frozen BR1.out 3; have r1z4 := blk_frozen BR1.out 4; have r1z5 := blk_frozen BR1.out 5; have HQ1 := Aside0.mk hp; have HG1 := Aside0.mk (((Gr.refl g w).alloc _).trans hg); clear hg ho hp) | (go_at_call 259; refine (must1 (HQ1.out.alloc _) (by simp) Ps.sOpen 1).mono ?_; intro e7 w2 ho; obtain ⟨hg, v, rfl, rfl, hp⟩ := ho.some (msU_some HU.out); have BR2 := Aside0.mk (hg.blk (blk_alloc BR1.out _) (by omega)); have BT2 := Aside0.mk (hg.blk (new_blk (W := w1) _ rfl) (by omega)); have hs2 := blk_lt BT2.out; have HQ2 := Aside0.mk hp; have HG2 := Aside0.mk ((HG1.out.alloc _).trans hg); clear hg ho hp) | (go_at_call 358; refine (ihE w0 g r1 _ 0 HQ2.out (by have := (Ps.nx_len HN.out).1; have := Ps.ms_len HU.out; omega)).mono ?_; intro e9 w3 ho; obtain ⟨hg, rfl⟩ := ho.none HX.out; have HG3 := Aside0.mk (HG2.out.trans hg); clear hg ho))
                        exact ⟨rfl, Out.of_none HM.out HG3.out⟩
                      | some p =>
                        obtain ⟨e, r2⟩ := p
                        rw [hx] at hm
                        simp only at hm
                        have HX := Aside0.mk hx
                        clear hx
                        cases hv : Ps.ms [Ps.sClose] r2 with
                        | none =>
                          rw [hv] at hm
                          have HV := Aside0.mk hv
                          clear hv
                          have HM := Aside0.mk hm
                          clear hm
                          go_enter Tryz.func368, Tryz.ntmps368
                          go_wp2_with (first | (go_at_call 258; refine (next_out (HP.out.alloc _)).mono ?_; intro e w1 ho; obtain ⟨hg, v, rfl, rfl, hp⟩ := ho.some HN.out; have BR1 := Aside0.mk (hg.blk (new_blk (W := w) _ rfl) (by omega)); have hs1 : w.heap.size < w1.heap.size := blk_lt BR1.out; have r1c0 : w1.cell? ⟨w.heap.size, 0, none⟩ = some (.string ⟨#[]⟩) := (blk_cell BR1.out 0).trans rfl; have r1c1 : w1.cell? ⟨w.heap.size, 1, none⟩ = some (.int .i64 0) := (blk_cell BR1.out 1).trans rfl; have r1c2 : w1.cell? ⟨w.heap.size, 2, none⟩ = some (.int .i64 0) := (blk_cell BR1.out 2).trans rfl; have r1c3 : w1.cell? ⟨w.heap.size, 3, none⟩ = some (.string ⟨#[]⟩) := (blk_cell BR1.out 3).trans rfl; have r1c4 : w1.cell? ⟨w.heap.size, 4, none⟩ = some (.string ⟨#[]⟩) := (blk_cell BR1.out 4).trans rfl; have r1c5 : w1.cell? ⟨w.heap.size, 5, none⟩ = some (.slice none 0 0) := (blk_cell BR1.out 5).trans rfl; have r1z0 := blk_frozen BR1.out 0; have r1z1 := blk_frozen BR1.out 1; have r1z2 := blk_frozen BR1.out 2; have r1z3 := blk_frozen BR1.out 3; have r1z4 := blk_frozen BR1.out 4; have r1z5 := blk_frozen BR1.out 5; have HQ1 := Aside0.mk hp; have HG1 := Aside0.mk (((Gr.refl g w).alloc _).trans hg); clear hg ho hp) | (go_at_call 259; refine (must1 (HQ1.out.alloc _) (by simp) Ps.sOpen 1).mono ?_; intro e7 w2 ho; obtain ⟨hg, v, rfl, rfl, hp⟩ := ho.some (msU_some HU.out); have BR2 := Aside0.mk (hg.blk (blk_alloc BR1.out _) (by omega)); have BT2 := Aside0.mk (hg.blk (new_blk (W := w1) _ rfl) (by omega)); have hs2 := blk_lt BT2.out; have HQ2 := Aside0.mk hp; have HG2 := Aside0.mk ((HG1.out.alloc _).trans hg); clear hg ho hp) | (go_at_call 358; refine (ihE w0 g r1 _ 0 HQ2.out (by have := (Ps.nx_len HN.out).1; have := Ps.ms_len HU.out; omega)).mono ?_; intro e9 w3 ho; obtain ⟨hg, v, rfl, hv, hp⟩ := ho.some HX.out; obtain ⟨Ax, nx, rfl, hnx, hfx⟩ := hv; have BR3 := Aside0.mk (hg.blk BR2.out (by omega)); have BT3 := Aside0.mk (hg.blk BT2.out (by omega)); have hs3 := blk_lt BT3.out; have HQ3 := Aside0.mk hp; have HG3 := Aside0.mk (HG2.out.trans hg); have HNX := Aside0.mk hnx; have HFX := Aside0.mk (Kd.F_mono hfx (ok' := fun q => w.heap.size < q) (fun q hq => by have h1 : w2.heap.size ≤ q := hq; omega)); clear hg ho hp hnx hfx; unfold cells43) | (go_at_call 259; refine (must1 (HQ3.out.alloc _) (by simp) Ps.sClose 1).mono ?_; intro e7 w4 ho; obtain ⟨hg, rfl⟩ := ho.none (msU_none HV.out); have HGN := Aside0.mk ((HG3.out.alloc _).trans hg); clear hg ho))
                          exact ⟨rfl, Out.of_none HM.out HGN.out⟩
                        | some r3 =>
                          rw [hv] at hm
                          have HV := Aside0.mk hv
                          clear hv
                          have HM := Aside0.mk hm
                          clear hm
                          go_enter Tryz.func368, Tryz.ntmps368
                          go_wp2_with (first | (go_at_call 258; refine (next_out (HP.out.alloc _)).mono ?_; intro e w1 ho; obtain ⟨hg, v, rfl, rfl, hp⟩ := ho.some HN.out; have BR1 := Aside0.mk (hg.blk (new_blk (W := w) _ rfl) (by omega)); have hs1 : w.heap.size < w1.heap.size := blk_lt BR1.out; have r1c0 : w1.cell? ⟨w.heap.size, 0, none⟩ = some (.string ⟨#[]⟩) := (blk_cell BR1.out 0).trans rfl; have r1c1 : w1.cell? ⟨w.heap.size, 1, none⟩ = some (.int .i64 0) := (blk_cell BR1.out 1).trans rfl; have r1c2 : w1.cell? ⟨w.heap.size, 2, none⟩ = some (.int .i64 0) := (blk_cell BR1.out 2).trans rfl; have r1c3 : w1.cell? ⟨w.heap.size, 3, none⟩ = some (.string ⟨#[]⟩) := (blk_cell BR1.out 3).trans rfl; have r1c4 : w1.cell? ⟨w.heap.size, 4, none⟩ = some (.string ⟨#[]⟩) := (blk_cell BR1.out 4).trans rfl; have r1c5 : w1.cell? ⟨w.heap.size, 5, none⟩ = some (.slice none 0 0) := (blk_cell BR1.out 5).trans rfl; have r1z0 := blk_frozen BR1.out 0; have r1z1 := blk_frozen BR1.out 1; have r1z2 := blk_frozen BR1.out 2; have r1z3 := blk_frozen BR1.out 3; have r1z4 := blk_frozen BR1.out 4; have r1z5 := blk_frozen BR1.out 5; have HQ1 := Aside0.mk hp; have HG1 := Aside0.mk (((Gr.refl g w).alloc _).trans hg); clear hg ho hp) | (go_at_call 259; refine (must1 (HQ1.out.alloc _) (by simp) Ps.sOpen 1).mono ?_; intro e7 w2 ho; obtain ⟨hg, v, rfl, rfl, hp⟩ := ho.some (msU_some HU.out); have BR2 := Aside0.mk (hg.blk (blk_alloc BR1.out _) (by omega)); have BT2 := Aside0.mk (hg.blk (new_blk (W := w1) _ rfl) (by omega)); have hs2 := blk_lt BT2.out; have HQ2 := Aside0.mk hp; have HG2 := Aside0.mk ((HG1.out.alloc _).trans hg); clear hg ho hp) | (go_at_call 358; refine (ihE w0 g r1 _ 0 HQ2.out (by have := (Ps.nx_len HN.out).1; have := Ps.ms_len HU.out; omega)).mono ?_; intro e9 w3 ho; obtain ⟨hg, v, rfl, hv, hp⟩ := ho.some HX.out; obtain ⟨Ax, nx, rfl, hnx, hfx⟩ := hv; have BR3 := Aside0.mk (hg.blk BR2.out (by omega)); have BT3 := Aside0.mk (hg.blk BT2.out (by omega)); have hs3 := blk_lt BT3.out; have HQ3 := Aside0.mk hp; have HG3 := Aside0.mk (HG2.out.trans hg); have HNX := Aside0.mk hnx; have HFX := Aside0.mk (Kd.F_mono hfx (ok' := fun q => w.heap.size < q) (fun q hq => by have h1 : w2.heap.size ≤ q := hq; omega)); clear hg ho hp hnx hfx; unfold cells43) | (go_at_call 259; refine (must1 (HQ3.out.alloc _) (by simp) Ps.sClose 1).mono ?_; intro e7 w4 ho; obtain ⟨hg, v, rfl, rfl, hp⟩ := ho.some (msU_some HV.out); have BR4 := Aside0.mk (hg.blk (blk_alloc BR3.out _) (by omega)); have r4c0 : w4.cell? ⟨w.heap.size, 0, none⟩ = some (.string ⟨#[]⟩) := (blk_cell BR4.out 0).trans rfl; have r4c1 : w4.cell? ⟨w.heap.size, 1, none⟩ = some (.int .i64 0) := (blk_cell BR4.out 1).trans rfl; have r4c2 : w4.cell? ⟨w.heap.size, 2, none⟩ = some (.int .i64 0) := (blk_cell BR4.out 2).trans rfl; have r4c3 : w4.cell? ⟨w.heap.size, 3, none⟩ = some (.string ⟨#[]⟩) := (blk_cell BR4.out 3).trans rfl; have r4c4 : w4.cell? ⟨w.heap.size, 4, none⟩ = some (.string ⟨#[]⟩) := (blk_cell BR4.out 4).trans rfl; have r4c5 : w4.cell? ⟨w.heap.size, 5, none⟩ = some (.slice none 0 0) := (blk_cell BR4.out 5).trans rfl; have r4z0 := blk_frozen BR4.out 0; have r4z1 := blk_frozen BR4.out 1; have r4z2 := blk_frozen BR4.out 2; have r4z3 := blk_frozen BR4.out 3; have r4z4 := blk_frozen BR4.out 4; have r4z5 := blk_frozen BR4.out 5; have BT4 := Aside0.mk (hg.blk (blk_alloc BT3.out _) (by omega)); have t4c0 : w4.cell? ⟨w1.heap.size, 0, none⟩ = some (.int .i64 t.f0) := (blk_cell BT4.out 0).trans rfl; have t4c1 : w4.cell? ⟨w1.heap.size, 1, none⟩ = some (.string t.f1) := (blk_cell BT4.out 1).trans rfl; have t4c2 : w4.cell? ⟨w1.heap.size, 2, none⟩ = some (.int .i64 t.f2) := (blk_cell BT4.out 2).trans rfl; have BE4 := Aside0.mk (hg.blk (new_blk (W := w3) _ rfl) (by omega)); have e4c0 : w4.cell? ⟨w3.heap.size, 0, none⟩ = some (.string e.f0) := (blk_cell BE4.out 0).trans rfl; have e4c1 : w4.cell? ⟨w3.heap.size, 1, none⟩ = some (.int .i64 e.f1.f0) := (blk_cell BE4.out 1).trans rfl; have e4c2 : w4.cell? ⟨w3.heap.size, 2, none⟩ = some (.int .i64 e.f1.f1) := (blk_cell BE4.out 2).trans rfl; have e4c3 : w4.cell? ⟨w3.heap.size, 3, none⟩ = some (.string e.f1.f2) := (blk_cell BE4.out 3).trans rfl; have e4c4 : w4.cell? ⟨w3.heap.size, 4, none⟩ = some (.string e.f2) := (blk_cell BE4.out 4).trans rfl; have e4c5 : w4.cell? ⟨w3.heap.size, 5, none⟩ = some (.slice Ax e.f3.length nx) := (blk_cell BE4.out 5).trans rfl; have hs4 : w.heap.size < w4.heap.size := blk_lt BR4.out; have ht4 : w1.heap.size < w4.heap.size := blk_lt BT4.out; have he4 : w3.heap.size < w4.heap.size := blk_lt BE4.out; have HQ4 := Aside0.mk hp; have HG4 := Aside0.mk ((HG3.out.alloc _).trans hg); have HFX4 := Aside0.mk (hg.F (Kd.F_alloc HFX.out _) (fun q hq => by have h1 : w.heap.size < q := hq; omega)); clear hg ho hp HFX; have HFX := HFX4; clear HFX4) | (go_at_call 369; refine (op_calls _ _ _ _ _).mono ?_; rintro e8 w8 ⟨rfl, o8, rfl⟩))
                          refine bodyPost_ret (v := .agg (cells43 (Ps.op t.f1 [e]) (some ⟨w4.heap.size, 0, none⟩) 1).toArray) ?_ rfl ?_
                          · simp [results, Tryz.results368, go_sem, cells43, r4c0, r4z0, r4c1, r4z1, r4c2, r4z2, r4c3, r4z3, r4c4, r4z4, r4c5, r4z5, hs4] <;> exact ⟨rfl, rfl, rfl, rfl, rfl, rfl⟩
                          · refine Out.of_some HM.out ?_ ⟨some ⟨w4.heap.size, 0, none⟩, 1, rfl, Nat.le_refl _, ?_⟩ ?_
                            · with_reducible (repeat (first | exact HG4.out | refine Gr.setB ?_ (Nat.le_refl _) _ _ | apply Gr.alloc | apply Gr.drewN))
                            · refine F_one (x := e) (A := Ax) (c := nx) ?_ (by omega) HNX.out ?_
                              · exact blk_alloc (new_blk _ (by simp)) _
                              · refine Kd.F_mono (ok := fun q => w.heap.size < q) ?_ (fun q hq => Nat.le_of_lt hq)
                                with_reducible (repeat (first | exact HFX.out | refine Kd.F_far ?_ (fun q hq => Nat.ne_of_gt hq) _ | apply Kd.F_alloc))
                            · with_reducible (repeat (first | exact HQ4.out | refine PS.setB ?_ (by omega) (by omega) _ _ | apply PS.alloc | apply PS.drewN))
                  · by_cases m7 : t.f1.toList = Ps.sMin.toList
                    · rw [if_pos (Or.inr (Or.inl m7))] at hm
                      rw [wMin] at m7
                      rw [wSum] at m6
                      have q6 : (t.f1.toList == [115, 117, 109]) = false := beq_eq_false_iff_ne.mpr m6
                      have q7 : (t.f1.toList == [109, 105, 110]) = true := beq_iff_eq.mpr m7
                      clear m6 m7
                      cases hu : Ps.ms [Ps.sOpen] r with
                      | none =>
                        rw [hu] at hm
                        have HU := Aside0.mk hu
                        clear hu
                        have HM := Aside0.mk hm
                        clear hm
                        go_enter Tryz.func368, Tryz.ntmps368
                        go_wp2_with (first | (go_at_call 258; refine (next_out (HP.out.alloc _)).mono ?_; intro e w1 ho; obtain ⟨hg, v, rfl, rfl, hp⟩ := ho.some HN.out; have BR1 := Aside0.mk (hg.blk (new_blk (W := w) _ rfl) (by omega)); have hs1 : w.heap.size < w1.heap.size := blk_lt BR1.out; have r1c0 : w1.cell? ⟨w.heap.size, 0, none⟩ = some (.string ⟨#[]⟩) := (blk_cell BR1.out 0).trans rfl; have r1c1 : w1.cell? ⟨w.heap.size, 1, none⟩ = some (.int .i64 0) := (blk_cell BR1.out 1).trans rfl; have r1c2 : w1.cell? ⟨w.heap.size, 2, none⟩ = some (.int .i64 0) := (blk_cell BR1.out 2).trans rfl; have r1c3 : w1.cell? ⟨w.heap.size, 3, none⟩ = some (.string ⟨#[]⟩) := (blk_cell BR1.out 3).trans rfl; have r1c4 : w1.cell? ⟨w.heap.size, 4, none⟩ = some (.string ⟨#[]⟩) := (blk_cell BR1.out 4).trans rfl; have r1c5 : w1.cell? ⟨w.heap.size, 5, none⟩ = some (.slice none 0 0) := (blk_cell BR1.out 5).trans rfl; have r1z0 := blk_frozen BR1.out 0; have r1z1 := blk_frozen BR1.out 1; have r1z2 := blk_frozen BR1.out 2; have r1z3 := blk_frozen BR1.out 3; have r1z4 := blk_frozen BR1.out 4; have r1z5 := blk_frozen BR1.out 5; have HQ1 := Aside0.mk hp; have HG1 := Aside0.mk (((Gr.refl g w).alloc _).trans hg); clear hg ho hp) | (go_at_call 259; refine (must1 (HQ1.out.alloc _) (by simp) Ps.sOpen 1).mono ?_; intro e7 w2 ho; obtain ⟨hg, rfl⟩ := ho.none (msU_none HU.out); have HGN := Aside0.mk ((HG1.out.alloc _).trans hg); clear hg ho))
                        exact ⟨rfl, Out.of_none HM.out HGN.out⟩
                      | some r1 =>
                        rw [hu] at hm
                        simp only at hm
                        have HU := Aside0.mk hu
                        clear hu
                        cases hx : Ps.expr k 0 r1 with
                        | none =>
                          rw [hx] at hm
                          have HX := Aside0.mk hx
                          clear hx
                          have HM := Aside0.mk hm
                          clear hm
                          go_enter Tryz.func368, Tryz.ntmps368
                          go_wp2_with (first | (go_at_call 258; refine (next_out (HP.out.alloc _)).mono ?_; intro e w1 ho; obtain ⟨hg, v, rfl, rfl, hp⟩ := ho.some HN.out; have BR1 := Aside0.mk (hg.blk (new_blk (W := w) _ rfl) (by omega)); have hs1 : w.heap.size < w1.heap.size := blk_lt BR1.out; have r1c0 : w1.cell? ⟨w.heap.size, 0, none⟩ = some (.string ⟨#[]⟩) := (blk_cell BR1.out 0).trans rfl; have r1c1 : w1.cell? ⟨w.heap.size, 1, none⟩ = some (.int .i64 0) := (blk_cell BR1.out 1).trans rfl; have r1c2 : w1.cell? ⟨w.heap.size, 2, none⟩ = some (.int .i64 0) := (blk_cell BR1.out 2).trans rfl; have r1c3 : w1.cell? ⟨w.heap.size, 3, none⟩ = some (.string ⟨#[]⟩) := (blk_cell BR1.out 3).trans rfl; have r1c4 : w1.cell? ⟨w.heap.size, 4, none⟩ = some (.string ⟨#[]⟩) := (blk_cell BR1.out 4).trans rfl; have r1c5 : w1.cell? ⟨w.heap.size, 5, none⟩ = some (.slice none 0 0) := (blk_cell BR1.out 5).trans rfl; have r1z0 := blk_frozen BR1.out 0; have r1z1 := blk_frozen BR1.out 1; have r1z2 := blk_frozen BR1.out 2; have r1z3 := blk_frozen BR1.out 3; have r1z4 := blk_frozen BR1.out 4; have r1z5 := blk_frozen BR1.out 5; have HQ1 := Aside0.mk hp; have HG1 := Aside0.mk (((Gr.refl g w).alloc _).trans hg); clear hg ho hp) | (go_at_call 259; refine (must1 (HQ1.out.alloc _) (by simp) Ps.sOpen 1).mono ?_; intro e7 w2 ho; obtain ⟨hg, v, rfl, rfl, hp⟩ := ho.some (msU_some HU.out); have BR2 := Aside0.mk (hg.blk (blk_alloc BR1.out _) (by omega)); have BT2 := Aside0.mk (hg.blk (new_blk (W := w1) _ rfl) (by omega)); have hs2 := blk_lt BT2.out; have HQ2 := Aside0.mk hp; have HG2 := Aside0.mk ((HG1.out.alloc _).trans hg); clear hg ho hp) | (go_at_call 358; refine (ihE w0 g r1 _ 0 HQ2.out (by have := (Ps.nx_len HN.out).1; have := Ps.ms_len HU.out; omega)).mono ?_; intro e9 w3 ho; obtain ⟨hg, rfl⟩ := ho.none HX.out; have HG3 := Aside0.mk (HG2.out.trans hg); clear hg ho))
                          exact ⟨rfl, Out.of_none HM.out HG3.out⟩
                        | some p =>
                          obtain ⟨e, r2⟩ := p
                          rw [hx] at hm
                          simp only at hm
                          have HX := Aside0.mk hx
                          clear hx
                          cases hv : Ps.ms [Ps.sClose] r2 with
                          | none =>
                            rw [hv] at hm
                            have HV := Aside0.mk hv
                            clear hv
                            have HM := Aside0.mk hm
                            clear hm
                            go_enter Tryz.func368, Tryz.ntmps368
                            go_wp2_with (first | (go_at_call 258; refine (next_out (HP.out.alloc _)).mono ?_; intro e w1 ho; obtain ⟨hg, v, rfl, rfl, hp⟩ := ho.some HN.out; have BR1 := Aside0.mk (hg.blk (new_blk (W := w) _ rfl) (by omega)); have hs1 : w.heap.size < w1.heap.size := blk_lt BR1.out; have r1c0 : w1.cell? ⟨w.heap.size, 0, none⟩ = some (.string ⟨#[]⟩) := (blk_cell BR1.out 0).trans rfl; have r1c1 : w1.cell? ⟨w.heap.size, 1, none⟩ = some (.int .i64 0) := (blk_cell BR1.out 1).trans rfl; have r1c2 : w1.cell? ⟨w.heap.size, 2, none⟩ = some (.int .i64 0) := (blk_cell BR1.out 2).trans rfl; have r1c3 : w1.cell? ⟨w.heap.size, 3, none⟩ = some (.string ⟨#[]⟩) := (blk_cell BR1.out 3).trans rfl; have r1c4 : w1.cell? ⟨w.heap.size, 4, none⟩ = some (.string ⟨#[]⟩) := (blk_cell BR1.out 4).trans rfl; have r1c5 : w1.cell? ⟨w.heap.size, 5, none⟩ = some (.slice none 0 0) := (blk_cell BR1.out 5).trans rfl; have r1z0 := blk_frozen BR1.out 0; have r1z1 := blk_frozen BR1.out 1; have r1z2 := blk_frozen BR1.out 2; have r1z3 := blk_frozen BR1.out 3; have r1z4 := blk_frozen BR1.out 4; have r1z5 := blk_frozen BR1.out 5; have HQ1 := Aside0.mk hp; have HG1 := Aside0.mk (((Gr.refl g w).alloc _).trans hg); clear hg ho hp) | (go_at_call 259; refine (must1 (HQ1.out.alloc _) (by simp) Ps.sOpen 1).mono ?_; intro e7 w2 ho; obtain ⟨hg, v, rfl, rfl, hp⟩ := ho.some (msU_some HU.out); have BR2 := Aside0.mk (hg.blk (blk_alloc BR1.out _) (by omega)); have BT2 := Aside0.mk (hg.blk (new_blk (W := w1) _ rfl) (by omega)); have hs2 := blk_lt BT2.out; have HQ2 := Aside0.mk hp; have HG2 := Aside0.mk ((HG1.out.alloc _).trans hg); clear hg ho hp) | (go_at_call 358; refine (ihE w0 g r1 _ 0 HQ2.out (by have := (Ps.nx_len HN.out).1; have := Ps.ms_len HU.out; omega)).mono ?_; intro e9 w3 ho; obtain ⟨hg, v, rfl, hv, hp⟩ := ho.some HX.out; obtain ⟨Ax, nx, rfl, hnx, hfx⟩ := hv; have BR3 := Aside0.mk (hg.blk BR2.out (by omega)); have BT3 := Aside0.mk (hg.blk BT2.out (by omega)); have hs3 := blk_lt BT3.out; have HQ3 := Aside0.mk hp; have HG3 := Aside0.mk (HG2.out.trans hg); have HNX := Aside0.mk hnx; have HFX := Aside0.mk (Kd.F_mono hfx (ok' := fun q => w.heap.size < q) (fun q hq => by have h1 : w2.heap.size ≤ q := hq; omega)); clear hg ho hp hnx hfx; unfold cells43) | (go_at_call 259; refine (must1 (HQ3.out.alloc _) (by simp) Ps.sClose 1).mono ?_; intro e7 w4 ho; obtain ⟨hg, rfl⟩ := ho.none (msU_none HV.out); have HGN := Aside0.mk ((HG3.out.alloc _).trans hg); clear hg ho))
                            exact ⟨rfl, Out.of_none HM.out HGN.out⟩
                          | some r3 =>
                            rw [hv] at hm
                            have HV := Aside0.mk hv
                            clear hv
                            have HM := Aside0.mk hm
                            clear hm
                            go_enter Tryz.func368, Tryz.ntmps368
                            go_wp2_with (first | (go_at_call 258; refine (next_out (HP.out.alloc _)).mono ?_; intro e w1 ho; obtain ⟨hg, v, rfl, rfl, hp⟩ := ho.some HN.out; have BR1 := Aside0.mk (hg.blk (new_blk (W := w) _ rfl) (by omega)); have hs1 : w.heap.size < w1.heap.size := blk_lt BR1.out; have r1c0 : w1.cell? ⟨w.heap.size, 0, none⟩ = some (.string ⟨#[]⟩) := (blk_cell BR1.out 0).trans rfl; have r1c1 : w1.cell? ⟨w.heap.size, 1, none⟩ = some (.int .i64 0) := (blk_cell BR1.out 1).trans rfl; have r1c2 : w1.cell? ⟨w.heap.size, 2, none⟩ = some (.int .i64 0) := (blk_cell BR1.out 2).trans rfl; have r1c3 : w1.cell? ⟨w.heap.size, 3, none⟩ = some (.string ⟨#[]⟩) := (blk_cell BR1.out 3).trans rfl; have r1c4 : w1.cell? ⟨w.heap.size, 4, none⟩ = some (.string ⟨#[]⟩) := (blk_cell BR1.out 4).trans rfl; have r1c5 : w1.cell? ⟨w.heap.size, 5, none⟩ = some (.slice none 0 0) := (blk_cell BR1.out 5).trans rfl; have r1z0 := blk_frozen BR1.out 0; have r1z1 := blk_frozen BR1.out 1; have r1z2 := blk_frozen BR1.out 2; have r1z3 := blk_frozen BR1.out 3; have r1z4 := blk_frozen BR1.out 4; have r1z5 := blk_frozen BR1.out 5; have HQ1 := Aside0.mk hp; have HG1 := Aside0.mk (((Gr.refl g w).alloc _).trans hg); clear hg ho hp) | (go_at_call 259; refine (must1 (HQ1.out.alloc _) (by simp) Ps.sOpen 1).mono ?_; intro e7 w2 ho; obtain ⟨hg, v, rfl, rfl, hp⟩ := ho.some (msU_some HU.out); have BR2 := Aside0.mk (hg.blk (blk_alloc BR1.out _) (by omega)); have BT2 := Aside0.mk (hg.blk (new_blk (W := w1) _ rfl) (by omega)); have hs2 := blk_lt BT2.out; have HQ2 := Aside0.mk hp; have HG2 := Aside0.mk ((HG1.out.alloc _).trans hg); clear hg ho hp) | (go_at_call 358; refine (ihE w0 g r1 _ 0 HQ2.out (by have := (Ps.nx_len HN.out).1; have := Ps.ms_len HU.out; omega)).mono ?_; intro e9 w3 ho; obtain ⟨hg, v, rfl, hv, hp⟩ := ho.some HX.out; obtain ⟨Ax, nx, rfl, hnx, hfx⟩ := hv; have BR3 := Aside0.mk (hg.blk BR2.out (by omega)); have BT3 := Aside0.mk (hg.blk BT2.out (by omega)); have hs3 := blk_lt BT3.out; have HQ3 := Aside0.mk hp; have HG3 := Aside0.mk (HG2.out.trans hg); have HNX := Aside0.mk hnx; have HFX := Aside0.mk (Kd.F_mono hfx (ok' := fun q => w.heap.size < q) (fun q hq => by have h1 : w2.heap.size ≤ q := hq; omega)); clear hg ho hp hnx hfx; unfold cells43) | (go_at_call 259; refine (must1 (HQ3.out.alloc _) (by simp) Ps.sClose 1).mono ?_; intro e7 w4 ho; obtain ⟨hg, v, rfl, rfl, hp⟩ := ho.some (msU_some HV.out); have BR4 := Aside0.mk (hg.blk (blk_alloc BR3.out _) (by omega)); have r4c0 : w4.cell? ⟨w.heap.size, 0, none⟩ = some (.string ⟨#[]⟩) := (blk_cell BR4.out 0).trans rfl; have r4c1 : w4.cell? ⟨w.heap.size, 1, none⟩ = some (.int .i64 0) := (blk_cell BR4.out 1).trans rfl; have r4c2 : w4.cell? ⟨w.heap.size, 2, none⟩ = some (.int .i64 0) := (blk_cell BR4.out 2).trans rfl; have r4c3 : w4.cell? ⟨w.heap.size, 3, none⟩ = some (.string ⟨#[]⟩) := (blk_cell BR4.out 3).trans rfl; have r4c4 : w4.cell? ⟨w.heap.size, 4, none⟩ = some (.string ⟨#[]⟩) := (blk_cell BR4.out 4).trans rfl; have r4c5 : w4.cell? ⟨w.heap.size, 5, none⟩ = some (.slice none 0 0) := (blk_cell BR4.out 5).trans rfl; have r4z0 := blk_frozen BR4.out 0; have r4z1 := blk_frozen BR4.out 1; have r4z2 := blk_frozen BR4.out 2; have r4z3 := blk_frozen BR4.out 3; have r4z4 := blk_frozen BR4.out 4; have r4z5 := blk_frozen BR4.out 5; have BT4 := Aside0.mk (hg.blk (blk_alloc BT3.out _) (by omega)); have t4c0 : w4.cell? ⟨w1.heap.size, 0, none⟩ = some (.int .i64 t.f0) := (blk_cell BT4.out 0).trans rfl; have t4c1 : w4.cell? ⟨w1.heap.size, 1, none⟩ = some (.string t.f1) := (blk_cell BT4.out 1).trans rfl; have t4c2 : w4.cell? ⟨w1.heap.size, 2, none⟩ = some (.int .i64 t.f2) := (blk_cell BT4.out 2).trans rfl; have BE4 := Aside0.mk (hg.blk (new_blk (W := w3) _ rfl) (by omega)); have e4c0 : w4.cell? ⟨w3.heap.size, 0, none⟩ = some (.string e.f0) := (blk_cell BE4.out 0).trans rfl; have e4c1 : w4.cell? ⟨w3.heap.size, 1, none⟩ = some (.int .i64 e.f1.f0) := (blk_cell BE4.out 1).trans rfl; have e4c2 : w4.cell? ⟨w3.heap.size, 2, none⟩ = some (.int .i64 e.f1.f1) := (blk_cell BE4.out 2).trans rfl; have e4c3 : w4.cell? ⟨w3.heap.size, 3, none⟩ = some (.string e.f1.f2) := (blk_cell BE4.out 3).trans rfl; have e4c4 : w4.cell? ⟨w3.heap.size, 4, none⟩ = some (.string e.f2) := (blk_cell BE4.out 4).trans rfl; have e4c5 : w4.cell? ⟨w3.heap.size, 5, none⟩ = some (.slice Ax e.f3.length nx) := (blk_cell BE4.out 5).trans rfl; have hs4 : w.heap.size < w4.heap.size := blk_lt BR4.out; have ht4 : w1.heap.size < w4.heap.size := blk_lt BT4.out; have he4 : w3.heap.size < w4.heap.size := blk_lt BE4.out; have HQ4 := Aside0.mk hp; have HG4 := Aside0.mk ((HG3.out.alloc _).trans hg); have HFX4 := Aside0.mk (hg.F (Kd.F_alloc HFX.out _) (fun q hq => by have h1 : w.heap.size < q := hq; omega)); clear hg ho hp HFX; have HFX := HFX4; clear HFX4) | (go_at_call 369; refine (op_calls _ _ _ _ _).mono ?_; rintro e8 w8 ⟨rfl, o8, rfl⟩))
                            refine bodyPost_ret (v := .agg (cells43 (Ps.op t.f1 [e]) (some ⟨w4.heap.size, 0, none⟩) 1).toArray) ?_ rfl ?_
                            · simp [results, Tryz.results368, go_sem, cells43, r4c0, r4z0, r4c1, r4z1, r4c2, r4z2, r4c3, r4z3, r4c4, r4z4, r4c5, r4z5, hs4] <;> exact ⟨rfl, rfl, rfl, rfl, rfl, rfl⟩
                            · refine Out.of_some HM.out ?_ ⟨some ⟨w4.heap.size, 0, none⟩, 1, rfl, Nat.le_refl _, ?_⟩ ?_
                              · with_reducible (repeat (first | exact HG4.out | refine Gr.setB ?_ (Nat.le_refl _) _ _ | apply Gr.alloc | apply Gr.drewN))
                              · refine F_one (x := e) (A := Ax) (c := nx) ?_ (by omega) HNX.out ?_
                                · exact blk_alloc (new_blk _ (by simp)) _
                                · refine Kd.F_mono (ok := fun q => w.heap.size < q) ?_ (fun q hq => Nat.le_of_lt hq)
                                  with_reducible (repeat (first | exact HFX.out | refine Kd.F_far ?_ (fun q hq => Nat.ne_of_gt hq) _ | apply Kd.F_alloc))
                              · with_reducible (repeat (first | exact HQ4.out | refine PS.setB ?_ (by omega) (by omega) _ _ | apply PS.alloc | apply PS.drewN))
                    · by_cases m8 : t.f1.toList = Ps.sMax.toList
                      · rw [if_pos (Or.inr (Or.inr m8))] at hm
                        rw [wMax] at m8
                        rw [wSum] at m6
                        rw [wMin] at m7
                        have q6 : (t.f1.toList == [115, 117, 109]) = false := beq_eq_false_iff_ne.mpr m6
                        have q7 : (t.f1.toList == [109, 105, 110]) = false := beq_eq_false_iff_ne.mpr m7
                        have q8 : (t.f1.toList == [109, 97, 120]) = true := beq_iff_eq.mpr m8
                        clear m6 m7 m8
                        cases hu : Ps.ms [Ps.sOpen] r with
                        | none =>
                          rw [hu] at hm
                          have HU := Aside0.mk hu
                          clear hu
                          have HM := Aside0.mk hm
                          clear hm
                          go_enter Tryz.func368, Tryz.ntmps368
                          go_wp2_with (first | (go_at_call 258; refine (next_out (HP.out.alloc _)).mono ?_; intro e w1 ho; obtain ⟨hg, v, rfl, rfl, hp⟩ := ho.some HN.out; have BR1 := Aside0.mk (hg.blk (new_blk (W := w) _ rfl) (by omega)); have hs1 : w.heap.size < w1.heap.size := blk_lt BR1.out; have r1c0 : w1.cell? ⟨w.heap.size, 0, none⟩ = some (.string ⟨#[]⟩) := (blk_cell BR1.out 0).trans rfl; have r1c1 : w1.cell? ⟨w.heap.size, 1, none⟩ = some (.int .i64 0) := (blk_cell BR1.out 1).trans rfl; have r1c2 : w1.cell? ⟨w.heap.size, 2, none⟩ = some (.int .i64 0) := (blk_cell BR1.out 2).trans rfl; have r1c3 : w1.cell? ⟨w.heap.size, 3, none⟩ = some (.string ⟨#[]⟩) := (blk_cell BR1.out 3).trans rfl; have r1c4 : w1.cell? ⟨w.heap.size, 4, none⟩ = some (.string ⟨#[]⟩) := (blk_cell BR1.out 4).trans rfl; have r1c5 : w1.cell? ⟨w.heap.size, 5, none⟩ = some (.slice none 0 0) := (blk_cell BR1.out 5).trans rfl; have r1z0 := blk_frozen BR1.out 0; have r1z1 := blk_frozen BR1.out 1; have r1z2 := blk_frozen BR1.out 2; have r1z3 := blk_frozen BR1.out 3; have r1z4 := blk_frozen BR1.out 4; have r1z5 := blk_frozen BR1.out 5; have HQ1 := Aside0.mk hp; have HG1 := Aside0.mk (((Gr.refl g w).alloc _).trans hg); clear hg ho hp) | (go_at_call 259; refine (must1 (HQ1.out.alloc _) (by simp) Ps.sOpen 1).mono ?_; intro e7 w2 ho; obtain ⟨hg, rfl⟩ := ho.none (msU_none HU.out); have HGN := Aside0.mk ((HG1.out.alloc _).trans hg); clear hg ho))
                          exact ⟨rfl, Out.of_none HM.out HGN.out⟩
                        | some r1 =>
                          rw [hu] at hm
                          simp only at hm
                          have HU := Aside0.mk hu
                          clear hu
                          cases hx : Ps.expr k 0 r1 with
                          | none =>
                            rw [hx] at hm
                            have HX := Aside0.mk hx
                            clear hx
                            have HM := Aside0.mk hm
                            clear hm
                            go_enter Tryz.func368, Tryz.ntmps368
                            go_wp2_with (first | (go_at_call 258; refine (next_out (HP.out.alloc _)).mono ?_; intro e w1 ho; obtain ⟨hg, v, rfl, rfl, hp⟩ := ho.some HN.out; have BR1 := Aside0.mk (hg.blk (new_blk (W := w) _ rfl) (by omega)); have hs1 : w.heap.size < w1.heap.size := blk_lt BR1.out; have r1c0 : w1.cell? ⟨w.heap.size, 0, none⟩ = some (.string ⟨#[]⟩) := (blk_cell BR1.out 0).trans rfl; have r1c1 : w1.cell? ⟨w.heap.size, 1, none⟩ = some (.int .i64 0) := (blk_cell BR1.out 1).trans rfl; have r1c2 : w1.cell? ⟨w.heap.size, 2, none⟩ = some (.int .i64 0) := (blk_cell BR1.out 2).trans rfl; have r1c3 : w1.cell? ⟨w.heap.size, 3, none⟩ = some (.string ⟨#[]⟩) := (blk_cell BR1.out 3).trans rfl; have r1c4 : w1.cell? ⟨w.heap.size, 4, none⟩ = some (.string ⟨#[]⟩) := (blk_cell BR1.out 4).trans rfl; have r1c5 : w1.cell? ⟨w.heap.size, 5, none⟩ = some (.slice none 0 0) := (blk_cell BR1.out 5).trans rfl; have r1z0 := blk_frozen BR1.out 0; have r1z1 := blk_frozen BR1.out 1; have r1z2 := blk_frozen BR1.out 2; have r1z3 := blk_frozen BR1.out 3; have r1z4 := blk_frozen BR1.out 4; have r1z5 := blk_frozen BR1.out 5; have HQ1 := Aside0.mk hp; have HG1 := Aside0.mk (((Gr.refl g w).alloc _).trans hg); clear hg ho hp) | (go_at_call 259; refine (must1 (HQ1.out.alloc _) (by simp) Ps.sOpen 1).mono ?_; intro e7 w2 ho; obtain ⟨hg, v, rfl, rfl, hp⟩ := ho.some (msU_some HU.out); have BR2 := Aside0.mk (hg.blk (blk_alloc BR1.out _) (by omega)); have BT2 := Aside0.mk (hg.blk (new_blk (W := w1) _ rfl) (by omega)); have hs2 := blk_lt BT2.out; have HQ2 := Aside0.mk hp; have HG2 := Aside0.mk ((HG1.out.alloc _).trans hg); clear hg ho hp) | (go_at_call 358; refine (ihE w0 g r1 _ 0 HQ2.out (by have := (Ps.nx_len HN.out).1; have := Ps.ms_len HU.out; omega)).mono ?_; intro e9 w3 ho; obtain ⟨hg, rfl⟩ := ho.none HX.out; have HG3 := Aside0.mk (HG2.out.trans hg); clear hg ho))
                            exact ⟨rfl, Out.of_none HM.out HG3.out⟩
                          | some p =>
                            obtain ⟨e, r2⟩ := p
                            rw [hx] at hm
                            simp only at hm
                            have HX := Aside0.mk hx
                            clear hx
                            cases hv : Ps.ms [Ps.sClose] r2 with
                            | none =>
                              rw [hv] at hm
                              have HV := Aside0.mk hv
                              clear hv
                              have HM := Aside0.mk hm
                              clear hm
                              go_enter Tryz.func368, Tryz.ntmps368
                              go_wp2_with (first | (go_at_call 258; refine (next_out (HP.out.alloc _)).mono ?_; intro e w1 ho; obtain ⟨hg, v, rfl, rfl, hp⟩ := ho.some HN.out; have BR1 := Aside0.mk (hg.blk (new_blk (W := w) _ rfl) (by omega)); have hs1 : w.heap.size < w1.heap.size := blk_lt BR1.out; have r1c0 : w1.cell? ⟨w.heap.size, 0, none⟩ = some (.string ⟨#[]⟩) := (blk_cell BR1.out 0).trans rfl; have r1c1 : w1.cell? ⟨w.heap.size, 1, none⟩ = some (.int .i64 0) := (blk_cell BR1.out 1).trans rfl; have r1c2 : w1.cell? ⟨w.heap.size, 2, none⟩ = some (.int .i64 0) := (blk_cell BR1.out 2).trans rfl; have r1c3 : w1.cell? ⟨w.heap.size, 3, none⟩ = some (.string ⟨#[]⟩) := (blk_cell BR1.out 3).trans rfl; have r1c4 : w1.cell? ⟨w.heap.size, 4, none⟩ = some (.string ⟨#[]⟩) := (blk_cell BR1.out 4).trans rfl; have r1c5 : w1.cell? ⟨w.heap.size, 5, none⟩ = some (.slice none 0 0) := (blk_cell BR1.out 5).trans rfl; have r1z0 := blk_frozen BR1.out 0; have r1z1 := blk_frozen BR1.out 1; have r1z2 := blk_frozen BR1.out 2; have r1z3 := blk_frozen BR1.out 3; have r1z4 := blk_frozen BR1.out 4; have r1z5 := blk_frozen BR1.out 5; have HQ1 := Aside0.mk hp; have HG1 := Aside0.mk (((Gr.refl g w).alloc _).trans hg); clear hg ho hp) | (go_at_call 259; refine (must1 (HQ1.out.alloc _) (by simp) Ps.sOpen 1).mono ?_; intro e7 w2 ho; obtain ⟨hg, v, rfl, rfl, hp⟩ := ho.some (msU_some HU.out); have BR2 := Aside0.mk (hg.blk (blk_alloc BR1.out _) (by omega)); have BT2 := Aside0.mk (hg.blk (new_blk (W := w1) _ rfl) (by omega)); have hs2 := blk_lt BT2.out; have HQ2 := Aside0.mk hp; have HG2 := Aside0.mk ((HG1.out.alloc _).trans hg); clear hg ho hp) | (go_at_call 358; refine (ihE w0 g r1 _ 0 HQ2.out (by have := (Ps.nx_len HN.out).1; have := Ps.ms_len HU.out; omega)).mono ?_; intro e9 w3 ho; obtain ⟨hg, v, rfl, hv, hp⟩ := ho.some HX.out; obtain ⟨Ax, nx, rfl, hnx, hfx⟩ := hv; have BR3 := Aside0.mk (hg.blk BR2.out (by omega)); have BT3 := Aside0.mk (hg.blk BT2.out (by omega)); have hs3 := blk_lt BT3.out; have HQ3 := Aside0.mk hp; have HG3 := Aside0.mk (HG2.out.trans hg); have HNX := Aside0.mk hnx; have HFX := Aside0.mk (Kd.F_mono hfx (ok' := fun q => w.heap.size < q) (fun q hq => by have h1 : w2.heap.size ≤ q := hq; omega)); clear hg ho hp hnx hfx; unfold cells43) | (go_at_call 259; refine (must1 (HQ3.out.alloc _) (by simp) Ps.sClose 1).mono ?_; intro e7 w4 ho; obtain ⟨hg, rfl⟩ := ho.none (msU_none HV.out); have HGN := Aside0.mk ((HG3.out.alloc _).trans hg); clear hg ho))
                              exact ⟨rfl, Out.of_none HM.out HGN.out⟩
                            | some r3 =>
                              rw [hv] at hm
                              have HV := Aside0.mk hv
                              clear hv
                              have HM := Aside0.mk hm
                              clear hm
                              go_enter Tryz.func368, Tryz.ntmps368
                              go_wp2_with (first | (go_at_call 258; refine (next_out (HP.out.alloc _)).mono ?_; intro e w1 ho; obtain ⟨hg, v, rfl, rfl, hp⟩ := ho.some HN.out; have BR1 := Aside0.mk (hg.blk (new_blk (W := w) _ rfl) (by omega)); have hs1 : w.heap.size < w1.heap.size := blk_lt BR1.out; have r1c0 : w1.cell? ⟨w.heap.size, 0, none⟩ = some (.string ⟨#[]⟩) := (blk_cell BR1.out 0).trans rfl; have r1c1 : w1.cell? ⟨w.heap.size, 1, none⟩ = some (.int .i64 0) := (blk_cell BR1.out 1).trans rfl; have r1c2 : w1.cell? ⟨w.heap.size, 2, none⟩ = some (.int .i64 0) := (blk_cell BR1.out 2).trans rfl; have r1c3 : w1.cell? ⟨w.heap.size, 3, none⟩ = some (.string ⟨#[]⟩) := (blk_cell BR1.out 3).trans rfl; have r1c4 : w1.cell? ⟨w.heap.size, 4, none⟩ = some (.string ⟨#[]⟩) := (blk_cell BR1.out 4).trans rfl; have r1c5 : w1.cell? ⟨w.heap.size, 5, none⟩ = some (.slice none 0 0) := (blk_cell BR1.out 5).trans rfl; have r1z0 := blk_frozen BR1.out 0; have r1z1 := blk_frozen BR1.out 1; have r1z2 := blk_frozen BR1.out 2; have r1z3 := blk_frozen BR1.out 3; have r1z4 := blk_frozen BR1.out 4; have r1z5 := blk_frozen BR1.out 5; have HQ1 := Aside0.mk hp; have HG1 := Aside0.mk (((Gr.refl g w).alloc _).trans hg); clear hg ho hp) | (go_at_call 259; refine (must1 (HQ1.out.alloc _) (by simp) Ps.sOpen 1).mono ?_; intro e7 w2 ho; obtain ⟨hg, v, rfl, rfl, hp⟩ := ho.some (msU_some HU.out); have BR2 := Aside0.mk (hg.blk (blk_alloc BR1.out _) (by omega)); have BT2 := Aside0.mk (hg.blk (new_blk (W := w1) _ rfl) (by omega)); have hs2 := blk_lt BT2.out; have HQ2 := Aside0.mk hp; have HG2 := Aside0.mk ((HG1.out.alloc _).trans hg); clear hg ho hp) | (go_at_call 358; refine (ihE w0 g r1 _ 0 HQ2.out (by have := (Ps.nx_len HN.out).1; have := Ps.ms_len HU.out; omega)).mono ?_; intro e9 w3 ho; obtain ⟨hg, v, rfl, hv, hp⟩ := ho.some HX.out; obtain ⟨Ax, nx, rfl, hnx, hfx⟩ := hv; have BR3 := Aside0.mk (hg.blk BR2.out (by omega)); have BT3 := Aside0.mk (hg.blk BT2.out (by omega)); have hs3 := blk_lt BT3.out; have HQ3 := Aside0.mk hp; have HG3 := Aside0.mk (HG2.out.trans hg); have HNX := Aside0.mk hnx; have HFX := Aside0.mk (Kd.F_mono hfx (ok' := fun q => w.heap.size < q) (fun q hq => by have h1 : w2.heap.size ≤ q := hq; omega)); clear hg ho hp hnx hfx; unfold cells43) | (go_at_call 259; refine (must1 (HQ3.out.alloc _) (by simp) Ps.sClose 1).mono ?_; intro e7 w4 ho; obtain ⟨hg, v, rfl, rfl, hp⟩ := ho.some (msU_some HV.out); have BR4 := Aside0.mk (hg.blk (blk_alloc BR3.out _) (by omega)); have r4c0 : w4.cell? ⟨w.heap.size, 0, none⟩ = some (.string ⟨#[]⟩) := (blk_cell BR4.out 0).trans rfl; have r4c1 : w4.cell? ⟨w.heap.size, 1, none⟩ = some (.int .i64 0) := (blk_cell BR4.out 1).trans rfl; have r4c2 : w4.cell? ⟨w.heap.size, 2, none⟩ = some (.int .i64 0) := (blk_cell BR4.out 2).trans rfl; have r4c3 : w4.cell? ⟨w.heap.size, 3, none⟩ = some (.string ⟨#[]⟩) := (blk_cell BR4.out 3).trans rfl; have r4c4 : w4.cell? ⟨w.heap.size, 4, none⟩ = some (.string ⟨#[]⟩) := (blk_cell BR4.out 4).trans rfl; have r4c5 : w4.cell? ⟨w.heap.size, 5, none⟩ = some (.slice none 0 0) := (blk_cell BR4.out 5).trans rfl; have r4z0 := blk_frozen BR4.out 0; have r4z1 := blk_frozen BR4.out 1; have r4z2 := blk_frozen BR4.out 2; have r4z3 := blk_frozen BR4.out 3; have r4z4 := blk_frozen BR4.out 4; have r4z5 := blk_frozen BR4.out 5; have BT4 := Aside0.mk (hg.blk (blk_alloc BT3.out _) (by omega)); have t4c0 : w4.cell? ⟨w1.heap.size, 0, none⟩ = some (.int .i64 t.f0) := (blk_cell BT4.out 0).trans rfl; have t4c1 : w4.cell? ⟨w1.heap.size, 1, none⟩ = some (.string t.f1) := (blk_cell BT4.out 1).trans rfl; have t4c2 : w4.cell? ⟨w1.heap.size, 2, none⟩ = some (.int .i64 t.f2) := (blk_cell BT4.out 2).trans rfl; have BE4 := Aside0.mk (hg.blk (new_blk (W := w3) _ rfl) (by omega)); have e4c0 : w4.cell? ⟨w3.heap.size, 0, none⟩ = some (.string e.f0) := (blk_cell BE4.out 0).trans rfl; have e4c1 : w4.cell? ⟨w3.heap.size, 1, none⟩ = some (.int .i64 e.f1.f0) := (blk_cell BE4.out 1).trans rfl; have e4c2 : w4.cell? ⟨w3.heap.size, 2, none⟩ = some (.int .i64 e.f1.f1) := (blk_cell BE4.out 2).trans rfl; have e4c3 : w4.cell? ⟨w3.heap.size, 3, none⟩ = some (.string e.f1.f2) := (blk_cell BE4.out 3).trans rfl; have e4c4 : w4.cell? ⟨w3.heap.size, 4, none⟩ = some (.string e.f2) := (blk_cell BE4.out 4).trans rfl; have e4c5 : w4.cell? ⟨w3.heap.size, 5, none⟩ = some (.slice Ax e.f3.length nx) := (blk_cell BE4.out 5).trans rfl; have hs4 : w.heap.size < w4.heap.size := blk_lt BR4.out; have ht4 : w1.heap.size < w4.heap.size := blk_lt BT4.out; have he4 : w3.heap.size < w4.heap.size := blk_lt BE4.out; have HQ4 := Aside0.mk hp; have HG4 := Aside0.mk ((HG3.out.alloc _).trans hg); have HFX4 := Aside0.mk (hg.F (Kd.F_alloc HFX.out _) (fun q hq => by have h1 : w.heap.size < q := hq; omega)); clear hg ho hp HFX; have HFX := HFX4; clear HFX4) | (go_at_call 369; refine (op_calls _ _ _ _ _).mono ?_; rintro e8 w8 ⟨rfl, o8, rfl⟩))
                              refine bodyPost_ret (v := .agg (cells43 (Ps.op t.f1 [e]) (some ⟨w4.heap.size, 0, none⟩) 1).toArray) ?_ rfl ?_
                              · simp [results, Tryz.results368, go_sem, cells43, r4c0, r4z0, r4c1, r4z1, r4c2, r4z2, r4c3, r4z3, r4c4, r4z4, r4c5, r4z5, hs4] <;> exact ⟨rfl, rfl, rfl, rfl, rfl, rfl⟩
                              · refine Out.of_some HM.out ?_ ⟨some ⟨w4.heap.size, 0, none⟩, 1, rfl, Nat.le_refl _, ?_⟩ ?_
                                · with_reducible (repeat (first | exact HG4.out | refine Gr.setB ?_ (Nat.le_refl _) _ _ | apply Gr.alloc | apply Gr.drewN))
                                · refine F_one (x := e) (A := Ax) (c := nx) ?_ (by omega) HNX.out ?_
                                  · exact blk_alloc (new_blk _ (by simp)) _
                                  · refine Kd.F_mono (ok := fun q => w.heap.size < q) ?_ (fun q hq => Nat.le_of_lt hq)
                                    with_reducible (repeat (first | exact HFX.out | refine Kd.F_far ?_ (fun q hq => Nat.ne_of_gt hq) _ | apply Kd.F_alloc))
                                · with_reducible (repeat (first | exact HQ4.out | refine PS.setB ?_ (by omega) (by omega) _ _ | apply PS.alloc | apply PS.drewN))
                      · rw [if_neg (by rintro (h | h | h) <;> contradiction)] at hm
                        rw [wMax] at m8
                        rw [wSum] at m6
                        rw [wMin] at m7
                        have q6 : (t.f1.toList == [115, 117, 109]) = false := beq_eq_false_iff_ne.mpr m6
                        have q7 : (t.f1.toList == [109, 105, 110]) = false := beq_eq_false_iff_ne.mpr m7
                        have q8 : (t.f1.toList == [109, 97, 120]) = false := beq_eq_false_iff_ne.mpr m8
                        clear m6 m7 m8
                        by_cases k1 : t.f0 = 1
                        · rw [if_pos k1] at hm
                          have b1 : (t.f0 != 1) = false := bne_eq_false_iff_eq.mpr k1
                          have RS := Aside0.mk (reserved_is t.f1)
                          cases hr : Ps.reserved t.f1 with
                          | true =>
                            rw [hr] at hm RS
                            rw [if_pos rfl] at hm
                            clear hr
                            have HM := Aside0.mk hm
                            clear hm
                            go_enter Tryz.func368, Tryz.ntmps368
                            go_wp2_with (first | (go_at_call 258; refine (next_out (HP.out.alloc _)).mono ?_; intro e w1 ho; obtain ⟨hg, v, rfl, rfl, hp⟩ := ho.some HN.out; have BR1 := Aside0.mk (hg.blk (new_blk (W := w) _ rfl) (by omega)); have hs1 : w.heap.size < w1.heap.size := blk_lt BR1.out; have r1c0 : w1.cell? ⟨w.heap.size, 0, none⟩ = some (.string ⟨#[]⟩) := (blk_cell BR1.out 0).trans rfl; have r1c1 : w1.cell? ⟨w.heap.size, 1, none⟩ = some (.int .i64 0) := (blk_cell BR1.out 1).trans rfl; have r1c2 : w1.cell? ⟨w.heap.size, 2, none⟩ = some (.int .i64 0) := (blk_cell BR1.out 2).trans rfl; have r1c3 : w1.cell? ⟨w.heap.size, 3, none⟩ = some (.string ⟨#[]⟩) := (blk_cell BR1.out 3).trans rfl; have r1c4 : w1.cell? ⟨w.heap.size, 4, none⟩ = some (.string ⟨#[]⟩) := (blk_cell BR1.out 4).trans rfl; have r1c5 : w1.cell? ⟨w.heap.size, 5, none⟩ = some (.slice none 0 0) := (blk_cell BR1.out 5).trans rfl; have r1z0 := blk_frozen BR1.out 0; have r1z1 := blk_frozen BR1.out 1; have r1z2 := blk_frozen BR1.out 2; have r1z3 := blk_frozen BR1.out 3; have r1z4 := blk_frozen BR1.out 4; have r1z5 := blk_frozen BR1.out 5; have HQ1 := Aside0.mk hp; have HG1 := Aside0.mk (((Gr.refl g w).alloc _).trans hg); clear hg ho hp) | (go_at_call 324; refine (parse_reserved.calls _ _ _ RS.out).mono ?_; rintro e8 w8 ⟨rfl, ⟨nd, rfl⟩⟩) | (go_at_call 264; refine (fail_calls g _).mono ?_; rintro e8 w8 ⟨rfl, rfl⟩))
                            exact ⟨rfl, Out.of_none HM.out ((HG1.out.alloc _).drewN _)⟩
                          | false =>
                            rw [hr] at hm RS
                            rw [if_neg (by simp)] at hm
                            clear hr
                            have HM := Aside0.mk hm
                            clear hm
                            go_enter Tryz.func368, Tryz.ntmps368
                            go_wp2_with (first | (go_at_call 258; refine (next_out (HP.out.alloc _)).mono ?_; intro e w1 ho; obtain ⟨hg, v, rfl, rfl, hp⟩ := ho.some HN.out; have BR1 := Aside0.mk (hg.blk (new_blk (W := w) _ rfl) (by omega)); have hs1 : w.heap.size < w1.heap.size := blk_lt BR1.out; have r1c0 : w1.cell? ⟨w.heap.size, 0, none⟩ = some (.string ⟨#[]⟩) := (blk_cell BR1.out 0).trans rfl; have r1c1 : w1.cell? ⟨w.heap.size, 1, none⟩ = some (.int .i64 0) := (blk_cell BR1.out 1).trans rfl; have r1c2 : w1.cell? ⟨w.heap.size, 2, none⟩ = some (.int .i64 0) := (blk_cell BR1.out 2).trans rfl; have r1c3 : w1.cell? ⟨w.heap.size, 3, none⟩ = some (.string ⟨#[]⟩) := (blk_cell BR1.out 3).trans rfl; have r1c4 : w1.cell? ⟨w.heap.size, 4, none⟩ = some (.string ⟨#[]⟩) := (blk_cell BR1.out 4).trans rfl; have r1c5 : w1.cell? ⟨w.heap.size, 5, none⟩ = some (.slice none 0 0) := (blk_cell BR1.out 5).trans rfl; have r1z0 := blk_frozen BR1.out 0; have r1z1 := blk_frozen BR1.out 1; have r1z2 := blk_frozen BR1.out 2; have r1z3 := blk_frozen BR1.out 3; have r1z4 := blk_frozen BR1.out 4; have r1z5 := blk_frozen BR1.out 5; have HQ1 := Aside0.mk hp; have HG1 := Aside0.mk (((Gr.refl g w).alloc _).trans hg); clear hg ho hp) | (go_at_call 324; refine (parse_reserved.calls _ _ _ RS.out).mono ?_; rintro e8 w8 ⟨rfl, ⟨nd, rfl⟩⟩))
                            refine bodyPost_ret (v := .agg (cells43 (⟨Ps.sCol, Ps.v0, t.f1, []⟩) (none) 0).toArray) ?_ rfl ?_
                            · simp [results, Tryz.results368, go_sem, cells43, r1c0, r1z0, r1c1, r1z1, r1c2, r1z2, r1c3, r1z3, r1c4, r1z4, r1c5, r1z5, hs1] <;> exact ⟨rfl, rfl, rfl, rfl, rfl, rfl⟩
                            · refine Out.of_some HM.out ?_ ⟨none, 0, rfl, Nat.le_refl _, ?_⟩ ?_
                              · with_reducible (repeat (first | exact HG1.out | refine Gr.setB ?_ (Nat.le_refl _) _ _ | apply Gr.alloc | apply Gr.drewN))
                              · exact Kd.F_nil _ _ _
                              · with_reducible (repeat (first | exact HQ1.out | refine PS.setB ?_ (by omega) (by omega) _ _ | apply PS.alloc | apply PS.drewN))
                        · rw [if_neg k1] at hm
                          have b1 : (t.f0 != 1) = true := bne_iff_ne.mpr k1
                          have HM := Aside0.mk hm
                          clear hm
                          go_enter Tryz.func368, Tryz.ntmps368
                          go_wp2_with (first | (go_at_call 258; refine (next_out (HP.out.alloc _)).mono ?_; intro e w1 ho; obtain ⟨hg, v, rfl, rfl, hp⟩ := ho.some HN.out; have BR1 := Aside0.mk (hg.blk (new_blk (W := w) _ rfl) (by omega)); have hs1 : w.heap.size < w1.heap.size := blk_lt BR1.out; have r1c0 : w1.cell? ⟨w.heap.size, 0, none⟩ = some (.string ⟨#[]⟩) := (blk_cell BR1.out 0).trans rfl; have r1c1 : w1.cell? ⟨w.heap.size, 1, none⟩ = some (.int .i64 0) := (blk_cell BR1.out 1).trans rfl; have r1c2 : w1.cell? ⟨w.heap.size, 2, none⟩ = some (.int .i64 0) := (blk_cell BR1.out 2).trans rfl; have r1c3 : w1.cell? ⟨w.heap.size, 3, none⟩ = some (.string ⟨#[]⟩) := (blk_cell BR1.out 3).trans rfl; have r1c4 : w1.cell? ⟨w.heap.size, 4, none⟩ = some (.string ⟨#[]⟩) := (blk_cell BR1.out 4).trans rfl; have r1c5 : w1.cell? ⟨w.heap.size, 5, none⟩ = some (.slice none 0 0) := (blk_cell BR1.out 5).trans rfl; have r1z0 := blk_frozen BR1.out 0; have r1z1 := blk_frozen BR1.out 1; have r1z2 := blk_frozen BR1.out 2; have r1z3 := blk_frozen BR1.out 3; have r1z4 := blk_frozen BR1.out 4; have r1z5 := blk_frozen BR1.out 5; have HQ1 := Aside0.mk hp; have HG1 := Aside0.mk (((Gr.refl g w).alloc _).trans hg); clear hg ho hp) | (go_at_call 264; refine (fail_calls g _).mono ?_; rintro e8 w8 ⟨rfl, rfl⟩))
                          exact ⟨rfl, Out.of_none HM.out (HG1.out.alloc _)⟩
  
theorem expr_first (k : Nat) : (∀ j, j ≤ k → ExprAt j) ∧ (∀ j, j ≤ k → FirstAt j) := by
  induction k with
  | zero =>
    refine ⟨fun j hj => ?_, fun j hj => ?_⟩
    · obtain rfl : j = 0 := by omega
      intro w0 g ts w least hp hk
      omega
    · obtain rfl : j = 0 := by omega
      intro w0 g ts w hp hk
      obtain ⟨t, r, rfl⟩ := hp.ends.cons
      simp at hk
  | succ k ih =>
    refine ⟨fun j hj => ?_, fun j hj => ?_⟩
    · rcases Nat.lt_or_ge j (k + 1) with h | h
      · exact ih.1 j (by omega)
      · obtain rfl : j = k + 1 := by omega
        exact expr_step k ih.1 (ih.2 k (Nat.le_refl _))
    · rcases Nat.lt_or_ge j (k + 1) with h | h
      · exact ih.2 j (by omega)
      · obtain rfl : j = k + 1 := by omega
        exact first_step k (ih.1 k (Nat.le_refl _))
/-- expr, whatever the tokens, with rounds enough. -/
theorem expr_out {w0 w : World} {g : Nat} {ts : List S32} (h : PS w0 g ts w) (least : Int) {k : Nat} (hk : 2 * ts.length + 1 ≤ k) : Calls Tryz.prog 358 #[.pointer (some ⟨g, 0, none⟩), .int .i64 least] w (Out w0 g (Vex w.heap.size) w (Ps.expr k least ts)) :=
  (expr_first k).1 k (Nat.le_refl _) w0 g ts w least h hk

end Go.Proofs.YtcgdncpioafbdaaGreatDoor.Q

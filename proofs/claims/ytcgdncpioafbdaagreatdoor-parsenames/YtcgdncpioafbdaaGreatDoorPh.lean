/- The parser: any, where, row. -/
import Derived.Test.YtcgdncpioafbdaaGreatDoorPgE
namespace Go.Proofs.YtcgdncpioafbdaaGreatDoor.Q
open Go Go.RowKit Go.Proofs.YtcgdncpioafbdaaGreatDoorW.PrintWords

set_option maxHeartbeats 1000000 in
set_option maxRecDepth 100000 in
theorem any_out {w0 w : World} {g : Nat} {ts : List S32} (h : PS w0 g ts w) {k : Nat} (hk : 2 * ts.length + 1 ≤ k) : Calls Tryz.prog 326 #[.pointer (some ⟨g, 0, none⟩)] w (Out w0 g (Vex w.heap.size) w (Ps.expr k 0 ts)) := by
  have HP := Aside0.mk h
  clear h
  have hlt := HP.out.lt
  have hlow := HP.out.low
  cases hx : Ps.expr k 0 ts with
  | none =>
    have HX := Aside0.mk hx
    clear hx
    go_enter Tryz.func326, Tryz.ntmps326
    go_wp2_with (first | (go_at_call 358; refine (expr_out (HP.out.alloc _) 0 hk).mono ?_; intro e9 w2 ho; obtain ⟨hg, rfl⟩ := ho.none HX.out; have HG2 := Aside0.mk (((Gr.refl g w).alloc _).trans hg); clear hg ho))
    exact ⟨rfl, Out.of_none rfl HG2.out⟩
  | some p =>
    obtain ⟨x, r⟩ := p
    have HX := Aside0.mk hx
    clear hx
    go_enter Tryz.func326, Tryz.ntmps326
    go_wp2_with (first | (go_at_call 358; refine (expr_out (HP.out.alloc _) 0 hk).mono ?_; intro e9 w2 ho; obtain ⟨hg, v, rfl, hv, hp⟩ := ho.some HX.out; obtain ⟨Ax, nx, rfl, hnx, hfx⟩ := hv; have BR2 := Aside0.mk (hg.blk (new_blk (W := w) _ rfl) (by omega)); have hs2 : w.heap.size < w2.heap.size := blk_lt BR2.out; have r2c0 : w2.cell? ⟨w.heap.size, 0, none⟩ = some (.string ⟨#[]⟩) := (blk_cell BR2.out 0).trans rfl; have r2c1 : w2.cell? ⟨w.heap.size, 1, none⟩ = some (.int .i64 0) := (blk_cell BR2.out 1).trans rfl; have r2c2 : w2.cell? ⟨w.heap.size, 2, none⟩ = some (.int .i64 0) := (blk_cell BR2.out 2).trans rfl; have r2c3 : w2.cell? ⟨w.heap.size, 3, none⟩ = some (.string ⟨#[]⟩) := (blk_cell BR2.out 3).trans rfl; have r2c4 : w2.cell? ⟨w.heap.size, 4, none⟩ = some (.string ⟨#[]⟩) := (blk_cell BR2.out 4).trans rfl; have r2c5 : w2.cell? ⟨w.heap.size, 5, none⟩ = some (.slice none 0 0) := (blk_cell BR2.out 5).trans rfl; have r2z0 := blk_frozen BR2.out 0; have r2z1 := blk_frozen BR2.out 1; have r2z2 := blk_frozen BR2.out 2; have r2z3 := blk_frozen BR2.out 3; have r2z4 := blk_frozen BR2.out 4; have r2z5 := blk_frozen BR2.out 5; have HQ2 := Aside0.mk hp; have HG2 := Aside0.mk (((Gr.refl g w).alloc _).trans hg); have HNX := Aside0.mk hnx; have HFX := Aside0.mk (Kd.F_mono hfx (ok' := fun q => w.heap.size < q) (fun q hq => by simp at hq; omega)); clear hg ho hp hnx hfx; unfold cells43))
    refine bodyPost_ret (v := .agg (cells43 x Ax nx).toArray) ?_ rfl ?_
    · simp [results, Tryz.results326, go_sem, cells43, r2c0, r2z0, r2c1, r2z1, r2c2, r2z2, r2c3, r2z3, r2c4, r2z4, r2c5, r2z5, hs2]
    · refine Out.of_some rfl ?_ ⟨Ax, nx, rfl, HNX.out, ?_⟩ ?_
      · with_reducible (repeat (first | exact HG2.out | refine Gr.setB ?_ (Nat.le_refl _) _ _))
      · refine Kd.F_mono (ok := fun q => w.heap.size < q) ?_ (fun q hq => Nat.le_of_lt hq)
        with_reducible (repeat (first | exact HFX.out | refine Kd.F_far ?_ (fun q hq => Nat.ne_of_gt hq) _))
      · with_reducible (repeat (first | exact HQ2.out | refine PS.setB ?_ (by omega) (by omega) _ _))

theorem out_g {α : Type} {w0 w w' : World} {g : Nat} {V : World → α → Value → Prop} {m : Option (α × List S32)} {m' : Option ((α × Unit) × List S32)} {e : Ending} (h : Out w0 g V w m e w') (hm : m' = m.map fun p => ((p.1, ()), p.2)) : OutG (· = g) (fun _ ts w => PS w0 g ts w) V w m' e w' := by
  subst hm
  obtain ⟨hg, hm⟩ := h
  refine ⟨Gs.of_gr hg rfl, ?_⟩
  cases m with
  | none => exact hm
  | some p => exact hm
theorem g_out {α : Type} {w0 w w' : World} {g : Nat} {V : World → α → Value → Prop} {m : Option (α × List S32)} {m' : Option ((α × Unit) × List S32)} {e : Ending} (h : OutG (· = g) (fun _ ts w => PS w0 g ts w) V w m' e w') (hm : m = m'.map fun p => (p.1.1, p.2)) : Out w0 g V w m e w' := by
  subst hm
  obtain ⟨hg, hm⟩ := h
  refine ⟨hg.to_gr, ?_⟩
  cases m' with
  | none => exact hm
  | some p => obtain ⟨⟨x, u⟩, r⟩ := p; exact hm
theorem lists_out {w0 w : World} {g : Nat} {ts : List S32} (h : PS w0 g ts w) {k : Nat} (hk : 2 * ts.length + 1 ≤ k) (hn : ts.length ≤ 4001) : Calls Tryz.prog 325 #[.pointer (some ⟨g, 0, none⟩), .func (.func 326) #[.pointer (some ⟨g, 0, none⟩)] #[]] w (Out w0 g (Vrow k43 w.heap.size) w (Ps.lists k ts)) := by
  refine (E_list (along_ps (w0 := w0) h.lt (Nat.le_of_lt (Nat.lt_of_le_of_lt h.low h.lt))) (Ps.anyU k) ts.length k hn ?_ ?_ () ts h (Nat.le_refl _) (by omega)).mono ?_
  · intro st tq w' hI hl
    refine (any_out hI (k := k) (by omega)).mono fun e w1 ho => out_g ho ?_
    unfold Ps.anyU
    cases Ps.expr k 0 tq with
    | none => rfl
    | some p => rfl
  · intro st tq x st' r hx
    unfold Ps.anyU at hx
    cases he : Ps.expr k 0 tq with
    | none => rw [he] at hx; cases hx
    | some p => rw [he] at hx; cases hx; exact Nat.le_of_lt (Ps.expr_len he)
  · intro e w1 ho
    refine g_out ho ?_
    unfold Ps.lists
    cases Ps.list (Ps.anyU k) k () ts with
    | none => rfl
    | some p => rfl

set_option maxHeartbeats 1000000 in
set_option maxRecDepth 100000 in
theorem where_out {w0 w : World} {g : Nat} {ts : List S32} (h : PS w0 g ts w) {k : Nat} (hk : 2 * ts.length + 1 ≤ k) : Calls Tryz.prog 270 #[.pointer (some ⟨g, 0, none⟩)] w (Out w0 g (Vrow k43 w.heap.size) w (Ps.whr k ts)) := by
  have HP := Aside0.mk h
  clear h
  have hlt := HP.out.lt
  cases ht : Ps.tk Ps.sWhere ts with
  | none =>
    have HT := Aside0.mk ht
    have HM := Aside0.mk (show Ps.whr k ts = none by simp only [Ps.whr, ht])
    clear ht
    go_enter Tryz.func270, Tryz.ntmps270
    go_wp2_with (first | (go_at_call 271; refine (take_out HP.out Ps.sWhere).mono ?_; intro e w2 ho; obtain ⟨hg, rfl⟩ := ho.none HT.out; have HG2 := Aside0.mk hg; clear hg ho))
    exact ⟨rfl, Out.of_none HM.out HG2.out⟩
  | some p =>
    obtain ⟨b, r⟩ := p
    have HT := Aside0.mk ht
    cases b with
    | false =>
      have HM := Aside0.mk (show Ps.whr k ts = some ([], r) by simp only [Ps.whr, ht])
      clear ht
      go_enter Tryz.func270, Tryz.ntmps270
      go_wp2_with (first | (go_at_call 271; refine (take_out HP.out Ps.sWhere).mono ?_; intro e w2 ho; obtain ⟨hg, v, rfl, rfl, hp⟩ := ho.some HT.out; have hs2 := hg.size; have HQ2 := Aside0.mk hp; have HG2 := Aside0.mk hg; clear hg ho hp))
      go_ret
      exact Out.of_some HM.out HG2.out ⟨none, 0, rfl, Nat.le_refl _, Kd.F_nil _ _ _⟩ HQ2.out
    | true =>
      cases hx : Ps.expr k 0 r with
      | none =>
        have HM := Aside0.mk (show Ps.whr k ts = none by simp only [Ps.whr, ht, hx])
        have HX := Aside0.mk hx
        clear ht hx
        go_enter Tryz.func270, Tryz.ntmps270
        go_wp2_with (first | (go_at_call 271; refine (take_out HP.out Ps.sWhere).mono ?_; intro e w2 ho; obtain ⟨hg, v, rfl, rfl, hp⟩ := ho.some HT.out; have hs2 := hg.size; have HQ2 := Aside0.mk hp; have HG2 := Aside0.mk hg; clear hg ho hp) | (go_at_call 326; refine (any_out HQ2.out (k := k) (by have := (Ps.tk_len HT.out).1; omega)).mono ?_; intro e9 w3 ho; obtain ⟨hg, rfl⟩ := ho.none HX.out; have HG3 := Aside0.mk (HG2.out.trans hg); clear hg ho))
        exact ⟨rfl, Out.of_none HM.out HG3.out⟩
      | some p =>
        obtain ⟨x, r1⟩ := p
        have HM := Aside0.mk (show Ps.whr k ts = some ([x], r1) by simp only [Ps.whr, ht, hx])
        have HX := Aside0.mk hx
        clear ht hx
        go_enter Tryz.func270, Tryz.ntmps270
        go_wp2_with (first | (go_at_call 271; refine (take_out HP.out Ps.sWhere).mono ?_; intro e w2 ho; obtain ⟨hg, v, rfl, rfl, hp⟩ := ho.some HT.out; have hs2 := hg.size; have HQ2 := Aside0.mk hp; have HG2 := Aside0.mk hg; clear hg ho hp) | (go_at_call 326; refine (any_out HQ2.out (k := k) (by have := (Ps.tk_len HT.out).1; omega)).mono ?_; intro e9 w3 ho; obtain ⟨hg, v, rfl, hv, hp⟩ := ho.some HX.out; obtain ⟨Ax, nx, rfl, hnx, hfx⟩ := hv; have hs3 := hg.size; have HQ3 := Aside0.mk hp; have HG3 := Aside0.mk (HG2.out.trans hg); have HNX := Aside0.mk hnx; have HFX := Aside0.mk (Kd.F_mono hfx (ok' := fun q => w.heap.size ≤ q) (fun q hq => by omega)); clear hg ho hp hnx hfx; unfold cells43))
        go_ret
        exact Out.of_some HM.out (HG3.out.alloc _) ⟨some ⟨w3.heap.size, 0, none⟩, 1, rfl, Nat.le_refl _, F_one (new_blk _ rfl) (by omega) HNX.out (Kd.F_alloc HFX.out _)⟩ (HQ3.out.alloc _)

set_option maxHeartbeats 1000000 in
set_option maxRecDepth 100000 in
theorem row_out {w0 w : World} {g : Nat} {ts : List S32} (h : PS w0 g ts w) {k : Nat} (hk : 2 * ts.length + 1 ≤ k) (hn : ts.length ≤ 4001) : Calls Tryz.prog 266 #[.pointer (some ⟨g, 0, none⟩)] w (Out w0 g (Vrow k43 w.heap.size) w (Ps.row k ts)) := by
  have HP := Aside0.mk h
  clear h
  have hlt := HP.out.lt
  cases hu : Ps.ms [Ps.sOpen] ts with
  | none =>
    have HU := Aside0.mk hu
    have HM := Aside0.mk (show Ps.row k ts = none by simp only [Ps.row, hu])
    clear hu
    go_enter Tryz.func266, Tryz.ntmps266
    go_wp2_with (first | (go_at_call 259; refine (must1 HP.out (by simp) Ps.sOpen 1).mono ?_; intro e7 w2 ho; obtain ⟨hg, rfl⟩ := ho.none (msU_none HU.out); have HGN := Aside0.mk ((Gr.refl g w).trans hg); clear hg ho))
    exact ⟨rfl, Out.of_none HM.out HGN.out⟩
  | some r =>
    have HU := Aside0.mk hu
    cases hx : Ps.lists k r with
    | none =>
      have HX := Aside0.mk hx
      have HM := Aside0.mk (show Ps.row k ts = none by simp only [Ps.row, hu, hx])
      clear hu hx
      go_enter Tryz.func266, Tryz.ntmps266
      go_wp2_with (first | (go_at_call 259; refine (must1 HP.out (by simp) Ps.sOpen 1).mono ?_; intro e7 w2 ho; obtain ⟨hg, v, rfl, rfl, hp⟩ := ho.some (msU_some HU.out); have hs2 := hg.size; have HQ2 := Aside0.mk hp; have HG2 := Aside0.mk hg; clear hg ho hp) | (go_at_call 325; refine (lists_out HQ2.out (k := k) (by have := Ps.ms_len HU.out; omega) (by have := Ps.ms_len HU.out; omega)).mono ?_; intro e8 w3 ho; obtain ⟨hg, rfl⟩ := ho.none HX.out; have HG3 := Aside0.mk (HG2.out.trans hg); clear hg ho))
      exact ⟨rfl, Out.of_none HM.out HG3.out⟩
    | some p =>
      obtain ⟨l, r1⟩ := p
      have HX := Aside0.mk hx
      cases hv : Ps.ms [Ps.sClose] r1 with
      | none =>
        have HV := Aside0.mk hv
        have HM := Aside0.mk (show Ps.row k ts = none by simp only [Ps.row, hu, hx, hv])
        clear hu hx hv
        go_enter Tryz.func266, Tryz.ntmps266
        go_wp2_with (first | (go_at_call 259; refine (must1 HP.out (by simp) Ps.sOpen 1).mono ?_; intro e7 w2 ho; obtain ⟨hg, v, rfl, rfl, hp⟩ := ho.some (msU_some HU.out); have hs2 := hg.size; have HQ2 := Aside0.mk hp; have HG2 := Aside0.mk hg; clear hg ho hp) | (go_at_call 325; refine (lists_out HQ2.out (k := k) (by have := Ps.ms_len HU.out; omega) (by have := Ps.ms_len HU.out; omega)).mono ?_; intro e8 w3 ho; obtain ⟨hg, v, rfl, hv, hp⟩ := ho.some HX.out; obtain ⟨Ax, nx, rfl, hnx, hfx⟩ := hv; have hs3 := hg.size; have HQ3 := Aside0.mk hp; have HG3 := Aside0.mk (HG2.out.trans hg); have HNX := Aside0.mk hnx; have HFX := Aside0.mk (Kd.F_mono hfx (ok' := fun q => w.heap.size ≤ q) (fun q hq => by omega)); clear hg ho hp hnx hfx) | (go_at_call 259; refine (must1 HQ3.out (by simp) Ps.sClose 1).mono ?_; intro e7 w4 ho; obtain ⟨hg, rfl⟩ := ho.none (msU_none HV.out); have HGN := Aside0.mk (HG3.out.trans hg); clear hg ho))
        exact ⟨rfl, Out.of_none HM.out HGN.out⟩
      | some r2 =>
        have HV := Aside0.mk hv
        have HM := Aside0.mk (show Ps.row k ts = some (l, r2) by simp only [Ps.row, hu, hx, hv])
        clear hu hx hv
        go_enter Tryz.func266, Tryz.ntmps266
        go_wp2_with (first | (go_at_call 259; refine (must1 HP.out (by simp) Ps.sOpen 1).mono ?_; intro e7 w2 ho; obtain ⟨hg, v, rfl, rfl, hp⟩ := ho.some (msU_some HU.out); have hs2 := hg.size; have HQ2 := Aside0.mk hp; have HG2 := Aside0.mk hg; clear hg ho hp) | (go_at_call 325; refine (lists_out HQ2.out (k := k) (by have := Ps.ms_len HU.out; omega) (by have := Ps.ms_len HU.out; omega)).mono ?_; intro e8 w3 ho; obtain ⟨hg, v, rfl, hv, hp⟩ := ho.some HX.out; obtain ⟨Ax, nx, rfl, hnx, hfx⟩ := hv; have hs3 := hg.size; have HQ3 := Aside0.mk hp; have HG3 := Aside0.mk (HG2.out.trans hg); have HNX := Aside0.mk hnx; have HFX := Aside0.mk (Kd.F_mono hfx (ok' := fun q => w.heap.size ≤ q) (fun q hq => by omega)); clear hg ho hp hnx hfx) | (go_at_call 259; refine (must1 HQ3.out (by simp) Ps.sClose 1).mono ?_; intro e7 w4 ho; obtain ⟨hg, v, rfl, rfl, hp⟩ := ho.some (msU_some HV.out); have HQ4 := Aside0.mk hp; have HG4 := Aside0.mk (HG3.out.trans hg); have HF4 := Aside0.mk (hg.F HFX.out (fun q hq => by omega)); clear hg ho hp))
        go_ret
        exact Out.of_some HM.out HG4.out ⟨Ax, nx, rfl, HNX.out, HF4.out⟩ HQ4.out
theorem lists_len {k : Nat} {ts r : List S32} {l : List S43} (h : Ps.lists k ts = some (l, r)) : r.length ≤ ts.length := by
  unfold Ps.lists at h
  cases hl : Ps.list (Ps.anyU k) k () ts with
  | none => rw [hl] at h; cases h
  | some p =>
    obtain ⟨⟨l', u⟩, r'⟩ := p
    rw [hl] at h
    cases h
    exact list_len (one := Ps.anyU k) (fun st tq x st' r hx => by
      unfold Ps.anyU at hx
      cases he : Ps.expr k 0 tq with
      | none => rw [he] at hx; cases hx
      | some p => rw [he] at hx; cases hx; exact Nat.le_of_lt (Ps.expr_len he)) hl
theorem row_len {k : Nat} {ts r : List S32} {l : List S43} (h : Ps.row k ts = some (l, r)) : r.length ≤ ts.length := by
  unfold Ps.row at h
  cases hu : Ps.ms [Ps.sOpen] ts with
  | none => rw [hu] at h; cases h
  | some r1 =>
    rw [hu] at h
    simp only at h
    cases hx : Ps.lists k r1 with
    | none => rw [hx] at h; cases h
    | some p =>
      obtain ⟨l1, r2⟩ := p
      rw [hx] at h
      simp only at h
      cases hv : Ps.ms [Ps.sClose] r2 with
      | none => rw [hv] at h; cases h
      | some r3 =>
        rw [hv] at h
        cases h
        have h1 := Ps.ms_len hu
        have h2 := lists_len hx
        have h3 := Ps.ms_len hv
        omega
end Go.Proofs.YtcgdncpioafbdaaGreatDoor.Q

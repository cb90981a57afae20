/- The parser: stmt. -/
import Derived.Test.YtcgdncpioafbdaaGreatDoorPn
namespace Go.Proofs.YtcgdncpioafbdaaGreatDoor.Q
open Go Go.RowKit Go.Proofs.YtcgdncpioafbdaaGreatDoorW.PrintWords
theorem chooseU_none {k : Nat} {x : S60} {ts : List S32} (h : Ps.choose k x ts = none) : ((Ps.choose k x ts).map fun p => (((), p.1), p.2)) = none := by rw [h]; rfl
theorem chooseU_some {k : Nat} {x y : S60} {ts r : List S32} (h : Ps.choose k x ts = some (y, r)) : ((Ps.choose k x ts).map fun p => (((), p.1), p.2)) = some (((), y), r) := by rw [h]; rfl
theorem SQ.gr_gs {w0 w wc wd : World} {g bp rb gs : Nat} {x : S60} {a : Ads} {ts : List S32} (h : SQ w0 w g bp rb gs x a ts wc) (hg : Gs (fun q => q = g ∨ q = gs) wc wd) : Gr g w wd := by
  have h0 := h.o0
  have h1 := h.o1
  have h2 := h.o2
  have h3 := h.o3
  exact ⟨hg.os.trans h.gr.os, hg.tape.trans h.gr.tape, hg.output.trans h.gr.output, Nat.le_trans h.gr.size hg.size, fun i hi hn => (hg.block i (Nat.lt_of_lt_of_le hi h.gr.size) (by omega)).trans (h.gr.block i hi hn)⟩

theorem SQ.start {w0 w w1 : World} {g : Nat} {r : List S32} (hlt : g < w.heap.size) (hg : Gr g (((w.alloc (.cells #[.pointer (some ⟨g, 0, none⟩)] 229 (0, 0))).alloc (.cells (celA z60 {}) 60 (0, 0))).alloc (.cells (celA Ps.st0 {}) 60 (0, 0))) w1) (hp : PS w0 g r w1) : SQ w0 w g w.heap.size (w.heap.size + 1) (w.heap.size + 1 + 1) Ps.st0 {} r w1 := by
  have e1 : (w.alloc (.cells #[.pointer (some ⟨g, 0, none⟩)] 229 (0, 0))).heap.size = w.heap.size + 1 := by simp
  have e2 : ((w.alloc (.cells #[.pointer (some ⟨g, 0, none⟩)] 229 (0, 0))).alloc (.cells (celA z60 {}) 60 (0, 0))).heap.size = w.heap.size + 1 + 1 := by simp
  refine ⟨hp, hg.blk (new_blk _ e2) (by omega), ⟨Nat.le_refl _, Kd.F_nil _ _ _, Nat.le_refl _, Kd.F_nil _ _ _, Nat.le_refl _, Kd.F_nil _ _ _, Nat.le_refl _, Kd.F_nil _ _ _, Nat.le_refl _, Kd.F_nil _ _ _⟩, hg.blk (blk_alloc (blk_alloc (new_blk _ rfl) _) _) (by omega), hg.blk (blk_alloc (new_blk _ e1) _) (by omega), ((((Gr.refl g w).alloc _).alloc _).alloc _).trans hg, hlt, Nat.le_refl _, by omega, by omega⟩

set_option maxHeartbeats 8000000 in
set_option maxRecDepth 100000 in
theorem stmt_out {w0 w : World} {g : Nat} {ts : List S32} (h : PS w0 g ts w) {k : Nat} (hk : 2 * ts.length + 1 ≤ k) (hn : ts.length ≤ 4001) : Calls Tryz.prog 179 #[.pointer (some ⟨g, 0, none⟩)] w (OutS g w (Ps.stmt k ts)) := by
  have HP := Aside0.mk h
  have hlt := h.lt
  have hlow := h.low
  have hfd : ∀ (t : S32) (w : World), (Instr.field 32 (.agg #[.int .i64 t.f0, .string t.f1, .int .i64 t.f2]) 1).run Tryz.prog w = .ok (.string t.f1) w := fun _ _ => by kernel_rfl
  clear h
  cases hx : Ps.nx ts with
  | none =>
    have HN := Aside0.mk hx
    have HM := Aside0.mk (show Ps.stmt k ts = none by simp only [Ps.stmt, hx])
    clear hx
    go_enter Tryz.func179, Tryz.ntmps179
    go_wp2_with (first | (go_at_call 258; refine (next_out (((HP.out.alloc _).alloc _).alloc _)).mono ?_; intro e7 w1 ho; obtain ⟨hg, rfl⟩ := ho.none HN.out; have HGN := Aside0.mk (((((Gr.refl g w).alloc _).alloc _).alloc _).trans hg); clear hg ho))
    exact ⟨rfl, OutS.of_none HM.out HGN.out⟩
  | some p =>
    obtain ⟨t, r⟩ := p
    have HN := Aside0.mk hx
    have HL := Aside0.mk (show r.length ≤ ts.length by have := (Ps.nx_len hx).1; omega)
    clear hx
    go_enter Tryz.func179, Tryz.ntmps179
    go_upto_block 0 with (first | (go_at_call 258; refine (next_out (((HP.out.alloc _).alloc _).alloc _)).mono ?_; intro e7 w1 ho; obtain ⟨hg, v, rfl, rfl, hp⟩ := ho.some HN.out; have HG1 := Aside0.mk hg; have HQ1 := Aside0.mk hp; clear hg ho hp))
    generalize hgs : w.heap.size + 1 + 1 = gs
    generalize hrb : w.heap.size + 1 = rb
    generalize hbp : w.heap.size = bp
    have SQ1 : Aside0 (SQ w0 w g bp rb gs Ps.st0 {} r w1) := by
      subst hbp hrb hgs
      exact ⟨SQ.start hlt HG1.out HQ1.out⟩
    clear HG1 HQ1
    have hgt1 := SQ1.out.lt
    have hb1 := SQ1.out.cell
    have ho1 := SQ1.out.o1
    have ho2 := SQ1.out.o2
    have ho3 := SQ1.out.o3
    obtain ⟨y1_0, hy1_0⟩ := SQ1.out.has 0 (by omega)
    have hz1_0 := SQ1.out.frz 0
    clear hgs hrb hbp
    go_cut [] (fun wc => ∃ (x : S60) (a : Ads) (tq : List S32), Aside0 (Ps.stmt k ts = Ps.fin x tq) ∧ Aside0 (SQ w0 w g bp rb gs x a tq wc))
    case first =>
      obtain ⟨R, hR⟩ : ∃ R, Ps.stmt k ts = R := ⟨_, rfl⟩
      have hm := hR
      simp only [Ps.stmt] at hm
      rw [HN.out] at hm
      simp only at hm
      rw [← hR] at hm
      replace hm := hm.symm
      clear hR
      have HNX0 := HN
      clear HN
      by_cases m0 : t.f1.toList = Ps.sCreate.toList
      · rw [if_pos m0] at hm
        rw [wCreate] at m0
        have q0 : (t.f1.toList == [99, 114, 101, 97, 116, 101]) = true := beq_iff_eq.mpr m0
        clear m0
        simp only [Ps.head] at hm
        cases hu : Ps.ms [Ps.sTable] r with
        | none =>
          rw [hu] at hm
          have HU := Aside0.mk hu
          clear hu
          have HM := Aside0.mk hm
          clear hm
          go_wp2_with (first | (go_at_call 259; refine (must1 SQ1.out.ps (by simp) Ps.sTable 1).mono ?_; intro e7 w2 ho; obtain ⟨hg, rfl⟩ := ho.none (msU_none HU.out); have HGN := Aside0.mk (SQ1.out.gr.trans hg); clear hg ho))
          exact ⟨rfl, OutS.of_none HM.out HGN.out⟩
        | some r0 =>
          rw [hu] at hm
          simp only at hm
          have HU := Aside0.mk hu
          clear hu
          cases hnm : Ps.nm r0 with
          | none =>
            rw [hnm] at hm
            have HN := Aside0.mk hnm
            clear hnm
            have HM := Aside0.mk hm
            clear hm
            go_wp2_with (first | (go_at_call 259; refine (must1 SQ1.out.ps (by simp) Ps.sTable 1).mono ?_; intro e7 w2 ho; obtain ⟨hg, v, rfl, rfl, hp⟩ := ho.some (msU_some HU.out); have SQ2 := Aside0.mk (SQ1.out.go hg hp); have hgt2 : gs < w2.heap.size := SQ2.out.lt; have hb2 := SQ2.out.cell; clear hg ho hp) | (go_at_call 260; refine (name_out SQ2.out.ps).mono ?_; intro e7 w3 ho; obtain ⟨hg, rfl⟩ := ho.none HN.out; have HGN := Aside0.mk (SQ2.out.gr.trans hg); clear hg ho))
            exact ⟨rfl, OutS.of_none HM.out HGN.out⟩
          | some p =>
            obtain ⟨n, r1⟩ := p
            rw [hnm] at hm
            simp only at hm
            have HN := Aside0.mk hnm
            clear hnm
            have HL1 := Aside0.mk (show r1.length ≤ ts.length by have := Ps.nm_len HN.out; have := Ps.ms_len HU.out; have := HL.out; omega)
            cases hv : Ps.ms [Ps.sOpen] r1 with
            | none =>
              rw [hv] at hm
              have HV := Aside0.mk hv
              clear hv
              have HM := Aside0.mk hm
              clear hm
              go_wp2_with (first | (go_at_call 259; refine (must1 SQ1.out.ps (by simp) Ps.sTable 1).mono ?_; intro e7 w2 ho; obtain ⟨hg, v, rfl, rfl, hp⟩ := ho.some (msU_some HU.out); have SQ2 := Aside0.mk (SQ1.out.go hg hp); have hgt2 : gs < w2.heap.size := SQ2.out.lt; have hb2 := SQ2.out.cell; clear hg ho hp) | (go_at_call 260; refine (name_out SQ2.out.ps).mono ?_; intro e7 w3 ho; obtain ⟨hg, v, rfl, rfl, hp⟩ := ho.some HN.out; have SQ3 := Aside0.mk (SQ2.out.go hg hp); have hgt3 : gs < w3.heap.size := SQ3.out.lt; have hb3 := SQ3.out.cell; obtain ⟨y3_0, hy3_0⟩ := SQ3.out.has 0 (by omega); have hz3_0 := SQ3.out.frz 0; obtain ⟨y3_1, hy3_1⟩ := SQ3.out.has 1 (by omega); have hz3_1 := SQ3.out.frz 1; clear hg ho hp) | (go_at_call 259; refine (must1 ((SQ3.out.put0 1).put1 n).ps (by simp) Ps.sOpen 1).mono ?_; intro e7 w4 ho; obtain ⟨hg, rfl⟩ := ho.none (msU_none HV.out); have HGN := Aside0.mk (((SQ3.out.put0 1).put1 n).gr.trans hg); clear hg ho))
              exact ⟨rfl, OutS.of_none HM.out HGN.out⟩
            | some r2 =>
              rw [hv] at hm
              simp only at hm
              have HV := Aside0.mk hv
              clear hv
              cases hl : Ps.list Ps.column k ⟨#[]⟩ r2 with
              | none =>
                rw [hl] at hm
                have HR := Aside0.mk hl
                clear hl
                have HM := Aside0.mk hm
                clear hm
                go_wp2_with (first | (go_at_call 259; refine (must1 SQ1.out.ps (by simp) Ps.sTable 1).mono ?_; intro e7 w2 ho; obtain ⟨hg, v, rfl, rfl, hp⟩ := ho.some (msU_some HU.out); have SQ2 := Aside0.mk (SQ1.out.go hg hp); have hgt2 : gs < w2.heap.size := SQ2.out.lt; have hb2 := SQ2.out.cell; clear hg ho hp) | (go_at_call 260; refine (name_out SQ2.out.ps).mono ?_; intro e7 w3 ho; obtain ⟨hg, v, rfl, rfl, hp⟩ := ho.some HN.out; have SQ3 := Aside0.mk (SQ2.out.go hg hp); have hgt3 : gs < w3.heap.size := SQ3.out.lt; have hb3 := SQ3.out.cell; obtain ⟨y3_0, hy3_0⟩ := SQ3.out.has 0 (by omega); have hz3_0 := SQ3.out.frz 0; obtain ⟨y3_1, hy3_1⟩ := SQ3.out.has 1 (by omega); have hz3_1 := SQ3.out.frz 1; clear hg ho hp) | (go_at_call 259; refine (must1 ((SQ3.out.put0 1).put1 n).ps (by simp) Ps.sOpen 1).mono ?_; intro e7 w4 ho; obtain ⟨hg, v, rfl, rfl, hp⟩ := ho.some (msU_some HV.out); have SQ4 := Aside0.mk (((SQ3.out.put0 1).put1 n).go hg hp); have hgt4 : gs < w4.heap.size := SQ4.out.lt; have hb4 := SQ4.out.cell; clear hg ho hp) | (go_at_call 261; refine (cols_out (SQ4.out.col (n := n) (key := ⟨#[]⟩) rfl) (k := k) (by have := HL1.out; have := Ps.ms_len HV.out; omega) (by have := HL1.out; have := Ps.ms_len HV.out; omega)).mono ?_; intro e7 w5 ho; obtain ⟨hg, rfl⟩ := ho.none HR.out; have HGN := Aside0.mk (SQ4.out.gr_gs hg); clear hg ho))
                exact ⟨rfl, OutS.of_none HM.out HGN.out⟩
              | some p =>
                obtain ⟨⟨l, key⟩, r3⟩ := p
                rw [hl] at hm
                simp only at hm
                have HR := Aside0.mk hl
                clear hl
                cases hx : Ps.ms [Ps.sClose] r3 with
                | none =>
                  rw [hx] at hm
                  have HX := Aside0.mk hx
                  clear hx
                  have HM := Aside0.mk hm
                  clear hm
                  go_wp2_with (first | (go_at_call 259; refine (must1 SQ1.out.ps (by simp) Ps.sTable 1).mono ?_; intro e7 w2 ho; obtain ⟨hg, v, rfl, rfl, hp⟩ := ho.some (msU_some HU.out); have SQ2 := Aside0.mk (SQ1.out.go hg hp); have hgt2 : gs < w2.heap.size := SQ2.out.lt; have hb2 := SQ2.out.cell; clear hg ho hp) | (go_at_call 260; refine (name_out SQ2.out.ps).mono ?_; intro e7 w3 ho; obtain ⟨hg, v, rfl, rfl, hp⟩ := ho.some HN.out; have SQ3 := Aside0.mk (SQ2.out.go hg hp); have hgt3 : gs < w3.heap.size := SQ3.out.lt; have hb3 := SQ3.out.cell; obtain ⟨y3_0, hy3_0⟩ := SQ3.out.has 0 (by omega); have hz3_0 := SQ3.out.frz 0; obtain ⟨y3_1, hy3_1⟩ := SQ3.out.has 1 (by omega); have hz3_1 := SQ3.out.frz 1; clear hg ho hp) | (go_at_call 259; refine (must1 ((SQ3.out.put0 1).put1 n).ps (by simp) Ps.sOpen 1).mono ?_; intro e7 w4 ho; obtain ⟨hg, v, rfl, rfl, hp⟩ := ho.some (msU_some HV.out); have SQ4 := Aside0.mk (((SQ3.out.put0 1).put1 n).go hg hp); have hgt4 : gs < w4.heap.size := SQ4.out.lt; have hb4 := SQ4.out.cell; clear hg ho hp) | (go_at_call 261; refine (cols_out (SQ4.out.col (n := n) (key := ⟨#[]⟩) rfl) (k := k) (by have := HL1.out; have := Ps.ms_len HV.out; omega) (by have := HL1.out; have := Ps.ms_len HV.out; omega)).mono ?_; intro e7 w5 ho; obtain ⟨hg, v, rfl, hv, hi⟩ := ho.some HR.out; obtain ⟨Ax, nx, rfl, hnx, hfx⟩ := hv; have SQ5 := Aside0.mk (SQ4.out.of_col hg hi); have hgt5 : gs < w5.heap.size := SQ5.out.lt; have hb5 := SQ5.out.cell; obtain ⟨y5_2, hy5_2⟩ := SQ5.out.has 2 (by omega); have hz5_2 := SQ5.out.frz 2; have HNX := Aside0.mk hnx; have HFX := Aside0.mk (Kd.F_mono hfx (ok' := fun q => gs < q) (fun q hq => Nat.lt_of_lt_of_le SQ4.out.lt hq)); clear hg ho hi hnx hfx) | (go_at_call 259; refine (must1 (SQ5.out.put2 HNX.out HFX.out).ps (by simp) Ps.sClose 1).mono ?_; intro e7 w6 ho; obtain ⟨hg, rfl⟩ := ho.none (msU_none HX.out); have HGN := Aside0.mk ((SQ5.out.put2 HNX.out HFX.out).gr.trans hg); clear hg ho))
                  exact ⟨rfl, OutS.of_none HM.out HGN.out⟩
                | some r4 =>
                  rw [hx] at hm
                  simp only at hm
                  have HX := Aside0.mk hx
                  clear hx
                  by_cases ck : key.toList = []
                  · rw [if_pos ck] at hm
                    have bk : (key.toList == []) = true := beq_iff_eq.mpr ck
                    have HM := Aside0.mk hm
                    clear hm
                    go_wp2_with (first | (go_at_call 259; refine (must1 SQ1.out.ps (by simp) Ps.sTable 1).mono ?_; intro e7 w2 ho; obtain ⟨hg, v, rfl, rfl, hp⟩ := ho.some (msU_some HU.out); have SQ2 := Aside0.mk (SQ1.out.go hg hp); have hgt2 : gs < w2.heap.size := SQ2.out.lt; have hb2 := SQ2.out.cell; clear hg ho hp) | (go_at_call 260; refine (name_out SQ2.out.ps).mono ?_; intro e7 w3 ho; obtain ⟨hg, v, rfl, rfl, hp⟩ := ho.some HN.out; have SQ3 := Aside0.mk (SQ2.out.go hg hp); have hgt3 : gs < w3.heap.size := SQ3.out.lt; have hb3 := SQ3.out.cell; obtain ⟨y3_0, hy3_0⟩ := SQ3.out.has 0 (by omega); have hz3_0 := SQ3.out.frz 0; obtain ⟨y3_1, hy3_1⟩ := SQ3.out.has 1 (by omega); have hz3_1 := SQ3.out.frz 1; clear hg ho hp) | (go_at_call 259; refine (must1 ((SQ3.out.put0 1).put1 n).ps (by simp) Ps.sOpen 1).mono ?_; intro e7 w4 ho; obtain ⟨hg, v, rfl, rfl, hp⟩ := ho.some (msU_some HV.out); have SQ4 := Aside0.mk (((SQ3.out.put0 1).put1 n).go hg hp); have hgt4 : gs < w4.heap.size := SQ4.out.lt; have hb4 := SQ4.out.cell; clear hg ho hp) | (go_at_call 261; refine (cols_out (SQ4.out.col (n := n) (key := ⟨#[]⟩) rfl) (k := k) (by have := HL1.out; have := Ps.ms_len HV.out; omega) (by have := HL1.out; have := Ps.ms_len HV.out; omega)).mono ?_; intro e7 w5 ho; obtain ⟨hg, v, rfl, hv, hi⟩ := ho.some HR.out; obtain ⟨Ax, nx, rfl, hnx, hfx⟩ := hv; have SQ5 := Aside0.mk (SQ4.out.of_col hg hi); have hgt5 : gs < w5.heap.size := SQ5.out.lt; have hb5 := SQ5.out.cell; obtain ⟨y5_2, hy5_2⟩ := SQ5.out.has 2 (by omega); have hz5_2 := SQ5.out.frz 2; have HNX := Aside0.mk hnx; have HFX := Aside0.mk (Kd.F_mono hfx (ok' := fun q => gs < q) (fun q hq => Nat.lt_of_lt_of_le SQ4.out.lt hq)); clear hg ho hi hnx hfx) | (go_at_call 259; refine (must1 (SQ5.out.put2 HNX.out HFX.out).ps (by simp) Ps.sClose 1).mono ?_; intro e7 w6 ho; obtain ⟨hg, v, rfl, rfl, hp⟩ := ho.some (msU_some HX.out); have SQ6 := Aside0.mk ((SQ5.out.put2 HNX.out HFX.out).go hg hp); have hgt6 : gs < w6.heap.size := SQ6.out.lt; have hb6 := SQ6.out.cell; clear hg ho hp; have hk3 : w6.cell? ⟨gs, 3, none⟩ = some (.string key) := (blk_cell SQ6.out.st 3).trans rfl) | (go_at_call 264; refine (fail_calls g _).mono ?_; rintro e8 w8 ⟨rfl, rfl⟩))
                    exact ⟨rfl, OutS.of_none HM.out SQ6.out.gr⟩
                  · rw [if_neg ck] at hm
                    have bk : (key.toList == []) = false := beq_eq_false_iff_ne.mpr ck
                    have HM := Aside0.mk hm
                    clear hm
                    go_wp2_with (first | (go_at_call 259; refine (must1 SQ1.out.ps (by simp) Ps.sTable 1).mono ?_; intro e7 w2 ho; obtain ⟨hg, v, rfl, rfl, hp⟩ := ho.some (msU_some HU.out); have SQ2 := Aside0.mk (SQ1.out.go hg hp); have hgt2 : gs < w2.heap.size := SQ2.out.lt; have hb2 := SQ2.out.cell; clear hg ho hp) | (go_at_call 260; refine (name_out SQ2.out.ps).mono ?_; intro e7 w3 ho; obtain ⟨hg, v, rfl, rfl, hp⟩ := ho.some HN.out; have SQ3 := Aside0.mk (SQ2.out.go hg hp); have hgt3 : gs < w3.heap.size := SQ3.out.lt; have hb3 := SQ3.out.cell; obtain ⟨y3_0, hy3_0⟩ := SQ3.out.has 0 (by omega); have hz3_0 := SQ3.out.frz 0; obtain ⟨y3_1, hy3_1⟩ := SQ3.out.has 1 (by omega); have hz3_1 := SQ3.out.frz 1; clear hg ho hp) | (go_at_call 259; refine (must1 ((SQ3.out.put0 1).put1 n).ps (by simp) Ps.sOpen 1).mono ?_; intro e7 w4 ho; obtain ⟨hg, v, rfl, rfl, hp⟩ := ho.some (msU_some HV.out); have SQ4 := Aside0.mk (((SQ3.out.put0 1).put1 n).go hg hp); have hgt4 : gs < w4.heap.size := SQ4.out.lt; have hb4 := SQ4.out.cell; clear hg ho hp) | (go_at_call 261; refine (cols_out (SQ4.out.col (n := n) (key := ⟨#[]⟩) rfl) (k := k) (by have := HL1.out; have := Ps.ms_len HV.out; omega) (by have := HL1.out; have := Ps.ms_len HV.out; omega)).mono ?_; intro e7 w5 ho; obtain ⟨hg, v, rfl, hv, hi⟩ := ho.some HR.out; obtain ⟨Ax, nx, rfl, hnx, hfx⟩ := hv; have SQ5 := Aside0.mk (SQ4.out.of_col hg hi); have hgt5 : gs < w5.heap.size := SQ5.out.lt; have hb5 := SQ5.out.cell; obtain ⟨y5_2, hy5_2⟩ := SQ5.out.has 2 (by omega); have hz5_2 := SQ5.out.frz 2; have HNX := Aside0.mk hnx; have HFX := Aside0.mk (Kd.F_mono hfx (ok' := fun q => gs < q) (fun q hq => Nat.lt_of_lt_of_le SQ4.out.lt hq)); clear hg ho hi hnx hfx) | (go_at_call 259; refine (must1 (SQ5.out.put2 HNX.out HFX.out).ps (by simp) Ps.sClose 1).mono ?_; intro e7 w6 ho; obtain ⟨hg, v, rfl, rfl, hp⟩ := ho.some (msU_some HX.out); have SQ6 := Aside0.mk ((SQ5.out.put2 HNX.out HFX.out).go hg hp); have hgt6 : gs < w6.heap.size := SQ6.out.lt; have hb6 := SQ6.out.cell; clear hg ho hp; have hk3 : w6.cell? ⟨gs, 3, none⟩ = some (.string key) := (blk_cell SQ6.out.st 3).trans rfl))
                    go_meet
                    case rel => exact ⟨_, _, _, HM, ⟨SQ6.out⟩⟩
      · rw [if_neg m0] at hm
        rw [wCreate] at m0
        have q0 : (t.f1.toList == [99, 114, 101, 97, 116, 101]) = false := beq_eq_false_iff_ne.mpr m0
        clear m0
        by_cases m1 : t.f1.toList = Ps.sDrop.toList
        · rw [if_pos m1] at hm
          rw [wDrop] at m1
          have q1 : (t.f1.toList == [100, 114, 111, 112]) = true := beq_iff_eq.mpr m1
          clear m1
          simp only [Ps.head] at hm
          cases hu : Ps.ms [Ps.sTable] r with
          | none =>
            rw [hu] at hm
            have HU := Aside0.mk hu
            clear hu
            have HM := Aside0.mk hm
            clear hm
            go_wp2_with (first | (go_at_call 259; refine (must1 SQ1.out.ps (by simp) Ps.sTable 1).mono ?_; intro e7 w2 ho; obtain ⟨hg, rfl⟩ := ho.none (msU_none HU.out); have HGN := Aside0.mk (SQ1.out.gr.trans hg); clear hg ho))
            exact ⟨rfl, OutS.of_none HM.out HGN.out⟩
          | some r0 =>
            rw [hu] at hm
            simp only at hm
            have HU := Aside0.mk hu
            clear hu
            cases hnm : Ps.nm r0 with
            | none =>
              rw [hnm] at hm
              have HN := Aside0.mk hnm
              clear hnm
              have HM := Aside0.mk hm
              clear hm
              go_wp2_with (first | (go_at_call 259; refine (must1 SQ1.out.ps (by simp) Ps.sTable 1).mono ?_; intro e7 w2 ho; obtain ⟨hg, v, rfl, rfl, hp⟩ := ho.some (msU_some HU.out); have SQ2 := Aside0.mk (SQ1.out.go hg hp); have hgt2 : gs < w2.heap.size := SQ2.out.lt; have hb2 := SQ2.out.cell; clear hg ho hp) | (go_at_call 260; refine (name_out SQ2.out.ps).mono ?_; intro e7 w3 ho; obtain ⟨hg, rfl⟩ := ho.none HN.out; have HGN := Aside0.mk (SQ2.out.gr.trans hg); clear hg ho))
              exact ⟨rfl, OutS.of_none HM.out HGN.out⟩
            | some p =>
              obtain ⟨n, r1⟩ := p
              rw [hnm] at hm
              simp only at hm
              have HN := Aside0.mk hnm
              clear hnm
              have HL1 := Aside0.mk (show r1.length ≤ ts.length by have := Ps.nm_len HN.out; have := Ps.ms_len HU.out; have := HL.out; omega)
              have HM := Aside0.mk hm
              clear hm
              go_wp2_with (first | (go_at_call 259; refine (must1 SQ1.out.ps (by simp) Ps.sTable 1).mono ?_; intro e7 w2 ho; obtain ⟨hg, v, rfl, rfl, hp⟩ := ho.some (msU_some HU.out); have SQ2 := Aside0.mk (SQ1.out.go hg hp); have hgt2 : gs < w2.heap.size := SQ2.out.lt; have hb2 := SQ2.out.cell; clear hg ho hp) | (go_at_call 260; refine (name_out SQ2.out.ps).mono ?_; intro e7 w3 ho; obtain ⟨hg, v, rfl, rfl, hp⟩ := ho.some HN.out; have SQ3 := Aside0.mk (SQ2.out.go hg hp); have hgt3 : gs < w3.heap.size := SQ3.out.lt; have hb3 := SQ3.out.cell; obtain ⟨y3_0, hy3_0⟩ := SQ3.out.has 0 (by omega); have hz3_0 := SQ3.out.frz 0; obtain ⟨y3_1, hy3_1⟩ := SQ3.out.has 1 (by omega); have hz3_1 := SQ3.out.frz 1; clear hg ho hp))
              go_meet
              case rel => exact ⟨_, _, _, HM, ⟨(SQ3.out.put0 2).put1 n⟩⟩
        · rw [if_neg m1] at hm
          rw [wDrop] at m1
          have q1 : (t.f1.toList == [100, 114, 111, 112]) = false := beq_eq_false_iff_ne.mpr m1
          clear m1
          by_cases m2 : t.f1.toList = Ps.sInsert.toList
          · rw [if_pos m2] at hm
            rw [wInsert] at m2
            have q2 : (t.f1.toList == [105, 110, 115, 101, 114, 116]) = true := beq_iff_eq.mpr m2
            clear m2
            simp only [Ps.head] at hm
            cases hu : Ps.ms [Ps.sInto] r with
            | none =>
              rw [hu] at hm
              have HU := Aside0.mk hu
              clear hu
              have HM := Aside0.mk hm
              clear hm
              go_wp2_with (first | (go_at_call 259; refine (must1 SQ1.out.ps (by simp) Ps.sInto 1).mono ?_; intro e7 w2 ho; obtain ⟨hg, rfl⟩ := ho.none (msU_none HU.out); have HGN := Aside0.mk (SQ1.out.gr.trans hg); clear hg ho))
              exact ⟨rfl, OutS.of_none HM.out HGN.out⟩
            | some r0 =>
              rw [hu] at hm
              simp only at hm
              have HU := Aside0.mk hu
              clear hu
              cases hnm : Ps.nm r0 with
              | none =>
                rw [hnm] at hm
                have HN := Aside0.mk hnm
                clear hnm
                have HM := Aside0.mk hm
                clear hm
                go_wp2_with (first | (go_at_call 259; refine (must1 SQ1.out.ps (by simp) Ps.sInto 1).mono ?_; intro e7 w2 ho; obtain ⟨hg, v, rfl, rfl, hp⟩ := ho.some (msU_some HU.out); have SQ2 := Aside0.mk (SQ1.out.go hg hp); have hgt2 : gs < w2.heap.size := SQ2.out.lt; have hb2 := SQ2.out.cell; clear hg ho hp) | (go_at_call 260; refine (name_out SQ2.out.ps).mono ?_; intro e7 w3 ho; obtain ⟨hg, rfl⟩ := ho.none HN.out; have HGN := Aside0.mk (SQ2.out.gr.trans hg); clear hg ho))
                exact ⟨rfl, OutS.of_none HM.out HGN.out⟩
              | some p =>
                obtain ⟨n, r1⟩ := p
                rw [hnm] at hm
                simp only at hm
                have HN := Aside0.mk hnm
                clear hnm
                have HL1 := Aside0.mk (show r1.length ≤ ts.length by have := Ps.nm_len HN.out; have := Ps.ms_len HU.out; have := HL.out; omega)
                cases hv : Ps.ms [Ps.sValues] r1 with
                | none =>
                  rw [hv] at hm
                  have HV := Aside0.mk hv
                  clear hv
                  have HM := Aside0.mk hm
                  clear hm
                  go_wp2_with (first | (go_at_call 259; refine (must1 SQ1.out.ps (by simp) Ps.sInto 1).mono ?_; intro e7 w2 ho; obtain ⟨hg, v, rfl, rfl, hp⟩ := ho.some (msU_some HU.out); have SQ2 := Aside0.mk (SQ1.out.go hg hp); have hgt2 : gs < w2.heap.size := SQ2.out.lt; have hb2 := SQ2.out.cell; clear hg ho hp) | (go_at_call 260; refine (name_out SQ2.out.ps).mono ?_; intro e7 w3 ho; obtain ⟨hg, v, rfl, rfl, hp⟩ := ho.some HN.out; have SQ3 := Aside0.mk (SQ2.out.go hg hp); have hgt3 : gs < w3.heap.size := SQ3.out.lt; have hb3 := SQ3.out.cell; obtain ⟨y3_0, hy3_0⟩ := SQ3.out.has 0 (by omega); have hz3_0 := SQ3.out.frz 0; obtain ⟨y3_1, hy3_1⟩ := SQ3.out.has 1 (by omega); have hz3_1 := SQ3.out.frz 1; clear hg ho hp) | (go_at_call 259; refine (must1 ((SQ3.out.put0 3).put1 n).ps (by simp) Ps.sValues 1).mono ?_; intro e7 w4 ho; obtain ⟨hg, rfl⟩ := ho.none (msU_none HV.out); have HGN := Aside0.mk (((SQ3.out.put0 3).put1 n).gr.trans hg); clear hg ho))
                  exact ⟨rfl, OutS.of_none HM.out HGN.out⟩
                | some r2 =>
                  rw [hv] at hm
                  simp only at hm
                  have HV := Aside0.mk hv
                  clear hv
                  cases hl : Ps.list (Ps.rowU k) k () r2 with
                  | none =>
                    rw [hl] at hm
                    have HR := Aside0.mk hl
                    clear hl
                    have HM := Aside0.mk hm
                    clear hm
                    go_wp2_with (first | (go_at_call 259; refine (must1 SQ1.out.ps (by simp) Ps.sInto 1).mono ?_; intro e7 w2 ho; obtain ⟨hg, v, rfl, rfl, hp⟩ := ho.some (msU_some HU.out); have SQ2 := Aside0.mk (SQ1.out.go hg hp); have hgt2 : gs < w2.heap.size := SQ2.out.lt; have hb2 := SQ2.out.cell; clear hg ho hp) | (go_at_call 260; refine (name_out SQ2.out.ps).mono ?_; intro e7 w3 ho; obtain ⟨hg, v, rfl, rfl, hp⟩ := ho.some HN.out; have SQ3 := Aside0.mk (SQ2.out.go hg hp); have hgt3 : gs < w3.heap.size := SQ3.out.lt; have hb3 := SQ3.out.cell; obtain ⟨y3_0, hy3_0⟩ := SQ3.out.has 0 (by omega); have hz3_0 := SQ3.out.frz 0; obtain ⟨y3_1, hy3_1⟩ := SQ3.out.has 1 (by omega); have hz3_1 := SQ3.out.frz 1; clear hg ho hp) | (go_at_call 259; refine (must1 ((SQ3.out.put0 3).put1 n).ps (by simp) Ps.sValues 1).mono ?_; intro e7 w4 ho; obtain ⟨hg, v, rfl, rfl, hp⟩ := ho.some (msU_some HV.out); have SQ4 := Aside0.mk (((SQ3.out.put0 3).put1 n).go hg hp); have hgt4 : gs < w4.heap.size := SQ4.out.lt; have hb4 := SQ4.out.cell; clear hg ho hp) | (go_at_call 265; refine (rows_out SQ4.out.ps (k := k) (by have := HL1.out; have := Ps.ms_len HV.out; omega) (by have := HL1.out; have := Ps.ms_len HV.out; omega)).mono ?_; intro e7 w5 ho; obtain ⟨hg, rfl⟩ := ho.none (listU_none HR.out); have HGN := Aside0.mk (SQ4.out.gr.trans hg); clear hg ho))
                    exact ⟨rfl, OutS.of_none HM.out HGN.out⟩
                  | some p =>
                    obtain ⟨⟨l, u⟩, r3⟩ := p
                    rw [hl] at hm
                    simp only at hm
                    have HR := Aside0.mk hl
                    clear hl
                    have HM := Aside0.mk hm
                    clear hm
                    go_wp2_with (first | (go_at_call 259; refine (must1 SQ1.out.ps (by simp) Ps.sInto 1).mono ?_; intro e7 w2 ho; obtain ⟨hg, v, rfl, rfl, hp⟩ := ho.some (msU_some HU.out); have SQ2 := Aside0.mk (SQ1.out.go hg hp); have hgt2 : gs < w2.heap.size := SQ2.out.lt; have hb2 := SQ2.out.cell; clear hg ho hp) | (go_at_call 260; refine (name_out SQ2.out.ps).mono ?_; intro e7 w3 ho; obtain ⟨hg, v, rfl, rfl, hp⟩ := ho.some HN.out; have SQ3 := Aside0.mk (SQ2.out.go hg hp); have hgt3 : gs < w3.heap.size := SQ3.out.lt; have hb3 := SQ3.out.cell; obtain ⟨y3_0, hy3_0⟩ := SQ3.out.has 0 (by omega); have hz3_0 := SQ3.out.frz 0; obtain ⟨y3_1, hy3_1⟩ := SQ3.out.has 1 (by omega); have hz3_1 := SQ3.out.frz 1; clear hg ho hp) | (go_at_call 259; refine (must1 ((SQ3.out.put0 3).put1 n).ps (by simp) Ps.sValues 1).mono ?_; intro e7 w4 ho; obtain ⟨hg, v, rfl, rfl, hp⟩ := ho.some (msU_some HV.out); have SQ4 := Aside0.mk (((SQ3.out.put0 3).put1 n).go hg hp); have hgt4 : gs < w4.heap.size := SQ4.out.lt; have hb4 := SQ4.out.cell; clear hg ho hp) | (go_at_call 265; refine (rows_out SQ4.out.ps (k := k) (by have := HL1.out; have := Ps.ms_len HV.out; omega) (by have := HL1.out; have := Ps.ms_len HV.out; omega)).mono ?_; intro e7 w5 ho; obtain ⟨hg, v, rfl, hv, hp⟩ := ho.some (listU_some HR.out); obtain ⟨Ax, nx, rfl, hnx, hfx⟩ := hv; have SQ5 := Aside0.mk (SQ4.out.go hg hp); have hgt5 : gs < w5.heap.size := SQ5.out.lt; have hb5 := SQ5.out.cell; obtain ⟨y5_4, hy5_4⟩ := SQ5.out.has 4 (by omega); have hz5_4 := SQ5.out.frz 4; have HNX := Aside0.mk hnx; have HFX := Aside0.mk (Kd.F_mono hfx (ok' := fun q => gs < q) (fun q hq => Nat.lt_of_lt_of_le SQ4.out.lt hq)); clear hg ho hp hnx hfx))
                    go_meet
                    case rel => exact ⟨_, _, _, HM, ⟨SQ5.out.put4 HNX.out HFX.out⟩⟩
          · rw [if_neg m2] at hm
            rw [wInsert] at m2
            have q2 : (t.f1.toList == [105, 110, 115, 101, 114, 116]) = false := beq_eq_false_iff_ne.mpr m2
            clear m2
            by_cases m3 : t.f1.toList = Ps.sSelect.toList
            · rw [if_pos m3] at hm
              rw [wSelect] at m3
              have q3 : (t.f1.toList == [115, 101, 108, 101, 99, 116]) = true := beq_iff_eq.mpr m3
              clear m3
              cases hc : Ps.choose k { Ps.st0 with f0 := 4 } r with
              | none =>
                rw [hc] at hm
                have HC := Aside0.mk hc
                clear hc
                have HM := Aside0.mk hm
                clear hm
                go_wp2_with (first | (go_at_call 267; refine (choose_out (SQ1.out.put0 4).sb (k := k) (by have := HL.out; omega) (by have := HL.out; omega)).mono ?_; intro e7 w2 ho; obtain ⟨hg, rfl⟩ := ho.none (chooseU_none HC.out); have HGN := Aside0.mk ((SQ1.out.put0 4).gr_gs hg); clear hg ho))
                exact ⟨rfl, OutS.of_none HM.out HGN.out⟩
              | some p =>
                obtain ⟨y, r1⟩ := p
                rw [hc] at hm
                simp only at hm
                have HC := Aside0.mk hc
                clear hc
                have HM := Aside0.mk hm
                clear hm
                go_wp2_with (first | (go_at_call 267; refine (choose_out (SQ1.out.put0 4).sb (k := k) (by have := HL.out; omega) (by have := HL.out; omega)).mono ?_; intro e7 w2 ho; obtain ⟨hg, v, rfl, rfl, hs⟩ := ho.some (chooseU_some HC.out); obtain ⟨a2, sq⟩ := (SQ1.out.put0 4).of_gs hg hs; have SQ2 := Aside0.mk sq; clear hg ho hs sq))
                go_meet
                case rel => exact ⟨_, _, _, HM, ⟨SQ2.out⟩⟩
            · rw [if_neg m3] at hm
              rw [wSelect] at m3
              have q3 : (t.f1.toList == [115, 101, 108, 101, 99, 116]) = false := beq_eq_false_iff_ne.mpr m3
              clear m3
              by_cases m4 : t.f1.toList = Ps.sUpdate.toList
              · rw [if_pos m4] at hm
                rw [wUpdate] at m4
                have q4 : (t.f1.toList == [117, 112, 100, 97, 116, 101]) = true := beq_iff_eq.mpr m4
                clear m4
                cases hnm : Ps.nm r with
                | none =>
                  rw [hnm] at hm
                  have HN := Aside0.mk hnm
                  clear hnm
                  have HM := Aside0.mk hm
                  clear hm
                  go_wp2_with (first | (go_at_call 260; refine (name_out SQ1.out.ps).mono ?_; intro e7 w2 ho; obtain ⟨hg, rfl⟩ := ho.none HN.out; have HGN := Aside0.mk (SQ1.out.gr.trans hg); clear hg ho))
                  exact ⟨rfl, OutS.of_none HM.out HGN.out⟩
                | some p =>
                  obtain ⟨n, r1⟩ := p
                  rw [hnm] at hm
                  simp only at hm
                  have HN := Aside0.mk hnm
                  clear hnm
                  cases hu : Ps.ms [Ps.sSet] r1 with
                  | none =>
                    rw [hu] at hm
                    have HU := Aside0.mk hu
                    clear hu
                    have HM := Aside0.mk hm
                    clear hm
                    go_wp2_with (first | (go_at_call 260; refine (name_out SQ1.out.ps).mono ?_; intro e7 w2 ho; obtain ⟨hg, v, rfl, rfl, hp⟩ := ho.some HN.out; have SQ2 := Aside0.mk (SQ1.out.go hg hp); have hgt2 : gs < w2.heap.size := SQ2.out.lt; have hb2 := SQ2.out.cell; obtain ⟨y2_0, hy2_0⟩ := SQ2.out.has 0 (by omega); have hz2_0 := SQ2.out.frz 0; obtain ⟨y2_1, hy2_1⟩ := SQ2.out.has 1 (by omega); have hz2_1 := SQ2.out.frz 1; clear hg ho hp) | (go_at_call 259; refine (must1 ((SQ2.out.put0 5).put1 n).ps (by simp) Ps.sSet 1).mono ?_; intro e7 w3 ho; obtain ⟨hg, rfl⟩ := ho.none (msU_none HU.out); have HGN := Aside0.mk (((SQ2.out.put0 5).put1 n).gr.trans hg); clear hg ho))
                    exact ⟨rfl, OutS.of_none HM.out HGN.out⟩
                  | some r2 =>
                    rw [hu] at hm
                    simp only at hm
                    have HU := Aside0.mk hu
                    clear hu
                    cases hl : Ps.list (Ps.setU k) k () r2 with
                    | none =>
                      rw [hl] at hm
                      have HR := Aside0.mk hl
                      clear hl
                      have HM := Aside0.mk hm
                      clear hm
                      go_wp2_with (first | (go_at_call 260; refine (name_out SQ1.out.ps).mono ?_; intro e7 w2 ho; obtain ⟨hg, v, rfl, rfl, hp⟩ := ho.some HN.out; have SQ2 := Aside0.mk (SQ1.out.go hg hp); have hgt2 : gs < w2.heap.size := SQ2.out.lt; have hb2 := SQ2.out.cell; obtain ⟨y2_0, hy2_0⟩ := SQ2.out.has 0 (by omega); have hz2_0 := SQ2.out.frz 0; obtain ⟨y2_1, hy2_1⟩ := SQ2.out.has 1 (by omega); have hz2_1 := SQ2.out.frz 1; clear hg ho hp) | (go_at_call 259; refine (must1 ((SQ2.out.put0 5).put1 n).ps (by simp) Ps.sSet 1).mono ?_; intro e7 w3 ho; obtain ⟨hg, v, rfl, rfl, hp⟩ := ho.some (msU_some HU.out); have SQ3 := Aside0.mk (((SQ2.out.put0 5).put1 n).go hg hp); have hgt3 : gs < w3.heap.size := SQ3.out.lt; have hb3 := SQ3.out.cell; clear hg ho hp) | (go_at_call 268; refine (sets_out SQ3.out.ps (k := k) (by have := Ps.nm_len HN.out; have := Ps.ms_len HU.out; have := HL.out; omega) (by have := Ps.nm_len HN.out; have := Ps.ms_len HU.out; have := HL.out; omega)).mono ?_; intro e7 w4 ho; obtain ⟨hg, rfl⟩ := ho.none (listU_none HR.out); have HGN := Aside0.mk (SQ3.out.gr.trans hg); clear hg ho))
                      exact ⟨rfl, OutS.of_none HM.out HGN.out⟩
                    | some p =>
                      obtain ⟨⟨l, u⟩, r3⟩ := p
                      rw [hl] at hm
                      simp only at hm
                      have HR := Aside0.mk hl
                      clear hl
                      cases hw : Ps.whr k r3 with
                      | none =>
                        rw [hw] at hm
                        have HW := Aside0.mk hw
                        clear hw
                        have HM := Aside0.mk hm
                        clear hm
                        go_wp2_with (first | (go_at_call 260; refine (name_out SQ1.out.ps).mono ?_; intro e7 w2 ho; obtain ⟨hg, v, rfl, rfl, hp⟩ := ho.some HN.out; have SQ2 := Aside0.mk (SQ1.out.go hg hp); have hgt2 : gs < w2.heap.size := SQ2.out.lt; have hb2 := SQ2.out.cell; obtain ⟨y2_0, hy2_0⟩ := SQ2.out.has 0 (by omega); have hz2_0 := SQ2.out.frz 0; obtain ⟨y2_1, hy2_1⟩ := SQ2.out.has 1 (by omega); have hz2_1 := SQ2.out.frz 1; clear hg ho hp) | (go_at_call 259; refine (must1 ((SQ2.out.put0 5).put1 n).ps (by simp) Ps.sSet 1).mono ?_; intro e7 w3 ho; obtain ⟨hg, v, rfl, rfl, hp⟩ := ho.some (msU_some HU.out); have SQ3 := Aside0.mk (((SQ2.out.put0 5).put1 n).go hg hp); have hgt3 : gs < w3.heap.size := SQ3.out.lt; have hb3 := SQ3.out.cell; clear hg ho hp) | (go_at_call 268; refine (sets_out SQ3.out.ps (k := k) (by have := Ps.nm_len HN.out; have := Ps.ms_len HU.out; have := HL.out; omega) (by have := Ps.nm_len HN.out; have := Ps.ms_len HU.out; have := HL.out; omega)).mono ?_; intro e7 w4 ho; obtain ⟨hg, v, rfl, hv, hp⟩ := ho.some (listU_some HR.out); obtain ⟨Ax, nx, rfl, hnx, hfx⟩ := hv; have SQ4 := Aside0.mk (SQ3.out.go hg hp); have hgt4 : gs < w4.heap.size := SQ4.out.lt; have hb4 := SQ4.out.cell; obtain ⟨y4_6, hy4_6⟩ := SQ4.out.has 6 (by omega); have hz4_6 := SQ4.out.frz 6; have HNX := Aside0.mk hnx; have HFX := Aside0.mk (Kd.F_mono hfx (ok' := fun q => gs < q) (fun q hq => Nat.lt_of_lt_of_le SQ3.out.lt hq)); clear hg ho hp hnx hfx) | (go_at_call 270; refine (where_out (SQ4.out.put6 HNX.out HFX.out).ps (k := k) (by have := Ps.nm_len HN.out; have := Ps.ms_len HU.out; have := setsU_len HR.out; have := HL.out; omega)).mono ?_; intro e7 w5 ho; obtain ⟨hg, rfl⟩ := ho.none HW.out; have HGN := Aside0.mk ((SQ4.out.put6 HNX.out HFX.out).gr.trans hg); clear hg ho))
                        exact ⟨rfl, OutS.of_none HM.out HGN.out⟩
                      | some p =>
                        obtain ⟨wl, r4⟩ := p
                        rw [hw] at hm
                        simp only at hm
                        have HW := Aside0.mk hw
                        clear hw
                        have HM := Aside0.mk hm
                        clear hm
                        go_wp2_with (first | (go_at_call 260; refine (name_out SQ1.out.ps).mono ?_; intro e7 w2 ho; obtain ⟨hg, v, rfl, rfl, hp⟩ := ho.some HN.out; have SQ2 := Aside0.mk (SQ1.out.go hg hp); have hgt2 : gs < w2.heap.size := SQ2.out.lt; have hb2 := SQ2.out.cell; obtain ⟨y2_0, hy2_0⟩ := SQ2.out.has 0 (by omega); have hz2_0 := SQ2.out.frz 0; obtain ⟨y2_1, hy2_1⟩ := SQ2.out.has 1 (by omega); have hz2_1 := SQ2.out.frz 1; clear hg ho hp) | (go_at_call 259; refine (must1 ((SQ2.out.put0 5).put1 n).ps (by simp) Ps.sSet 1).mono ?_; intro e7 w3 ho; obtain ⟨hg, v, rfl, rfl, hp⟩ := ho.some (msU_some HU.out); have SQ3 := Aside0.mk (((SQ2.out.put0 5).put1 n).go hg hp); have hgt3 : gs < w3.heap.size := SQ3.out.lt; have hb3 := SQ3.out.cell; clear hg ho hp) | (go_at_call 268; refine (sets_out SQ3.out.ps (k := k) (by have := Ps.nm_len HN.out; have := Ps.ms_len HU.out; have := HL.out; omega) (by have := Ps.nm_len HN.out; have := Ps.ms_len HU.out; have := HL.out; omega)).mono ?_; intro e7 w4 ho; obtain ⟨hg, v, rfl, hv, hp⟩ := ho.some (listU_some HR.out); obtain ⟨Ax, nx, rfl, hnx, hfx⟩ := hv; have SQ4 := Aside0.mk (SQ3.out.go hg hp); have hgt4 : gs < w4.heap.size := SQ4.out.lt; have hb4 := SQ4.out.cell; obtain ⟨y4_6, hy4_6⟩ := SQ4.out.has 6 (by omega); have hz4_6 := SQ4.out.frz 6; have HNX := Aside0.mk hnx; have HFX := Aside0.mk (Kd.F_mono hfx (ok' := fun q => gs < q) (fun q hq => Nat.lt_of_lt_of_le SQ3.out.lt hq)); clear hg ho hp hnx hfx) | (go_at_call 270; refine (where_out (SQ4.out.put6 HNX.out HFX.out).ps (k := k) (by have := Ps.nm_len HN.out; have := Ps.ms_len HU.out; have := setsU_len HR.out; have := HL.out; omega)).mono ?_; intro e7 w5 ho; obtain ⟨hg, v, rfl, hv, hp⟩ := ho.some HW.out; obtain ⟨Ax, nx, rfl, hnx, hfx⟩ := hv; have SQ5 := Aside0.mk ((SQ4.out.put6 HNX.out HFX.out).go hg hp); have hgt5 : gs < w5.heap.size := SQ5.out.lt; have hb5 := SQ5.out.cell; obtain ⟨y5_7, hy5_7⟩ := SQ5.out.has 7 (by omega); have hz5_7 := SQ5.out.frz 7; have HNY := Aside0.mk hnx; have HFY := Aside0.mk (Kd.F_mono hfx (ok' := fun q => gs < q) (fun q hq => Nat.lt_of_lt_of_le (SQ4.out.put6 HNX.out HFX.out).lt hq)); clear hg ho hp hnx hfx))
                        go_meet
                        case rel => exact ⟨_, _, _, HM, ⟨SQ5.out.put7 HNY.out HFY.out⟩⟩
              · rw [if_neg m4] at hm
                rw [wUpdate] at m4
                have q4 : (t.f1.toList == [117, 112, 100, 97, 116, 101]) = false := beq_eq_false_iff_ne.mpr m4
                clear m4
                by_cases m5 : t.f1.toList = Ps.sDelete.toList
                · rw [if_pos m5] at hm
                  rw [wDelete] at m5
                  have q5 : (t.f1.toList == [100, 101, 108, 101, 116, 101]) = true := beq_iff_eq.mpr m5
                  clear m5
                  simp only [Ps.head] at hm
                  cases hu : Ps.ms [Ps.sFrom] r with
                  | none =>
                    rw [hu] at hm
                    have HU := Aside0.mk hu
                    clear hu
                    have HM := Aside0.mk hm
                    clear hm
                    go_wp2_with (first | (go_at_call 259; refine (must1 SQ1.out.ps (by simp) Ps.sFrom 1).mono ?_; intro e7 w2 ho; obtain ⟨hg, rfl⟩ := ho.none (msU_none HU.out); have HGN := Aside0.mk (SQ1.out.gr.trans hg); clear hg ho))
                    exact ⟨rfl, OutS.of_none HM.out HGN.out⟩
                  | some r0 =>
                    rw [hu] at hm
                    simp only at hm
                    have HU := Aside0.mk hu
                    clear hu
                    cases hnm : Ps.nm r0 with
                    | none =>
                      rw [hnm] at hm
                      have HN := Aside0.mk hnm
                      clear hnm
                      have HM := Aside0.mk hm
                      clear hm
                      go_wp2_with (first | (go_at_call 259; refine (must1 SQ1.out.ps (by simp) Ps.sFrom 1).mono ?_; intro e7 w2 ho; obtain ⟨hg, v, rfl, rfl, hp⟩ := ho.some (msU_some HU.out); have SQ2 := Aside0.mk (SQ1.out.go hg hp); have hgt2 : gs < w2.heap.size := SQ2.out.lt; have hb2 := SQ2.out.cell; clear hg ho hp) | (go_at_call 260; refine (name_out SQ2.out.ps).mono ?_; intro e7 w3 ho; obtain ⟨hg, rfl⟩ := ho.none HN.out; have HGN := Aside0.mk (SQ2.out.gr.trans hg); clear hg ho))
                      exact ⟨rfl, OutS.of_none HM.out HGN.out⟩
                    | some p =>
                      obtain ⟨n, r1⟩ := p
                      rw [hnm] at hm
                      simp only at hm
                      have HN := Aside0.mk hnm
                      clear hnm
                      have HL1 := Aside0.mk (show r1.length ≤ ts.length by have := Ps.nm_len HN.out; have := Ps.ms_len HU.out; have := HL.out; omega)
                      cases hw : Ps.whr k r1 with
                      | none =>
                        rw [hw] at hm
                        have HW := Aside0.mk hw
                        clear hw
                        have HM := Aside0.mk hm
                        clear hm
                        go_wp2_with (first | (go_at_call 259; refine (must1 SQ1.out.ps (by simp) Ps.sFrom 1).mono ?_; intro e7 w2 ho; obtain ⟨hg, v, rfl, rfl, hp⟩ := ho.some (msU_some HU.out); have SQ2 := Aside0.mk (SQ1.out.go hg hp); have hgt2 : gs < w2.heap.size := SQ2.out.lt; have hb2 := SQ2.out.cell; clear hg ho hp) | (go_at_call 260; refine (name_out SQ2.out.ps).mono ?_; intro e7 w3 ho; obtain ⟨hg, v, rfl, rfl, hp⟩ := ho.some HN.out; have SQ3 := Aside0.mk (SQ2.out.go hg hp); have hgt3 : gs < w3.heap.size := SQ3.out.lt; have hb3 := SQ3.out.cell; obtain ⟨y3_0, hy3_0⟩ := SQ3.out.has 0 (by omega); have hz3_0 := SQ3.out.frz 0; obtain ⟨y3_1, hy3_1⟩ := SQ3.out.has 1 (by omega); have hz3_1 := SQ3.out.frz 1; clear hg ho hp) | (go_at_call 270; refine (where_out ((SQ3.out.put0 6).put1 n).ps (k := k) (by have := HL1.out; omega)).mono ?_; intro e7 w4 ho; obtain ⟨hg, rfl⟩ := ho.none HW.out; have HGN := Aside0.mk (((SQ3.out.put0 6).put1 n).gr.trans hg); clear hg ho))
                        exact ⟨rfl, OutS.of_none HM.out HGN.out⟩
                      | some p =>
                        obtain ⟨wl, r2⟩ := p
                        rw [hw] at hm
                        simp only at hm
                        have HW := Aside0.mk hw
                        clear hw
                        have HM := Aside0.mk hm
                        clear hm
                        go_wp2_with (first | (go_at_call 259; refine (must1 SQ1.out.ps (by simp) Ps.sFrom 1).mono ?_; intro e7 w2 ho; obtain ⟨hg, v, rfl, rfl, hp⟩ := ho.some (msU_some HU.out); have SQ2 := Aside0.mk (SQ1.out.go hg hp); have hgt2 : gs < w2.heap.size := SQ2.out.lt; have hb2 := SQ2.out.cell; clear hg ho hp) | (go_at_call 260; refine (name_out SQ2.out.ps).mono ?_; intro e7 w3 ho; obtain ⟨hg, v, rfl, rfl, hp⟩ := ho.some HN.out; have SQ3 := Aside0.mk (SQ2.out.go hg hp); have hgt3 : gs < w3.heap.size := SQ3.out.lt; have hb3 := SQ3.out.cell; obtain ⟨y3_0, hy3_0⟩ := SQ3.out.has 0 (by omega); have hz3_0 := SQ3.out.frz 0; obtain ⟨y3_1, hy3_1⟩ := SQ3.out.has 1 (by omega); have hz3_1 := SQ3.out.frz 1; clear hg ho hp) | (go_at_call 270; refine (where_out ((SQ3.out.put0 6).put1 n).ps (k := k) (by have := HL1.out; omega)).mono ?_; intro e7 w4 ho; obtain ⟨hg, v, rfl, hv, hp⟩ := ho.some HW.out; obtain ⟨Ax, nx, rfl, hnx, hfx⟩ := hv; have SQ4 := Aside0.mk (((SQ3.out.put0 6).put1 n).go hg hp); have hgt4 : gs < w4.heap.size := SQ4.out.lt; have hb4 := SQ4.out.cell; obtain ⟨y4_7, hy4_7⟩ := SQ4.out.has 7 (by omega); have hz4_7 := SQ4.out.frz 7; have HNX := Aside0.mk hnx; have HFX := Aside0.mk (Kd.F_mono hfx (ok' := fun q => gs < q) (fun q hq => Nat.lt_of_lt_of_le ((SQ3.out.put0 6).put1 n).lt hq)); clear hg ho hp hnx hfx))
                        go_meet
                        case rel => exact ⟨_, _, _, HM, ⟨SQ4.out.put7 HNX.out HFX.out⟩⟩
                · rw [if_neg m5] at hm
                  rw [wDelete] at m5
                  have q5 : (t.f1.toList == [100, 101, 108, 101, 116, 101]) = false := beq_eq_false_iff_ne.mpr m5
                  clear m5
                  have HM := Aside0.mk hm
                  clear hm
                  go_wp2_with (first | (go_at_call 264; refine (fail_calls g _).mono ?_; rintro e8 w8 ⟨rfl, rfl⟩))
                  exact ⟨rfl, OutS.of_none HM.out SQ1.out.gr⟩
    case rest =>
      clear SQ1
      obtain ⟨x, a, tq, HM, SQ2⟩ := hcut
      have hgt2 := SQ2.out.lt
      have hb2 := SQ2.out.cell
      have hm := HM.out
      clear HM
      unfold Ps.fin at hm
      cases ht : Ps.tk Ps.sSemi tq with
      | none =>
        rw [ht] at hm
        have HT := Aside0.mk ht
        clear ht
        have HM := Aside0.mk hm
        clear hm
        go_wp2_with (first | (go_at_call 271; refine (take_out SQ2.out.ps Ps.sSemi).mono ?_; intro e7 w3 ho; obtain ⟨hg, rfl⟩ := ho.none HT.out; have HGN := Aside0.mk (SQ2.out.gr.trans hg); clear hg ho))
        exact ⟨rfl, OutS.of_none HM.out HGN.out⟩
      | some p =>
        obtain ⟨b, q⟩ := p
        rw [ht] at hm
        simp only at hm
        have HT := Aside0.mk ht
        clear ht
        have HM := Aside0.mk hm
        clear hm
        go_upto_region 33 with (first | (go_at_call 271; refine (take_out SQ2.out.ps Ps.sSemi).mono ?_; intro e7 w3 ho; obtain ⟨hg, v, rfl, rfl, hp⟩ := ho.some HT.out; have SQ3 := Aside0.mk (SQ2.out.go hg hp); have hgt3 : gs < w3.heap.size := SQ3.out.lt; have hb3 := SQ3.out.cell; clear hg ho hp))
        have hm := HM.out
        clear HM
        obtain ⟨e, q1, rfl⟩ := SQ3.out.ps.ends.cons
        obtain ⟨ad, c, hc, hC, hbl, c0, c1, c2⟩ := SQ3.out.ps.slice
        have hg0 : w3.cell? ⟨g, 0, none⟩ = some (.slice (some ad) (q1.length + 1) c) := (blk_cell hbl 0).trans rfl
        have hal := World.block_lt_of_cell? w3 _ c0
        clear hC hbl c1 c2
        simp only at hm
        by_cases k0 : e.f0 = 0
        · rw [if_pos k0] at hm
          have b0 : (e.f0 != 0) = false := bne_eq_false_iff_eq.mpr k0
          clear k0
          have BS := Aside0.mk SQ3.out.st
          have BR := Aside0.mk SQ3.out.res
          have HF := Aside0.mk SQ3.out.fr
          have HG := Aside0.mk SQ3.out.gr
          have hrb : w.heap.size ≤ rb := by omega
          have hrt : rb < w3.heap.size := blk_lt BR.out
          have sc0 : w3.cell? ⟨gs, 0, none⟩ = some (.int .i64 x.f0) := (blk_cell BS.out 0).trans rfl
          have sc1 : w3.cell? ⟨gs, 1, none⟩ = some (.string x.f1) := (blk_cell BS.out 1).trans rfl
          have sc2 : w3.cell? ⟨gs, 2, none⟩ = some (.slice a.a2 x.f2.length a.c2) := (blk_cell BS.out 2).trans rfl
          have sc3 : w3.cell? ⟨gs, 3, none⟩ = some (.string x.f3) := (blk_cell BS.out 3).trans rfl
          have sc4 : w3.cell? ⟨gs, 4, none⟩ = some (.slice a.a4 x.f4.length a.c4) := (blk_cell BS.out 4).trans rfl
          have sc5 : w3.cell? ⟨gs, 5, none⟩ = some (.slice a.a5 x.f5.length a.c5) := (blk_cell BS.out 5).trans rfl
          have sc6 : w3.cell? ⟨gs, 6, none⟩ = some (.slice a.a6 x.f6.length a.c6) := (blk_cell BS.out 6).trans rfl
          have sc7 : w3.cell? ⟨gs, 7, none⟩ = some (.slice a.a7 x.f7.length a.c7) := (blk_cell BS.out 7).trans rfl
          have sc8 : w3.cell? ⟨gs, 8, none⟩ = some (.string x.f8) := (blk_cell BS.out 8).trans rfl
          have sc9 : w3.cell? ⟨gs, 9, none⟩ = some (.bool x.f9) := (blk_cell BS.out 9).trans rfl
          have sc10 : w3.cell? ⟨gs, 10, none⟩ = some (.int .i64 x.f10) := (blk_cell BS.out 10).trans rfl
          have rc0 : w3.cell? ⟨rb, 0, none⟩ = some (.int .i64 0) := (blk_cell BR.out 0).trans rfl
          have rc1 : w3.cell? ⟨rb, 1, none⟩ = some (.string ⟨#[]⟩) := (blk_cell BR.out 1).trans rfl
          have rc2 : w3.cell? ⟨rb, 2, none⟩ = some (.slice none 0 0) := (blk_cell BR.out 2).trans rfl
          have rc3 : w3.cell? ⟨rb, 3, none⟩ = some (.string ⟨#[]⟩) := (blk_cell BR.out 3).trans rfl
          have rc4 : w3.cell? ⟨rb, 4, none⟩ = some (.slice none 0 0) := (blk_cell BR.out 4).trans rfl
          have rc5 : w3.cell? ⟨rb, 5, none⟩ = some (.slice none 0 0) := (blk_cell BR.out 5).trans rfl
          have rc6 : w3.cell? ⟨rb, 6, none⟩ = some (.slice none 0 0) := (blk_cell BR.out 6).trans rfl
          have rc7 : w3.cell? ⟨rb, 7, none⟩ = some (.slice none 0 0) := (blk_cell BR.out 7).trans rfl
          have rc8 : w3.cell? ⟨rb, 8, none⟩ = some (.string ⟨#[]⟩) := (blk_cell BR.out 8).trans rfl
          have rc9 : w3.cell? ⟨rb, 9, none⟩ = some (.bool false) := (blk_cell BR.out 9).trans rfl
          have rc10 : w3.cell? ⟨rb, 10, none⟩ = some (.int .i64 0) := (blk_cell BR.out 10).trans rfl
          have rz0 := blk_frozen BR.out 0
          have rz1 := blk_frozen BR.out 1
          have rz2 := blk_frozen BR.out 2
          have rz3 := blk_frozen BR.out 3
          have rz4 := blk_frozen BR.out 4
          have rz5 := blk_frozen BR.out 5
          have rz6 := blk_frozen BR.out 6
          have rz7 := blk_frozen BR.out 7
          have rz8 := blk_frozen BR.out 8
          have rz9 := blk_frozen BR.out 9
          have rz10 := blk_frozen BR.out 10
          have HM := Aside0.mk hm
          clear hm
          go_wp2
          refine bodyPost_ret (v := .agg (celA x a)) ?_ rfl ?_
          · simp [results, Tryz.results179, go_sem, celA, cells60, rc0, rz0, rc1, rz1, rc2, rz2, rc3, rz3, rc4, rz4, rc5, rz5, rc6, rz6, rc7, rz7, rc8, rz8, rc9, rz9, rc10, rz10, hrt]
          · refine OutS.of_some HM.out ?_ ⟨a, rfl, ?_⟩
            · with_reducible (repeat (first | exact HG.out | refine Gr.setB ?_ hrb _ _))
            · refine StF.mono (ok := fun q => gs < q) ?_ (fun q hq => by have h1 : gs < q := hq; omega)
              have hne : ∀ q, gs < q → q ≠ rb := fun q hq => by omega
              with_reducible (repeat (first | exact HF.out | refine StF.far ?_ hne _ _))
        · rw [if_neg k0] at hm
          have b0 : (e.f0 != 0) = true := bne_iff_ne.mpr k0
          clear k0
          have HM := Aside0.mk hm
          clear hm
          go_wp2_with (first | (go_at_call 264; refine (fail_calls g _).mono ?_; rintro e8 w8 ⟨rfl, rfl⟩))
          exact ⟨rfl, OutS.of_none HM.out SQ3.out.gr⟩
end Go.Proofs.YtcgdncpioafbdaaGreatDoor.Q

/- The parser: set, column, and the closure round it. -/
import Derived.Test.YtcgdncpioafbdaaGreatDoorPh
import Derived.Test.YtcgdncpioafbdaaGreatDoorPgR
import Derived.Test.YtcgdncpioafbdaaGreatDoorPgS
import Derived.Test.YtcgdncpioafbdaaGreatDoorPgC
namespace Go.Proofs.YtcgdncpioafbdaaGreatDoor.Q
open Go Go.RowKit Go.Proofs.YtcgdncpioafbdaaGreatDoorW.PrintWords

set_option maxHeartbeats 1000000 in
set_option maxRecDepth 100000 in
theorem set_out {w0 w : World} {g : Nat} {ts : List S32} (h : PS w0 g ts w) {k : Nat} (hk : 2 * ts.length + 1 ≤ k) : Calls Tryz.prog 269 #[.pointer (some ⟨g, 0, none⟩)] w (Out w0 g (Vset w.heap.size) w (Ps.set k ts)) := by
  have HP := Aside0.mk h
  clear h
  have hlt := HP.out.lt
  have hlow := HP.out.low
  cases hn : Ps.nm ts with
  | none =>
    have HN := Aside0.mk hn
    have HM := Aside0.mk (show Ps.set k ts = none by simp only [Ps.set, hn])
    clear hn
    go_enter Tryz.func269, Tryz.ntmps269
    go_wp2_with (first | (go_at_call 260; refine (name_out (HP.out.alloc _)).mono ?_; intro e9 w2 ho; obtain ⟨hg, rfl⟩ := ho.none HN.out; have HGN := Aside0.mk (((Gr.refl g w).alloc _).trans hg); clear hg ho))
    exact ⟨rfl, Out.of_none HM.out HGN.out⟩
  | some p =>
    obtain ⟨c, r⟩ := p
    have HN := Aside0.mk hn
    cases hu : Ps.ms [Ps.sEq] r with
    | none =>
      have HU := Aside0.mk hu
      have HM := Aside0.mk (show Ps.set k ts = none by simp only [Ps.set, hn, hu])
      clear hn hu
      go_enter Tryz.func269, Tryz.ntmps269
      go_wp2_with (first | (go_at_call 260; refine (name_out (HP.out.alloc _)).mono ?_; intro e9 w2 ho; obtain ⟨hg, v, rfl, rfl, hp⟩ := ho.some HN.out; have BR2 := Aside0.mk (hg.blk (new_blk (W := w) _ rfl) (by omega)); have hs2 : w.heap.size < w2.heap.size := blk_lt BR2.out; have HQ2 := Aside0.mk hp; have HG2 := Aside0.mk (((Gr.refl g w).alloc _).trans hg); clear hg ho hp) | (go_at_call 259; refine (must1 HQ2.out (by simp) Ps.sEq 1).mono ?_; intro e7 w3 ho; obtain ⟨hg, rfl⟩ := ho.none (msU_none HU.out); have HGN := Aside0.mk (HG2.out.trans hg); clear hg ho))
      exact ⟨rfl, Out.of_none HM.out HGN.out⟩
    | some r1 =>
      have HU := Aside0.mk hu
      cases hx : Ps.expr k 0 r1 with
      | none =>
        have HX := Aside0.mk hx
        have HM := Aside0.mk (show Ps.set k ts = none by simp only [Ps.set, hn, hu, hx])
        clear hn hu hx
        go_enter Tryz.func269, Tryz.ntmps269
        go_wp2_with (first | (go_at_call 260; refine (name_out (HP.out.alloc _)).mono ?_; intro e9 w2 ho; obtain ⟨hg, v, rfl, rfl, hp⟩ := ho.some HN.out; have BR2 := Aside0.mk (hg.blk (new_blk (W := w) _ rfl) (by omega)); have hs2 : w.heap.size < w2.heap.size := blk_lt BR2.out; have HQ2 := Aside0.mk hp; have HG2 := Aside0.mk (((Gr.refl g w).alloc _).trans hg); clear hg ho hp) | (go_at_call 259; refine (must1 HQ2.out (by simp) Ps.sEq 1).mono ?_; intro e7 w3 ho; obtain ⟨hg, v, rfl, rfl, hp⟩ := ho.some (msU_some HU.out); have BR3 := Aside0.mk (hg.blk BR2.out (by omega)); have hs3 : w.heap.size < w3.heap.size := blk_lt BR3.out; have HQ3 := Aside0.mk hp; have HG3 := Aside0.mk (HG2.out.trans hg); clear hg ho hp) | (go_at_call 326; refine (any_out HQ3.out (k := k) (by have := Ps.nm_len HN.out; have := Ps.ms_len HU.out; omega)).mono ?_; intro e9 w4 ho; obtain ⟨hg, rfl⟩ := ho.none HX.out; have HG4 := Aside0.mk (HG3.out.trans hg); clear hg ho))
        exact ⟨rfl, Out.of_none HM.out HG4.out⟩
      | some p =>
        obtain ⟨x, r2⟩ := p
        have HX := Aside0.mk hx
        have HM := Aside0.mk (show Ps.set k ts = some (⟨c, x⟩, r2) by simp only [Ps.set, hn, hu, hx])
        clear hn hu hx
        go_enter Tryz.func269, Tryz.ntmps269
        go_wp2_with (first | (go_at_call 260; refine (name_out (HP.out.alloc _)).mono ?_; intro e9 w2 ho; obtain ⟨hg, v, rfl, rfl, hp⟩ := ho.some HN.out; have BR2 := Aside0.mk (hg.blk (new_blk (W := w) _ rfl) (by omega)); have hs2 : w.heap.size < w2.heap.size := blk_lt BR2.out; have HQ2 := Aside0.mk hp; have HG2 := Aside0.mk (((Gr.refl g w).alloc _).trans hg); clear hg ho hp) | (go_at_call 259; refine (must1 HQ2.out (by simp) Ps.sEq 1).mono ?_; intro e7 w3 ho; obtain ⟨hg, v, rfl, rfl, hp⟩ := ho.some (msU_some HU.out); have BR3 := Aside0.mk (hg.blk BR2.out (by omega)); have hs3 : w.heap.size < w3.heap.size := blk_lt BR3.out; have HQ3 := Aside0.mk hp; have HG3 := Aside0.mk (HG2.out.trans hg); clear hg ho hp) | (go_at_call 326; refine (any_out HQ3.out (k := k) (by have := Ps.nm_len HN.out; have := Ps.ms_len HU.out; omega)).mono ?_; intro e9 w4 ho; obtain ⟨hg, v, rfl, hv, hp⟩ := ho.some HX.out; obtain ⟨Ax, nx, rfl, hnx, hfx⟩ := hv; have BR4 := Aside0.mk (hg.blk BR3.out (by omega)); have hs4 : w.heap.size < w4.heap.size := blk_lt BR4.out; have r4c0 : w4.cell? ⟨w.heap.size, 0, none⟩ = some (.string ⟨#[]⟩) := (blk_cell BR4.out 0).trans rfl; have r4c1 : w4.cell? ⟨w.heap.size, 1, none⟩ = some (.string ⟨#[]⟩) := (blk_cell BR4.out 1).trans rfl; have r4c2 : w4.cell? ⟨w.heap.size, 2, none⟩ = some (.int .i64 0) := (blk_cell BR4.out 2).trans rfl; have r4c3 : w4.cell? ⟨w.heap.size, 3, none⟩ = some (.int .i64 0) := (blk_cell BR4.out 3).trans rfl; have r4c4 : w4.cell? ⟨w.heap.size, 4, none⟩ = some (.string ⟨#[]⟩) := (blk_cell BR4.out 4).trans rfl; have r4c5 : w4.cell? ⟨w.heap.size, 5, none⟩ = some (.string ⟨#[]⟩) := (blk_cell BR4.out 5).trans rfl; have r4c6 : w4.cell? ⟨w.heap.size, 6, none⟩ = some (.slice none 0 0) := (blk_cell BR4.out 6).trans rfl; have r4z0 := blk_frozen BR4.out 0; have r4z1 := blk_frozen BR4.out 1; have r4z2 := blk_frozen BR4.out 2; have r4z3 := blk_frozen BR4.out 3; have r4z4 := blk_frozen BR4.out 4; have r4z5 := blk_frozen BR4.out 5; have r4z6 := blk_frozen BR4.out 6; have HQ4 := Aside0.mk hp; have HG4 := Aside0.mk (HG3.out.trans hg); have HNX := Aside0.mk hnx; have HFX := Aside0.mk (Kd.F_mono hfx (ok' := fun q => w.heap.size < q) (fun q hq => by omega)); clear hg ho hp hnx hfx; unfold cells43))
        refine bodyPost_ret (v := .agg (cells90 ⟨c, x⟩ Ax nx).toArray) ?_ rfl ?_
        · simp [results, Tryz.results269, go_sem, cells90, r4c0, r4z0, r4c1, r4z1, r4c2, r4z2, r4c3, r4z3, r4c4, r4z4, r4c5, r4z5, r4c6, r4z6, hs4]
        · refine Out.of_some HM.out ?_ ⟨Ax, nx, rfl, HNX.out, ?_⟩ ?_
          · with_reducible (repeat (first | exact HG4.out | refine Gr.setB ?_ (Nat.le_refl _) _ _))
          · refine Kd.F_mono (ok := fun q => w.heap.size < q) ?_ (fun q hq => Nat.le_of_lt hq)
            with_reducible (repeat (refine Kd.F_far ?_ (fun q hq => Nat.ne_of_gt hq) _))
            exact HFX.out
          · with_reducible (repeat (first | exact HQ4.out | refine PS.setB ?_ (by omega) (by omega) _ _))
theorem set_len {k : Nat} {ts r : List S32} {x : S90} (h : Ps.set k ts = some (x, r)) : r.length ≤ ts.length := by
  unfold Ps.set at h
  cases hn : Ps.nm ts with
  | none => rw [hn] at h; cases h
  | some p =>
    obtain ⟨c, r1⟩ := p
    rw [hn] at h
    simp only at h
    cases hu : Ps.ms [Ps.sEq] r1 with
    | none => rw [hu] at h; cases h
    | some r2 =>
      rw [hu] at h
      simp only at h
      cases hx : Ps.expr k 0 r2 with
      | none => rw [hx] at h; cases h
      | some p =>
        obtain ⟨y, r3⟩ := p
        rw [hx] at h
        cases h
        have h1 := Ps.nm_len hn
        have h2 := Ps.ms_len hu
        have h3 := Ps.expr_len hx
        omega

/-- A create's statement so far: its table's name and its key. -/
def stC (n key : ByteArray) : Array Value := #[.int .i64 1, .string n, .slice none 0 0, .string key, .slice none 0 0, .slice none 0 0, .slice none 0 0, .slice none 0 0, .string ⟨#[]⟩, .bool false, .int .i64 (-1)]
/-- The parser's state and, in block gs, the statement's. -/
structure Icol (w0 : World) (g gs bp : Nat) (n key : ByteArray) (ts : List S32) (w : World) : Prop where
  ps : PS w0 g ts w
  st : w.heap[gs]? = some (.cells (stC n key) 60 (0, 0))
  box : w.heap[bp]? = some (.cells #[.pointer (some ⟨g, 0, none⟩)] 229 (0, 0))
  low : w0.heap.size ≤ gs
  ne : gs ≠ g
  bpg : bp ≠ g
  bps : bp ≠ gs

set_option maxHeartbeats 2000000 in
set_option maxRecDepth 100000 in
theorem column_out {w0 w : World} {g gs bp : Nat} {n key : ByteArray} {ts : List S32} (h : Icol w0 g gs bp n key ts w) : Calls Tryz.prog 263 #[.pointer (some ⟨g, 0, none⟩), .pointer (some ⟨gs, 0, none⟩)] w (OutG (fun q => q = g ∨ q = gs) (Icol w0 g gs bp n) (Vcol w.heap.size) w (Ps.column key ts)) := by
  have HP := Aside0.mk h.ps
  have BS := Aside0.mk h.st
  have HI := Aside0.mk h
  have hne := h.ne
  have hglow := h.low
  clear h
  have hlt := HP.out.lt
  have hlow := HP.out.low
  have hgs : gs < w.heap.size := blk_lt BS.out
  have hbp : bp < w.heap.size := blk_lt HI.out.box
  have hbps := HI.out.bps
  cases hn : Ps.nm ts with
  | none =>
    have HN := Aside0.mk hn
    have HM := Aside0.mk (show Ps.column key ts = none by simp only [Ps.column, hn])
    clear hn
    go_enter Tryz.func263, Tryz.ntmps263
    go_wp2_with (first | (go_at_call 260; refine (name_out (HP.out.alloc _)).mono ?_; intro e9 w2 ho; obtain ⟨hg, rfl⟩ := ho.none HN.out; have HGN := Aside0.mk (((Gr.refl g w).alloc _).trans hg); clear hg ho))
    exact ⟨rfl, OutG.of_none HM.out (Gs.of_gr HGN.out (.inl rfl))⟩
  | some p =>
    obtain ⟨c, r⟩ := p
    have HN := Aside0.mk hn
    cases ht : Ps.tk Ps.sText r with
    | none =>
      have HT := Aside0.mk ht
      have HM := Aside0.mk (show Ps.column key ts = none by simp only [Ps.column, hn, ht])
      clear hn ht
      go_enter Tryz.func263, Tryz.ntmps263
      go_wp2_with (first | (go_at_call 260; refine (name_out (HP.out.alloc _)).mono ?_; intro e9 w1 ho; obtain ⟨hg, v, rfl, rfl, hp⟩ := ho.some HN.out; have BR1 := Aside0.mk (hg.blk (new_blk (W := w) _ rfl) (by omega)); have BS1 := Aside0.mk (hg.blk (blk_alloc BS.out _) (by omega)); have hs1 : w.heap.size < w1.heap.size := blk_lt BR1.out; have HQ1 := Aside0.mk hp; have HG1 := Aside0.mk (((Gr.refl g w).alloc _).trans hg); clear hg ho hp) | (go_at_call 271; refine (take_out (HQ1.out.alloc _) Ps.sText).mono ?_; intro e7 w2 ho; obtain ⟨hg, rfl⟩ := ho.none HT.out; have HGN := Aside0.mk ((HG1.out.alloc _).trans hg); clear hg ho))
      exact ⟨rfl, OutG.of_none HM.out (Gs.of_gr HGN.out (.inl rfl))⟩
    | some p =>
      obtain ⟨b, r1⟩ := p
      have HT := Aside0.mk ht
      clear hn ht
      go_enter Tryz.func263, Tryz.ntmps263
      go_upto_if 10 with (first | (go_at_call 260; refine (name_out (HP.out.alloc _)).mono ?_; intro e9 w1 ho; obtain ⟨hg, v, rfl, rfl, hp⟩ := ho.some HN.out; have BR1 := Aside0.mk (hg.blk (new_blk (W := w) _ rfl) (by omega)); have BS1 := Aside0.mk (hg.blk (blk_alloc BS.out _) (by omega)); have hs1 : w.heap.size < w1.heap.size := blk_lt BR1.out; have HQ1 := Aside0.mk hp; have HG1 := Aside0.mk (((Gr.refl g w).alloc _).trans hg); clear hg ho hp) | (go_at_call 271; refine (take_out (HQ1.out.alloc _) Ps.sText).mono ?_; intro e7 w2 ho; obtain ⟨hg, v, rfl, rfl, hp⟩ := ho.some HT.out; have BR2 := Aside0.mk (hg.blk (blk_alloc BR1.out _) (by omega)); have BS2 := Aside0.mk (hg.blk (blk_alloc BS1.out _) (by omega)); have BC2 := Aside0.mk (hg.blk (new_blk (W := w1) _ rfl) (by omega)); have hs2 : w1.heap.size < w2.heap.size := blk_lt BC2.out; have c2c0 : w2.cell? ⟨w1.heap.size, 0, none⟩ = some (.string c) := (blk_cell BC2.out 0).trans rfl; have c2c1 : w2.cell? ⟨w1.heap.size, 1, none⟩ = some (.int .i64 1) := (blk_cell BC2.out 1).trans rfl; have c2c2 : w2.cell? ⟨w1.heap.size, 2, none⟩ = some (.int .i64 0) := (blk_cell BC2.out 2).trans rfl; have c2z0 := blk_frozen BC2.out 0; have c2z1 := blk_frozen BC2.out 1; have c2z2 := blk_frozen BC2.out 2; have HQ2 := Aside0.mk hp; have HG2 := Aside0.mk ((HG1.out.alloc _).trans hg); clear hg ho hp))
      go_cut [] (fun wc => ∃ (kind : Int) (r2 : List S32), Aside0 (Ps.column key ts = Ps.colB key c kind r2) ∧ Aside0 (wc.heap[w1.heap.size]? = some (.cells #[.string c, .int .i64 kind, .int .i64 0] 128 (0, 0))) ∧ Aside0 (wc.heap[w.heap.size]? = some (.cells #[.string ⟨#[]⟩, .int .i64 0, .int .i64 0] 128 (0, 0))) ∧ Aside0 (wc.heap[gs]? = some (.cells (stC n key) 60 (0, 0))) ∧ Aside0 (PS w0 g r2 wc) ∧ Aside0 (Gr g w wc))
      case first =>
        cases b with
        | true =>
          have HM := Aside0.mk (show Ps.column key ts = Ps.colB key c 2 r1 by simp only [Ps.column, HN.out, HT.out])
          go_wp2
          go_meet
          case rel =>
            exact ⟨2, r1, HM, ⟨blk_put BC2.out 1 _ rfl⟩, ⟨blk_setNe BR2.out (by omega) _ _⟩, ⟨blk_setNe BS2.out (by omega) _ _⟩, ⟨PS.setB HQ2.out (by omega) (by omega) _ _⟩, ⟨Gr.setB HG2.out (by omega) _ _⟩⟩
        | false =>
          cases hu : Ps.ms [Ps.sInt] r1 with
          | none =>
            have HU := Aside0.mk hu
            have HM := Aside0.mk (show Ps.column key ts = none by simp only [Ps.column, HN.out, HT.out, hu])
            clear hu
            go_wp2_with (first | (go_at_call 259; refine (must1 HQ2.out (by simp) Ps.sInt 1).mono ?_; intro e7 w3 ho; obtain ⟨hg, rfl⟩ := ho.none (msU_none HU.out); have HGN := Aside0.mk (HG2.out.trans hg); clear hg ho))
            exact ⟨rfl, OutG.of_none HM.out (Gs.of_gr HGN.out (.inl rfl))⟩
          | some r2 =>
            have HU := Aside0.mk hu
            have HM := Aside0.mk (show Ps.column key ts = Ps.colB key c 1 r2 by simp only [Ps.column, HN.out, HT.out, hu])
            clear hu
            go_wp2_with (first | (go_at_call 259; refine (must1 HQ2.out (by simp) Ps.sInt 1).mono ?_; intro e7 w3 ho; obtain ⟨hg, v, rfl, rfl, hp⟩ := ho.some (msU_some HU.out); have HG3 := Aside0.mk (HG2.out.trans hg); have BR3 := Aside0.mk (hg.blk BR2.out (by omega)); have BS3 := Aside0.mk (hg.blk BS2.out (by omega)); have BC3 := Aside0.mk (hg.blk BC2.out (by omega)); have HQ3 := Aside0.mk hp; clear hg ho hp))
            go_meet
            case rel =>
              exact ⟨1, r2, HM, BC3, BR3, BS3, HQ3, HG3⟩
      case rest =>
        clear BR1 BS1 HQ1 HG1 BR2 BS2 BC2 HQ2 HG2 HT c2c0 c2c1 c2c2 c2z0 c2z1 c2z2
        obtain ⟨kind, r2, HM, BC3, BR3, BS3, HQ3, HG3⟩ := hcut
        have hm := HM.out
        unfold Ps.colB at hm
        clear HM
        cases hd : Ps.tk Ps.sDet r2 with
        | none =>
          rw [hd] at hm
          have HD := Aside0.mk hd
          have HM := Aside0.mk hm
          clear hd hm
          go_wp2_with (first | (go_at_call 271; refine (take_out HQ3.out Ps.sDet).mono ?_; intro e7 w4 ho; obtain ⟨hg, rfl⟩ := ho.none HD.out; have HGN := Aside0.mk (HG3.out.trans hg); clear hg ho))
          exact ⟨rfl, OutG.of_none HM.out (Gs.of_gr HGN.out (.inl rfl))⟩
        | some p =>
          obtain ⟨d, r3⟩ := p
          rw [hd] at hm
          simp only at hm
          have HD := Aside0.mk hd
          have HM := Aside0.mk hm
          clear hd hm
          go_upto_if 16 with (first | (go_at_call 271; refine (take_out HQ3.out Ps.sDet).mono ?_; intro e7 w4 ho; obtain ⟨hg, v, rfl, rfl, hp⟩ := ho.some HD.out; have BR4 := Aside0.mk (hg.blk BR3.out (by omega)); have BS4 := Aside0.mk (hg.blk BS3.out (by omega)); have BC4 := Aside0.mk (hg.blk BC3.out (by omega)); have hs4 : w1.heap.size < w4.heap.size := blk_lt BC4.out; have c4c0 : w4.cell? ⟨w1.heap.size, 0, none⟩ = some (.string c) := (blk_cell BC4.out 0).trans rfl; have c4c1 : w4.cell? ⟨w1.heap.size, 1, none⟩ = some (.int .i64 kind) := (blk_cell BC4.out 1).trans rfl; have c4c2 : w4.cell? ⟨w1.heap.size, 2, none⟩ = some (.int .i64 0) := (blk_cell BC4.out 2).trans rfl; have c4z0 := blk_frozen BC4.out 0; have c4z1 := blk_frozen BC4.out 1; have c4z2 := blk_frozen BC4.out 2; have HQ4 := Aside0.mk hp; have HG4 := Aside0.mk (HG3.out.trans hg); clear hg ho hp))
          go_cut [] (fun wd => ∃ (how : Int), Aside0 (how = if d = true then 1 else 0) ∧ Aside0 (wd.heap[w1.heap.size]? = some (.cells #[.string c, .int .i64 kind, .int .i64 how] 128 (0, 0))) ∧ Aside0 (wd.heap[w.heap.size]? = some (.cells #[.string ⟨#[]⟩, .int .i64 0, .int .i64 0] 128 (0, 0))) ∧ Aside0 (wd.heap[gs]? = some (.cells (stC n key) 60 (0, 0))) ∧ Aside0 (PS w0 g r3 wd) ∧ Aside0 (Gr g w wd))
          case first =>
            cases d with
            | true =>
              go_wp2
              go_meet
              case rel =>
                exact ⟨1, ⟨rfl⟩, ⟨blk_put BC4.out 2 _ rfl⟩, ⟨blk_setNe BR4.out (by omega) _ _⟩, ⟨blk_setNe BS4.out (by omega) _ _⟩, ⟨PS.setB HQ4.out (by omega) (by omega) _ _⟩, ⟨Gr.setB HG4.out (by omega) _ _⟩⟩
            | false =>
              go_wp2
              go_meet
              case rel =>
                exact ⟨0, ⟨rfl⟩, BC4, BR4, BS4, HQ4, HG4⟩
          case rest =>
            obtain ⟨how, HH, BC5, BR5, BS5, HQ5, HG5⟩ := hcut
            have hm := HM.out
            clear HM
            rw [← HH.out] at hm
            cases hk : Ps.tk Ps.sKey r3 with
            | none =>
              rw [hk] at hm
              have HK := Aside0.mk hk
              have HM := Aside0.mk hm
              clear hk hm
              go_wp2_with (first | (go_at_call 271; refine (take_out HQ5.out Ps.sKey).mono ?_; intro e7 w6 ho; obtain ⟨hg, rfl⟩ := ho.none HK.out; have HGN := Aside0.mk (HG5.out.trans hg); clear hg ho))
              exact ⟨rfl, OutG.of_none HM.out (Gs.of_gr HGN.out (.inl rfl))⟩
            | some p =>
              obtain ⟨b2, r4⟩ := p
              rw [hk] at hm
              have HK := Aside0.mk hk
              clear hk
              cases b2 with
              | false =>
                simp only at hm
                have HM := Aside0.mk hm
                clear hm
                go_wp2_with (first | (go_at_call 271; refine (take_out HQ5.out Ps.sKey).mono ?_; intro e7 w6 ho; obtain ⟨hg, v, rfl, rfl, hp⟩ := ho.some HK.out; have BR6 := Aside0.mk (hg.blk BR5.out (by omega)); have BS6 := Aside0.mk (hg.blk BS5.out (by omega)); have BC6 := Aside0.mk (hg.blk BC5.out (by omega)); have hs6 : w1.heap.size < w6.heap.size := blk_lt BC6.out; have hr6 : w.heap.size < w6.heap.size := blk_lt BR6.out; have c6c0 : w6.cell? ⟨w1.heap.size, 0, none⟩ = some (.string c) := (blk_cell BC6.out 0).trans rfl; have c6c1 : w6.cell? ⟨w1.heap.size, 1, none⟩ = some (.int .i64 kind) := (blk_cell BC6.out 1).trans rfl; have c6c2 : w6.cell? ⟨w1.heap.size, 2, none⟩ = some (.int .i64 how) := (blk_cell BC6.out 2).trans rfl; have c6z0 := blk_frozen BC6.out 0; have c6z1 := blk_frozen BC6.out 1; have c6z2 := blk_frozen BC6.out 2; have r6c0 : w6.cell? ⟨w.heap.size, 0, none⟩ = some (.string ⟨#[]⟩) := (blk_cell BR6.out 0).trans rfl; have r6c1 : w6.cell? ⟨w.heap.size, 1, none⟩ = some (.int .i64 0) := (blk_cell BR6.out 1).trans rfl; have r6c2 : w6.cell? ⟨w.heap.size, 2, none⟩ = some (.int .i64 0) := (blk_cell BR6.out 2).trans rfl; have r6z0 := blk_frozen BR6.out 0; have r6z1 := blk_frozen BR6.out 1; have r6z2 := blk_frozen BR6.out 2; have s6c3 : w6.cell? ⟨gs, 3, none⟩ = some (.string key) := (blk_cell BS6.out 3).trans rfl; have s6z3 := blk_frozen BS6.out 3; have HQ6 := Aside0.mk hp; have HG6 := Aside0.mk (HG5.out.trans hg); clear hg ho hp))
                refine bodyPost_ret (v := .agg #[.string c, .int .i64 kind, .int .i64 how]) ?_ rfl ?_
                · simp [results, Tryz.results263, go_sem, r6c0, r6z0, r6c1, r6z1, r6c2, r6z2, hr6]
                · refine OutG.of_some HM.out (Gs.of_gr ?_ (.inl rfl)) rfl ⟨?_, ?_, ?_, hglow, hne, HI.out.bpg, HI.out.bps⟩
                  · with_reducible (repeat (first | exact HG6.out | refine Gr.setB ?_ (Nat.le_refl _) _ _))
                  · with_reducible (repeat (first | exact HQ6.out | refine PS.setB ?_ (by omega) (by omega) _ _))
                  · with_reducible (repeat (first | exact BS6.out | refine blk_setNe ?_ (by omega) _ _))
                  · with_reducible (repeat (first | exact HG6.out.blk HI.out.box HI.out.bpg | refine blk_setNe ?_ (by omega) _ _))
              | true =>
                simp only at hm
                by_cases ke : key.toList = []
                · rw [if_pos ke] at hm
                  have k0 : (key.toList == []) = true := beq_iff_eq.mpr ke
                  have k1 : (key.toList != []) = false := bne_eq_false_iff_eq.mpr ke
                  have HM := Aside0.mk hm
                  clear hm ke
                  go_wp2_with (first | (go_at_call 271; refine (take_out HQ5.out Ps.sKey).mono ?_; intro e7 w6 ho; obtain ⟨hg, v, rfl, rfl, hp⟩ := ho.some HK.out; have BR6 := Aside0.mk (hg.blk BR5.out (by omega)); have BS6 := Aside0.mk (hg.blk BS5.out (by omega)); have BC6 := Aside0.mk (hg.blk BC5.out (by omega)); have hs6 : w1.heap.size < w6.heap.size := blk_lt BC6.out; have hr6 : w.heap.size < w6.heap.size := blk_lt BR6.out; have c6c0 : w6.cell? ⟨w1.heap.size, 0, none⟩ = some (.string c) := (blk_cell BC6.out 0).trans rfl; have c6c1 : w6.cell? ⟨w1.heap.size, 1, none⟩ = some (.int .i64 kind) := (blk_cell BC6.out 1).trans rfl; have c6c2 : w6.cell? ⟨w1.heap.size, 2, none⟩ = some (.int .i64 how) := (blk_cell BC6.out 2).trans rfl; have c6z0 := blk_frozen BC6.out 0; have c6z1 := blk_frozen BC6.out 1; have c6z2 := blk_frozen BC6.out 2; have r6c0 : w6.cell? ⟨w.heap.size, 0, none⟩ = some (.string ⟨#[]⟩) := (blk_cell BR6.out 0).trans rfl; have r6c1 : w6.cell? ⟨w.heap.size, 1, none⟩ = some (.int .i64 0) := (blk_cell BR6.out 1).trans rfl; have r6c2 : w6.cell? ⟨w.heap.size, 2, none⟩ = some (.int .i64 0) := (blk_cell BR6.out 2).trans rfl; have r6z0 := blk_frozen BR6.out 0; have r6z1 := blk_frozen BR6.out 1; have r6z2 := blk_frozen BR6.out 2; have s6c3 : w6.cell? ⟨gs, 3, none⟩ = some (.string key) := (blk_cell BS6.out 3).trans rfl; have s6z3 := blk_frozen BS6.out 3; have HQ6 := Aside0.mk hp; have HG6 := Aside0.mk (HG5.out.trans hg); clear hg ho hp))
                  refine bodyPost_ret (v := .agg #[.string c, .int .i64 kind, .int .i64 how]) ?_ rfl ?_
                  · simp [results, Tryz.results263, go_sem, r6c0, r6z0, r6c1, r6z1, r6c2, r6z2, hr6, hgs]
                  · refine OutG.of_some HM.out ?_ rfl ⟨?_, ?_, ?_, hglow, hne, HI.out.bpg, HI.out.bps⟩
                    · with_reducible (repeat (first | exact Gs.of_gr HG6.out (.inl rfl) | refine Gs.setB ?_ (Nat.le_refl _) _ _ | refine Gs.setS ?_ (Or.inr rfl) _ _))
                    · with_reducible (repeat (first | exact HQ6.out | refine PS.setB ?_ (by omega) (by omega) _ _))
                    · exact blk_setNe (blk_setNe (blk_setNe (blk_put BS6.out 3 _ rfl) (by omega) _ _) (by omega) _ _) (by omega) _ _
                    · with_reducible (repeat (first | exact HG6.out.blk HI.out.box HI.out.bpg | refine blk_setNe ?_ (by omega) _ _))
                · rw [if_neg ke] at hm
                  have k0 : (key.toList == []) = false := beq_eq_false_iff_ne.mpr ke
                  have k1 : (key.toList != []) = true := bne_iff_ne.mpr ke
                  have HM := Aside0.mk hm
                  clear hm ke
                  go_wp2_with (first | (go_at_call 271; refine (take_out HQ5.out Ps.sKey).mono ?_; intro e7 w6 ho; obtain ⟨hg, v, rfl, rfl, hp⟩ := ho.some HK.out; have BR6 := Aside0.mk (hg.blk BR5.out (by omega)); have BS6 := Aside0.mk (hg.blk BS5.out (by omega)); have BC6 := Aside0.mk (hg.blk BC5.out (by omega)); have hs6 : w1.heap.size < w6.heap.size := blk_lt BC6.out; have hr6 : w.heap.size < w6.heap.size := blk_lt BR6.out; have c6c0 : w6.cell? ⟨w1.heap.size, 0, none⟩ = some (.string c) := (blk_cell BC6.out 0).trans rfl; have c6c1 : w6.cell? ⟨w1.heap.size, 1, none⟩ = some (.int .i64 kind) := (blk_cell BC6.out 1).trans rfl; have c6c2 : w6.cell? ⟨w1.heap.size, 2, none⟩ = some (.int .i64 how) := (blk_cell BC6.out 2).trans rfl; have c6z0 := blk_frozen BC6.out 0; have c6z1 := blk_frozen BC6.out 1; have c6z2 := blk_frozen BC6.out 2; have r6c0 : w6.cell? ⟨w.heap.size, 0, none⟩ = some (.string ⟨#[]⟩) := (blk_cell BR6.out 0).trans rfl; have r6c1 : w6.cell? ⟨w.heap.size, 1, none⟩ = some (.int .i64 0) := (blk_cell BR6.out 1).trans rfl; have r6c2 : w6.cell? ⟨w.heap.size, 2, none⟩ = some (.int .i64 0) := (blk_cell BR6.out 2).trans rfl; have r6z0 := blk_frozen BR6.out 0; have r6z1 := blk_frozen BR6.out 1; have r6z2 := blk_frozen BR6.out 2; have s6c3 : w6.cell? ⟨gs, 3, none⟩ = some (.string key) := (blk_cell BS6.out 3).trans rfl; have s6z3 := blk_frozen BS6.out 3; have HQ6 := Aside0.mk hp; have HG6 := Aside0.mk (HG5.out.trans hg); clear hg ho hp) | (go_at_call 264; refine (fail_calls g _).mono ?_; rintro e8 w8 ⟨rfl, rfl⟩))
                  exact ⟨rfl, OutG.of_none HM.out (Gs.of_gr HG6.out (.inl rfl))⟩

theorem Icol.alloc {w0 w : World} {g gs bp : Nat} {n key : ByteArray} {ts : List S32} (h : Icol w0 g gs bp n key ts w) (o : Obj) : Icol w0 g gs bp n key ts (w.alloc o) := ⟨h.ps.alloc _, blk_alloc h.st _, blk_alloc h.box _, h.low, h.ne, h.bpg, h.bps⟩
theorem Icol.setB {w0 w : World} {g gs bp : Nat} {n key : ByteArray} {ts : List S32} (h : Icol w0 g gs bp n key ts w) {b : Nat} (hb : w0.heap.size ≤ b) (h1 : b ≠ g) (h2 : b ≠ gs) (h3 : b ≠ bp) (j : Nat) (v : Value) : Icol w0 g gs bp n key ts (w.setCell ⟨b, j, none⟩ v) :=
  ⟨h.ps.setB hb h1 j v, blk_setNe h.st (fun e => h2 e.symm) j v, blk_setNe h.box (fun e => h3 e.symm) j v, h.low, h.ne, h.bpg, h.bps⟩
theorem column_len {key : ByteArray} {ts r : List S32} {x : S128} {key' : ByteArray} (h : Ps.column key ts = some ((x, key'), r)) : r.length ≤ ts.length := by
  unfold Ps.column at h
  cases hn : Ps.nm ts with
  | none => rw [hn] at h; cases h
  | some p =>
    obtain ⟨c, r1⟩ := p
    have h1 := Ps.nm_len hn
    rw [hn] at h
    simp only at h
    have hB : ∀ kind r2, Ps.colB key c kind r2 = some ((x, key'), r) → r.length ≤ r2.length := by
      intro kind r2 h
      unfold Ps.colB at h
      cases hd : Ps.tk Ps.sDet r2 with
      | none => rw [hd] at h; cases h
      | some p =>
        obtain ⟨d, r3⟩ := p
        have h2 := (Ps.tk_len hd).1
        rw [hd] at h
        simp only at h
        cases hk : Ps.tk Ps.sKey r3 with
        | none => rw [hk] at h; cases h
        | some p =>
          obtain ⟨b, r4⟩ := p
          have h3 := (Ps.tk_len hk).1
          rw [hk] at h
          cases b with
          | false => cases h; omega
          | true =>
            simp only at h
            split at h
            · cases h; omega
            · cases h
    cases ht : Ps.tk Ps.sText r1 with
    | none => rw [ht] at h; cases h
    | some p =>
      obtain ⟨b, r2⟩ := p
      have h2 := (Ps.tk_len ht).1
      rw [ht] at h
      cases b with
      | true => have := hB _ _ h; omega
      | false =>
        simp only at h
        cases hu : Ps.ms [Ps.sInt] r2 with
        | none => rw [hu] at h; cases h
        | some r3 =>
          rw [hu] at h
          have h3 := Ps.ms_len hu
          have := hB _ _ h
          omega

set_option maxHeartbeats 1000000 in
set_option maxRecDepth 100000 in
/-- The closure that stmt hands to list. -/
theorem column_clo {w0 w : World} {g gs bp : Nat} {n key : ByteArray} {ts : List S32} (h : Icol w0 g gs bp n key ts w) : Calls Tryz.prog 262 #[.pointer (some ⟨bp, 0, none⟩), .pointer (some ⟨gs, 0, none⟩)] w (OutG (fun q => q = g ∨ q = gs) (Icol w0 g gs bp n) (Vcol w.heap.size) w (Ps.column key ts)) := by
  have HI := Aside0.mk h
  have hlt := h.ps.lt
  have hlow := h.ps.low
  have hgs : gs < w.heap.size := blk_lt h.st
  have hbp : bp < w.heap.size := blk_lt h.box
  have hb := (blk_cell h.box 0 : w.cell? ⟨bp, 0, none⟩ = some (.pointer (some ⟨g, 0, none⟩)))
  clear h
  cases hx : Ps.column key ts with
  | none =>
    have HX := Aside0.mk hx
    clear hx
    go_enter Tryz.func262, Tryz.ntmps262
    go_wp2_with (first | (go_at_call 263; refine (column_out (HI.out.alloc _)).mono ?_; intro e9 w2 ho; obtain ⟨hg, rfl⟩ := ho.none HX.out; have HG2 := Aside0.mk (((Gs.refl (fun q => q = g ∨ q = gs) w).alloc _).trans hg); clear hg ho))
    exact ⟨rfl, OutG.of_none rfl HG2.out⟩
  | some p =>
    obtain ⟨⟨x, key'⟩, r⟩ := p
    have HX := Aside0.mk hx
    clear hx
    go_enter Tryz.func262, Tryz.ntmps262
    go_wp2_with (first | (go_at_call 263; refine (column_out (HI.out.alloc _)).mono ?_; intro e9 w2 ho; obtain ⟨hg, v, rfl, hv, hi⟩ := ho.some HX.out; obtain rfl := hv; have BR2 := Aside0.mk (hg.blk (new_blk (W := w) _ rfl) (by omega)); have hs2 : w.heap.size < w2.heap.size := blk_lt BR2.out; have r2c0 : w2.cell? ⟨w.heap.size, 0, none⟩ = some (.string ⟨#[]⟩) := (blk_cell BR2.out 0).trans rfl; have r2c1 : w2.cell? ⟨w.heap.size, 1, none⟩ = some (.int .i64 0) := (blk_cell BR2.out 1).trans rfl; have r2c2 : w2.cell? ⟨w.heap.size, 2, none⟩ = some (.int .i64 0) := (blk_cell BR2.out 2).trans rfl; have r2z0 := blk_frozen BR2.out 0; have r2z1 := blk_frozen BR2.out 1; have r2z2 := blk_frozen BR2.out 2; have HI2 := Aside0.mk hi; have HG2 := Aside0.mk (((Gs.refl (fun q => q = g ∨ q = gs) w).alloc _).trans hg); clear hg ho hi))
    refine bodyPost_ret (v := .agg #[.string x.f0, .int .i64 x.f1, .int .i64 x.f2]) ?_ rfl ?_
    · simp [results, Tryz.results262, go_sem, r2c0, r2z0, r2c1, r2z1, r2c2, r2z2, hs2]
    · refine OutG.of_some rfl ?_ rfl ?_
      · with_reducible (repeat (first | exact HG2.out | refine Gs.setB ?_ (Nat.le_refl _) _ _))
      · with_reducible (repeat (first | exact HI2.out | refine Icol.setB ?_ (by omega) (by omega) (by omega) (by omega) _ _))

end Go.Proofs.YtcgdncpioafbdaaGreatDoor.Q

/- The parser: a list (C). -/
import Derived.Test.YtcgdncpioafbdaaGreatDoorPg
namespace Go.Proofs.YtcgdncpioafbdaaGreatDoor.Q
open Go Go.RowKit Go.Proofs.YtcgdncpioafbdaaGreatDoorW.PrintWords Go.Proofs.YtcgdncpioafbdaaGreatDoorW.PrintMore
def Vcol (B : Nat) : World → S128 → Value → Prop := fun _ x v => v = .agg #[.string x.f0, .int .i64 x.f1, .int .i64 x.f2]
theorem FK128 (w : World) (ok : Nat → Prop) (x : S128) : Kd.FK k128 w ok x [.string x.f0, .int .i64 x.f1, .int .i64 x.f2] := k128_mkF w ok x

set_option maxHeartbeats 2000000 in
set_option maxRecDepth 100000 in
theorem C_list {σ : Type} {w0 w : World} {g : Nat} {S : Nat → Prop} {I : σ → List S32 → World → Prop} {gs bp : Nat} (A : Along S I w0 g w.heap.size) (one : σ → List S32 → Option ((S128 × σ) × List S32)) (n k : Nat) (hn : n ≤ 4001)
    (hone : ∀ st ts (w' : World), I st ts w' → ts.length ≤ n → Calls Tryz.prog 262 #[.pointer (some ⟨bp, 0, none⟩), .pointer (some ⟨gs, 0, none⟩)] w' (OutG S I (Vcol w'.heap.size) w' (one st ts)))
    (hlen : ∀ st ts x st' r, one st ts = some ((x, st'), r) → r.length ≤ ts.length) (st : σ) (ts : List S32) (h : I st ts w) (hts : ts.length ≤ n) (hk : ts.length < k) :
    Calls Tryz.prog 261 #[.pointer (some ⟨g, 0, none⟩), .func (.func 262) #[] #[.pointer (some ⟨bp, 0, none⟩), .pointer (some ⟨gs, 0, none⟩)]] w (OutG S I (Vrow k128 w.heap.size) w (Ps.list one k st ts)) := by
  have HI := Aside0.mk h
  have HONE := Aside0.mk hone
  have HNN := Aside0.mk hn
  clear h hone hn
  cases hx : one st ts with
  | none =>
    have HX := Aside0.mk hx
    have HM := Aside0.mk (show Ps.list one k st ts = none by simp only [Ps.list, hx])
    clear hx
    go_enter Tryz.func261, Tryz.ntmps261
    go_wp2_with (first | (go_at_call 262; refine (HONE.out _ _ _ HI.out (by omega)).mono ?_; intro e9 w2 ho; obtain ⟨hg, rfl⟩ := ho.none HX.out; have HG9 := Aside0.mk ((Gs.refl S w).trans hg); clear hg ho))
    exact ⟨rfl, OutG.of_none HM.out HG9.out⟩
  | some p =>
    obtain ⟨⟨x, st1⟩, r0⟩ := p
    have HX := Aside0.mk hx
    have HM := Aside0.mk (show Ps.list one k st ts = Ps.lst one k [x] st1 r0 by simp only [Ps.list, hx])
    have hl0 := hlen _ _ _ _ _ hx
    clear hx
    go_enter Tryz.func261, Tryz.ntmps261
    go_wp2_with (first | (go_at_call 262; refine (HONE.out _ _ _ HI.out (by omega)).mono ?_; intro e9 w2 ho; obtain ⟨hg, v, rfl, hv, hi⟩ := ho.some HX.out; have hs2 := hg.size; obtain rfl := hv; have hfx := FK128 w2 (fun q => w.heap.size ≤ q) x; have HI2 := Aside0.mk hi; have HG2 := Aside0.mk ((Gs.refl S w).trans hg); have HX2 := Aside0.mk hfx; clear hg ho hi hfx) | ((with_reducible refine gate_dst (N := 8) rfl ?_); refine Kd.N_lit k128 (w0 := w2) w2.heap.size 128 ?hg (N' := 8) ?hd (xs := [x]) (inner := [.string x.f0, .int .i64 x.f1, .int .i64 x.f2]) (ok := fun q => w.heap.size ≤ q) (okp := fun q => w.heap.size ≤ q) ?hr ?hp (fun _ hk => hk) (by omega) (Below.refl _ _) (Nat.le_refl _) (by simp) ?_; (case hd => rfl); (case hg => rfl); (case hr => first | (go_simp; done) | (go_simp; rfl)); (case hp => exact Reps1 HX2.out (k128.K_len (Kd.FK_now HX2.out))); intro v5 w4 ho hb hg hat; have hs4 := hb.size; have HO4 := Aside0.mk (Kd.N_lower ho (show w.heap.size ≤ w2.heap.size by omega)); have HI4 := Aside0.mk (A.keep _ _ _ _ HI2.out (hb.mono (by omega))); have HG4 := Aside0.mk (HG2.out.step hb); clear ho hb hg hat))
    go_loopg [5] k (fun kq v5 w' => ∃ (acc : List S128) (sq : σ) (tq : List S32), Aside0 (Ps.lst one kq acc sq tq = Ps.list one k st ts) ∧ Aside0 (tq.length < kq) ∧ Aside0 (acc.length + tq.length ≤ n + 1) ∧ Aside0 (Kd.N k128 128 w' w.heap.size (fun q => w.heap.size ≤ q) v5 acc) ∧ Aside0 (I sq tq w') ∧ Aside0 (Gs S w w'))
    case atStart => exact ⟨[x], st1, r0, ⟨HM.out.symm⟩, ⟨by omega⟩, ⟨by simp; omega⟩, HO4, HI4, HG4⟩
    case round =>
      clear HM HX HO4 HI4 HG4 HI HX2 HI2 HG2
      obtain ⟨acc, sq, tq, HM, HL, HB, HO, HI, HG⟩ := hrel
      have hsr := HG.out.size
      cases gk with
      | zero => exact absurd HL.out (by omega)
      | succ j =>
        cases ht : Ps.tk Ps.sComma tq with
        | none =>
          have HT := Aside0.mk ht
          clear ht
          go_wp2_with (first | (go_at_call 271; refine (take_out (A.ps _ _ _ HI.out) Ps.sComma).mono ?_; intro e w3 ho; obtain ⟨hg, rfl⟩ := ho.none HT.out; have HG3 := Aside0.mk (HG.out.trans (Gs.of_gr hg A.at_)); clear hg ho))
          exact ⟨rfl, OutG.of_none (by rw [← HM.out, lst_none HT.out]) HG3.out⟩
        | some p =>
          obtain ⟨b, r1⟩ := p
          have HT := Aside0.mk ht
          have htl := Ps.tk_len ht
          clear ht
          cases b with
          | false =>
            go_wp2_with (first | (go_at_call 271; refine (take_out (A.ps _ _ _ HI.out) Ps.sComma).mono ?_; intro e w3 ho; obtain ⟨hg, v, rfl, rfl, hp⟩ := ho.some HT.out; have hs3 := hg.size; have HI3 := Aside0.mk (A.go _ _ _ _ _ HI.out hg hp); have HG3 := Aside0.mk (HG.out.trans (Gs.of_gr hg A.at_)); have HO3 := Aside0.mk (Gs.N (Gs.of_gr hg A.at_) HO.out (fun q hq hs => by have := A.low q hs; omega)); clear hg ho hp))
            go_ret
            obtain ⟨A5, c5, rfl⟩ := Kd.N_slice HO3.out
            have hr5 := (Kd.N_reads' HO3.out)
            exact OutG.of_some (by rw [← HM.out, lst_false HT.out]) HG3.out ⟨A5, c5, rfl, hr5.2.1, Kd.N_F HO3.out⟩ HI3.out
          | true =>
            have hl1 := htl.2.1 rfl
            cases hx : one sq r1 with
            | none =>
              have HX := Aside0.mk hx
              clear hx
              go_wp2_with (first | (go_at_call 271; refine (take_out (A.ps _ _ _ HI.out) Ps.sComma).mono ?_; intro e w3 ho; obtain ⟨hg, v, rfl, rfl, hp⟩ := ho.some HT.out; have hs3 := hg.size; have HI3 := Aside0.mk (A.go _ _ _ _ _ HI.out hg hp); have HG3 := Aside0.mk (HG.out.trans (Gs.of_gr hg A.at_)); have HO3 := Aside0.mk (Gs.N (Gs.of_gr hg A.at_) HO.out (fun q hq hs => by have := A.low q hs; omega)); clear hg ho hp) | (go_at_call 262; refine (HONE.out _ _ _ HI3.out (by have := HL.out; have := HB.out; omega)).mono ?_; intro e9 w5 ho; obtain ⟨hg, rfl⟩ := ho.none HX.out; have HG9 := Aside0.mk (HG3.out.trans hg); clear hg ho))
              exact ⟨rfl, OutG.of_none (by rw [← HM.out, lst_true_none HT.out HX.out]) HG9.out⟩
            | some p =>
              obtain ⟨⟨y, s2⟩, r2⟩ := p
              have HX := Aside0.mk hx
              have hl2 := hlen _ _ _ _ _ hx
              clear hx
              go_wp2_with (first | (go_at_call 271; refine (take_out (A.ps _ _ _ HI.out) Ps.sComma).mono ?_; intro e w3 ho; obtain ⟨hg, v, rfl, rfl, hp⟩ := ho.some HT.out; have hs3 := hg.size; have HI3 := Aside0.mk (A.go _ _ _ _ _ HI.out hg hp); have HG3 := Aside0.mk (HG.out.trans (Gs.of_gr hg A.at_)); have HO3 := Aside0.mk (Gs.N (Gs.of_gr hg A.at_) HO.out (fun q hq hs => by have := A.low q hs; omega)); clear hg ho hp) | (go_at_call 262; refine (HONE.out _ _ _ HI3.out (by have := HL.out; have := HB.out; omega)).mono ?_; intro e9 w5 ho; obtain ⟨hg, v, rfl, hv, hi⟩ := ho.some HX.out; have hs5 := hg.size; obtain rfl := hv; have hfx := FK128 w5 (fun q => w3.heap.size ≤ q) y; have HI5 := Aside0.mk hi; have HG5 := Aside0.mk (HG3.out.trans hg); have HX5 := Aside0.mk hfx; have HO5 := Aside0.mk (Gs.N hg HO3.out (fun q hq hs => by have := A.low q hs; omega)); clear hg ho hi hfx) | ((with_reducible refine gate_builtin (b := .append) (xs := #[.tmp 11, .tmp 14]) rfl ?_); at_builtin; refine Kd.N_append k128 (w0 := w5) w.heap.size rfl (.tmp 11) (.tmp 14) 56 128 ((.agg #[(.string ⟨#[]⟩), (.int .i64 0), (.int .i64 0)])) 32 rfl Tryz.underlying56 info128 rfl (by decide) (by omega) u5 acc y [.string y.f0, .int .i64 y.f1, .int .i64 y.f2] (fun q => w.heap.size ≤ q) (fun q => w3.heap.size ≤ q) rfl rfl HX5.out ?aP (fun q hq => by omega) HO5.out ((Below.refl w5.heap.size w5).mono (by omega)) (by omega) ?aL ?_; (case aP => exact fun q hq => ⟨by omega, fun he => by have := Kd.N_lt HO3.out q he.symm; omega⟩); (case aL => have := HB.out; have := HNN.out; omega); intro v6 w6 ho hb hg hat; have HO6 := Aside0.mk ho; have HI6 := Aside0.mk (A.keep _ _ _ _ HI5.out hb); have HG6 := Aside0.mk (HG5.out.stepB hb (Nat.le_refl _)); clear ho hb hg hat))
              go_roundg j
              case measure => have := HL.out; omega
              case rel =>
                exact ⟨acc ++ [y], s2, r2, ⟨by rw [← HM.out, lst_true_some HT.out HX.out]⟩, ⟨by have := HL.out; omega⟩, ⟨by have := HB.out; simp; omega⟩, HO6, HI6, HG6⟩
end Go.Proofs.YtcgdncpioafbdaaGreatDoor.Q

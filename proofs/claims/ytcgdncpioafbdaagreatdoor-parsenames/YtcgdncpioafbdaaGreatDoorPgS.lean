/- The parser: a list (S). -/
import Derived.Test.YtcgdncpioafbdaaGreatDoorPg
namespace Go.Proofs.YtcgdncpioafbdaaGreatDoor.Q
open Go Go.RowKit Go.Proofs.YtcgdncpioafbdaaGreatDoorW.PrintWords Go.Proofs.YtcgdncpioafbdaaGreatDoorW.PrintMore
theorem info90 : (Tryz.prog.info? 90).map (fun i => (i.zero, i.size, i.bytes)) = some (some (.agg #[(.string ⟨#[]⟩), (.string ⟨#[]⟩), (.int .i64 0), (.int .i64 0), (.string ⟨#[]⟩), (.string ⟨#[]⟩), (.slice none 0 0)]), 7, 104) := by kernel_rfl
def cells90 (x : S90) (A : Option Addr) (c : Nat) : List Value := [.string x.f0, .string x.f1.f0, .int .i64 x.f1.f1.f0, .int .i64 x.f1.f1.f1, .string x.f1.f1.f2, .string x.f1.f2, .slice A x.f1.f3.length c]
def Vset (B : Nat) : World → S90 → Value → Prop := fun w x v => ∃ A c, v = .agg (cells90 x A c).toArray ∧ x.f1.f3.length ≤ c ∧ Kd.F k43 w (fun k => B ≤ k) A x.f1.f3.length x.f1.f3
theorem FK90 {w : World} {ok : Nat → Prop} {x : S90} {A : Option Addr} {c : Nat} (h : x.f1.f3.length ≤ c) (hF : Kd.F k43 w ok A x.f1.f3.length x.f1.f3) : Kd.FK k90 w ok x (cells90 x A c) := k90_mkF w ok x h hF

set_option maxHeartbeats 2000000 in
set_option maxRecDepth 100000 in
theorem S_list {σ : Type} {w0 w : World} {g : Nat} {S : Nat → Prop} {I : σ → List S32 → World → Prop}  (A : Along S I w0 g w.heap.size) (one : σ → List S32 → Option ((S90 × σ) × List S32)) (n k : Nat) (hn : n ≤ 4001)
    (hone : ∀ st ts (w' : World), I st ts w' → ts.length ≤ n → Calls Tryz.prog 269 #[.pointer (some ⟨g, 0, none⟩)] w' (OutG S I (Vset w'.heap.size) w' (one st ts)))
    (hlen : ∀ st ts x st' r, one st ts = some ((x, st'), r) → r.length ≤ ts.length) (st : σ) (ts : List S32) (h : I st ts w) (hts : ts.length ≤ n) (hk : ts.length < k) :
    Calls Tryz.prog 268 #[.pointer (some ⟨g, 0, none⟩), .func (.func 269) #[.pointer (some ⟨g, 0, none⟩)] #[]] w (OutG S I (Vrow k90 w.heap.size) w (Ps.list one k st ts)) := by
  have HI := Aside0.mk h
  have HONE := Aside0.mk hone
  have HNN := Aside0.mk hn
  clear h hone hn
  cases hx : one st ts with
  | none =>
    have HX := Aside0.mk hx
    have HM := Aside0.mk (show Ps.list one k st ts = none by simp only [Ps.list, hx])
    clear hx
    go_enter Tryz.func268, Tryz.ntmps268
    go_wp2_with (first | (go_at_call 269; refine (HONE.out _ _ _ HI.out (by omega)).mono ?_; intro e9 w2 ho; obtain ⟨hg, rfl⟩ := ho.none HX.out; have HG9 := Aside0.mk ((Gs.refl S w).trans hg); clear hg ho))
    exact ⟨rfl, OutG.of_none HM.out HG9.out⟩
  | some p =>
    obtain ⟨⟨x, st1⟩, r0⟩ := p
    have HX := Aside0.mk hx
    have HM := Aside0.mk (show Ps.list one k st ts = Ps.lst one k [x] st1 r0 by simp only [Ps.list, hx])
    have hl0 := hlen _ _ _ _ _ hx
    clear hx
    go_enter Tryz.func268, Tryz.ntmps268
    go_wp2_with (first | (go_at_call 269; refine (HONE.out _ _ _ HI.out (by omega)).mono ?_; intro e9 w2 ho; obtain ⟨hg, v, rfl, hv, hi⟩ := ho.some HX.out; have hs2 := hg.size; obtain ⟨Ax, nx, rfl, hnx, hf0⟩ := hv; have hfx := FK90 hnx hf0; clear hnx hf0; unfold cells90; have HI2 := Aside0.mk hi; have HG2 := Aside0.mk ((Gs.refl S w).trans hg); have HX2 := Aside0.mk hfx; clear hg ho hi hfx) | ((with_reducible refine gate_dst (N := 8) rfl ?_); refine Kd.N_lit k90 (w0 := w2) w2.heap.size 90 ?hg (N' := 8) ?hd (xs := [x]) (inner := (cells90 x Ax nx)) (ok := fun q => w.heap.size ≤ q) (okp := fun q => w.heap.size ≤ q) ?hr ?hp (fun _ hk => hk) (by omega) (Below.refl _ _) (Nat.le_refl _) (by simp) ?_; (case hd => rfl); (case hg => rfl); (case hr => first | (go_simp; done) | (go_simp; rfl)); (case hp => exact Reps1 HX2.out (k90.K_len (Kd.FK_now HX2.out))); intro v5 w4 ho hb hg hat; have hs4 := hb.size; have HO4 := Aside0.mk (Kd.N_lower ho (show w.heap.size ≤ w2.heap.size by omega)); have HI4 := Aside0.mk (A.keep _ _ _ _ HI2.out (hb.mono (by omega))); have HG4 := Aside0.mk (HG2.out.step hb); clear ho hb hg hat))
    go_loopg [5] k (fun kq v5 w' => ∃ (acc : List S90) (sq : σ) (tq : List S32), Aside0 (Ps.lst one kq acc sq tq = Ps.list one k st ts) ∧ Aside0 (tq.length < kq) ∧ Aside0 (acc.length + tq.length ≤ n + 1) ∧ Aside0 (Kd.N k90 90 w' w.heap.size (fun q => w.heap.size ≤ q) v5 acc) ∧ Aside0 (I sq tq w') ∧ Aside0 (Gs S w w'))
    case atStart => exact ⟨[x], st1, r0, ⟨HM.out.symm⟩, ⟨by omega⟩, ⟨by simp; omega⟩, HO4, HI4, HG4⟩
    case round =>
      clear HM HX HO4 HI4 HG4 HI HX2 HI2 HG2
      obtain ⟨acc, sq, tq, HM, HL, HB, HO, HI, HG⟩ := hrel
      have hsr := HG.out.size
      cases gk with
      | zero => exact absurd HL.out (by omega)
      | succ j =>
        cases ht : Ps.tk Ps.sComma tq with
        | none =>
          have HT := Aside0.mk ht
          clear ht
          go_wp2_with (first | (go_at_call 271; refine (take_out (A.ps _ _ _ HI.out) Ps.sComma).mono ?_; intro e w3 ho; obtain ⟨hg, rfl⟩ := ho.none HT.out; have HG3 := Aside0.mk (HG.out.trans (Gs.of_gr hg A.at_)); clear hg ho))
          exact ⟨rfl, OutG.of_none (by rw [← HM.out, lst_none HT.out]) HG3.out⟩
        | some p =>
          obtain ⟨b, r1⟩ := p
          have HT := Aside0.mk ht
          have htl := Ps.tk_len ht
          clear ht
          cases b with
          | false =>
            go_wp2_with (first | (go_at_call 271; refine (take_out (A.ps _ _ _ HI.out) Ps.sComma).mono ?_; intro e w3 ho; obtain ⟨hg, v, rfl, rfl, hp⟩ := ho.some HT.out; have hs3 := hg.size; have HI3 := Aside0.mk (A.go _ _ _ _ _ HI.out hg hp); have HG3 := Aside0.mk (HG.out.trans (Gs.of_gr hg A.at_)); have HO3 := Aside0.mk (Gs.N (Gs.of_gr hg A.at_) HO.out (fun q hq hs => by have := A.low q hs; omega)); clear hg ho hp))
            go_ret
            obtain ⟨A5, c5, rfl⟩ := Kd.N_slice HO3.out
            have hr5 := (Kd.N_reads' HO3.out)
            exact OutG.of_some (by rw [← HM.out, lst_false HT.out]) HG3.out ⟨A5, c5, rfl, hr5.2.1, Kd.N_F HO3.out⟩ HI3.out
          | true =>
            have hl1 := htl.2.1 rfl
            cases hx : one sq r1 with
            | none =>
              have HX := Aside0.mk hx
              clear hx
              go_wp2_with (first | (go_at_call 271; refine (take_out (A.ps _ _ _ HI.out) Ps.sComma).mono ?_; intro e w3 ho; obtain ⟨hg, v, rfl, rfl, hp⟩ := ho.some HT.out; have hs3 := hg.size; have HI3 := Aside0.mk (A.go _ _ _ _ _ HI.out hg hp); have HG3 := Aside0.mk (HG.out.trans (Gs.of_gr hg A.at_)); have HO3 := Aside0.mk (Gs.N (Gs.of_gr hg A.at_) HO.out (fun q hq hs => by have := A.low q hs; omega)); clear hg ho hp) | (go_at_call 269; refine (HONE.out _ _ _ HI3.out (by have := HL.out; have := HB.out; omega)).mono ?_; intro e9 w5 ho; obtain ⟨hg, rfl⟩ := ho.none HX.out; have HG9 := Aside0.mk (HG3.out.trans hg); clear hg ho))
              exact ⟨rfl, OutG.of_none (by rw [← HM.out, lst_true_none HT.out HX.out]) HG9.out⟩
            | some p =>
              obtain ⟨⟨y, s2⟩, r2⟩ := p
              have HX := Aside0.mk hx
              have hl2 := hlen _ _ _ _ _ hx
              clear hx
              go_wp2_with (first | (go_at_call 271; refine (take_out (A.ps _ _ _ HI.out) Ps.sComma).mono ?_; intro e w3 ho; obtain ⟨hg, v, rfl, rfl, hp⟩ := ho.some HT.out; have hs3 := hg.size; have HI3 := Aside0.mk (A.go _ _ _ _ _ HI.out hg hp); have HG3 := Aside0.mk (HG.out.trans (Gs.of_gr hg A.at_)); have HO3 := Aside0.mk (Gs.N (Gs.of_gr hg A.at_) HO.out (fun q hq hs => by have := A.low q hs; omega)); clear hg ho hp) | (go_at_call 269; refine (HONE.out _ _ _ HI3.out (by have := HL.out; have := HB.out; omega)).mono ?_; intro e9 w5 ho; obtain ⟨hg, v, rfl, hv, hi⟩ := ho.some HX.out; have hs5 := hg.size; obtain ⟨Ax, nx, rfl, hnx, hf0⟩ := hv; have hfx := FK90 hnx hf0; clear hnx hf0; unfold cells90; have HI5 := Aside0.mk hi; have HG5 := Aside0.mk (HG3.out.trans hg); have HX5 := Aside0.mk hfx; have HO5 := Aside0.mk (Gs.N hg HO3.out (fun q hq hs => by have := A.low q hs; omega)); clear hg ho hi hfx) | ((with_reducible refine gate_builtin (b := .append) (xs := #[.tmp 11, .tmp 14]) rfl ?_); at_builtin; refine Kd.N_append k90 (w0 := w5) w.heap.size rfl (.tmp 11) (.tmp 14) 58 90 ((.agg #[(.string ⟨#[]⟩), (.string ⟨#[]⟩), (.int .i64 0), (.int .i64 0), (.string ⟨#[]⟩), (.string ⟨#[]⟩), (.slice none 0 0)])) 104 rfl Tryz.underlying58 info90 rfl (by decide) (by omega) u5 acc y (cells90 y Ax nx) (fun q => w.heap.size ≤ q) (fun q => w3.heap.size ≤ q) rfl rfl HX5.out ?aP (fun q hq => by omega) HO5.out ((Below.refl w5.heap.size w5).mono (by omega)) (by omega) ?aL ?_; (case aP => exact fun q hq => ⟨by omega, fun he => by have := Kd.N_lt HO3.out q he.symm; omega⟩); (case aL => have := HB.out; have := HNN.out; omega); intro v6 w6 ho hb hg hat; have HO6 := Aside0.mk ho; have HI6 := Aside0.mk (A.keep _ _ _ _ HI5.out hb); have HG6 := Aside0.mk (HG5.out.stepB hb (Nat.le_refl _)); clear ho hb hg hat))
              go_roundg j
              case measure => have := HL.out; omega
              case rel =>
                exact ⟨acc ++ [y], s2, r2, ⟨by rw [← HM.out, lst_true_some HT.out HX.out]⟩, ⟨by have := HL.out; omega⟩, ⟨by have := HB.out; simp; omega⟩, HO6, HI6, HG6⟩
end Go.Proofs.YtcgdncpioafbdaaGreatDoor.Q

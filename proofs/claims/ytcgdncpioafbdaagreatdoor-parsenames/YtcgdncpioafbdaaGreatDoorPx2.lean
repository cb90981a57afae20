/- The parser: Parse. -/
import Derived.Test.YtcgdncpioafbdaaGreatDoorPv
import Derived.Test.YtcgdncpioafbdaaGreatDoorTok
namespace Go.Proofs.YtcgdncpioafbdaaGreatDoor.Q
open Go Go.RowKit Go.Proofs.YtcgdncpioafbdaaGreatDoorW.PrintWords

/-- The rounds that are enough. -/
def KP : Nat := 8100
/-- What Parse answers. -/
def parseA (ts : List S32) : S60 × Int := match Ps.read KP ts with
  | none => (z60, 20)
  | some x => if longB x then (z60, 28) else if twiceB x then (z60, 21) else (x, 0)
def parseP (p : List S32 × Int) : S60 × Int := if p.2 = 0 then parseA p.1 else (z60, p.2)
/-- Tokens as the lexer gives them. -/
structure Toks (ts : List S32) : Prop where
  ends : Ends ts
  len : ts.length ≤ 4001
  short : TK 100000 ts

theorem StF.below {ok : Nat → Prop} {x : S60} {A2 A4 A5 A6 A7 : Option Addr} {c2 c4 c5 c6 c7 : Nat} {wc wd : World} (hF : StF ok wc x A2 c2 A4 c4 A5 c5 A6 c6 A7 c7) (hb : Below wc.heap.size wc wd) : StF ok wd x A2 c2 A4 c4 A5 c5 A6 c6 A7 c7 :=
  ⟨hF.l2, Kd.F_below hF.f2 hb, hF.l4, Kd.F_below hF.f4 hb, hF.l5, Kd.F_below hF.f5 hb, hF.l6, Kd.F_below hF.f6 hb, hF.l7, Kd.F_below hF.f7 hb⟩
abbrev fillR (W : World) (rb : Nat) (v0 v1 v2 v3 v4 v5 v6 v7 v8 v9 v10 : Value) : World := (((((((((((W.setCell ⟨rb, 0, none⟩ v0).setCell ⟨rb, 1, none⟩ v1).setCell ⟨rb, 2, none⟩ v2).setCell ⟨rb, 3, none⟩ v3).setCell ⟨rb, 4, none⟩ v4).setCell ⟨rb, 5, none⟩ v5).setCell ⟨rb, 6, none⟩ v6).setCell ⟨rb, 7, none⟩ v7).setCell ⟨rb, 8, none⟩ v8).setCell ⟨rb, 9, none⟩ v9).setCell ⟨rb, 10, none⟩ v10)
theorem fillR_s {W : World} {rb : Nat} (hs : W.heap[rb]? = some (.cells (celA z60 {}) 60 (0, 0))) (v0 v1 v2 v3 v4 v5 v6 v7 v8 v9 v10 : Value) : (fillR W rb v0 v1 v2 v3 v4 v5 v6 v7 v8 v9 v10).heap[rb]? = some (.cells #[v0, v1, v2, v3, v4, v5, v6, v7, v8, v9, v10] 60 (0, 0)) :=
  blk_put11 (a0 := .int .i64 0) (a1 := .string ⟨#[]⟩) (a2 := .slice none 0 0) (a3 := .string ⟨#[]⟩) (a4 := .slice none 0 0) (a5 := .slice none 0 0) (a6 := .slice none 0 0) (a7 := .slice none 0 0) (a8 := .string ⟨#[]⟩) (a9 := .bool false) (a10 := .int .i64 0) hs
theorem fillR_b {w W : World} {B rb : Nat} (h : Below B w W) (hs : B ≤ rb) (v0 v1 v2 v3 v4 v5 v6 v7 v8 v9 v10 : Value) : Below B w (fillR W rb v0 v1 v2 v3 v4 v5 v6 v7 v8 v9 v10) := by
  unfold fillR
  with_reducible (repeat (first | exact h | refine Below.setCell (p := ⟨rb, _, none⟩) ?_ hs _))
theorem fillR_f {W : World} {B rb : Nat} {x : S60} {a : Ads} (h : StA (fun q => B ≤ q) W x a) (hs : rb < B) (v0 v1 v2 v3 v4 v5 v6 v7 v8 v9 v10 : Value) : StA (fun q => B ≤ q) (fillR W rb v0 v1 v2 v3 v4 v5 v6 v7 v8 v9 v10) x a := by
  unfold fillR
  have h1 : ∀ q, B ≤ q → q ≠ rb := fun q hq => by omega
  with_reducible (repeat (first | exact h | refine StF.far ?_ h1 _ _))
set_option maxRecDepth 100000 in
theorem res46 {W : World} {rb : Nat} {x : S60} {a : Ads} {v : Value} {tmps : Array Value} (hs : W.heap[rb]? = some (.cells (celA x a) 60 (0, 0))) (h2 : tmps[2]?.getD undef = .pointer (some ⟨rb, 0, none⟩)) (h3 : tmps[3]?.getD undef = v) : (results Tryz.f46 tmps).run Tryz.prog W = .ok (.tuple #[.agg (celA x a), v]) W := by
  have HS := Aside0.mk hs
  have hsl := blk_lt hs
  have rc0 : W.cell? ⟨rb, 0, none⟩ = some (.int .i64 x.f0) := (blk_cell HS.out 0).trans rfl
  have rc1 : W.cell? ⟨rb, 1, none⟩ = some (.string x.f1) := (blk_cell HS.out 1).trans rfl
  have rc2 : W.cell? ⟨rb, 2, none⟩ = some (.slice a.a2 x.f2.length a.c2) := (blk_cell HS.out 2).trans rfl
  have rc3 : W.cell? ⟨rb, 3, none⟩ = some (.string x.f3) := (blk_cell HS.out 3).trans rfl
  have rc4 : W.cell? ⟨rb, 4, none⟩ = some (.slice a.a4 x.f4.length a.c4) := (blk_cell HS.out 4).trans rfl
  have rc5 : W.cell? ⟨rb, 5, none⟩ = some (.slice a.a5 x.f5.length a.c5) := (blk_cell HS.out 5).trans rfl
  have rc6 : W.cell? ⟨rb, 6, none⟩ = some (.slice a.a6 x.f6.length a.c6) := (blk_cell HS.out 6).trans rfl
  have rc7 : W.cell? ⟨rb, 7, none⟩ = some (.slice a.a7 x.f7.length a.c7) := (blk_cell HS.out 7).trans rfl
  have rc8 : W.cell? ⟨rb, 8, none⟩ = some (.string x.f8) := (blk_cell HS.out 8).trans rfl
  have rc9 : W.cell? ⟨rb, 9, none⟩ = some (.bool x.f9) := (blk_cell HS.out 9).trans rfl
  have rc10 : W.cell? ⟨rb, 10, none⟩ = some (.int .i64 x.f10) := (blk_cell HS.out 10).trans rfl
  clear hs
  simp [results, Tryz.results46, go_sem, h2, h3, celA, cells60, rc0, rc1, rc2, rc3, rc4, rc5, rc6, rc7, rc8, rc9, rc10, hsl]

set_option maxHeartbeats 4000000 in
set_option maxRecDepth 100000 in
theorem parse_out {w : World} {s : ByteArray} {ts : List S32} {c : Int} (hG : GV w) (h : lex_Tokens.f s = some (ts, c)) (ht : c = 0 → Toks ts) : Calls Tryz.prog 46 #[.string s] w fun e w' => ∃ v, e = .returned (.tuple #[v, .int .i64 (parseP (ts, c)).2]) ∧ Vst w.heap.size w' (parseP (ts, c)).1 v ∧ Below w.heap.size w w' := by
  have HT := Aside0.mk ht
  have HG := Aside0.mk hG
  have HL := Aside0.mk h
  clear ht hG h
  go_enter Tryz.func46, Tryz.ntmps46
  go_upto_region 1 with (fail)
  have BR0 := Aside0.mk (new_blk (W := w) (.cells (celA z60 {}) 60 (0, 0)) rfl)
  have HB0 := Aside0.mk (below_alloc (Below.refl w.heap.size w) (.cells (celA z60 {}) 60 (0, 0)))
  have HGW := Aside0.mk (HG.out.below HB0.out)
  change Code.wp _ _ _ _ (w.alloc (.cells (celA z60 {}) 60 (0, 0)))
  generalize hrb : w.heap.size = rb at BR0 ⊢
  generalize hW : w.alloc (.cells (celA z60 {}) 60 (0, 0)) = W at BR0 HB0 HGW ⊢
  clear hW
  have hrW := blk_lt BR0.out
  have hwr : w.heap.size ≤ rb := by omega
  by_cases c0 : c = 0
  · subst c0
    have HTK := HT.out rfl
    have HTS := Aside0.mk HTK
    go_upto_region 4 with (first | (go_at_call 16; refine (lex_Tokens.calls s ts 0 W HL.out HGW.out).mono ?_; rintro e1 w1 ⟨v1, rfl, ho, hb⟩; have HO1 := Aside0.mk (Kd.N_reads (Kd.R_N ho)); have HB1 := Aside0.mk hb; clear ho hb))
    obtain ⟨A, cp, rfl, hcp, hC⟩ := HO1.out
    have HC := Aside0.mk hC
    clear hC HO1
    have BR1 := Aside0.mk ((HB1.out.block rb hrW).trans BR0.out)
    cases hrd : Ps.read KP ts with
    | none =>
      have HRD := Aside0.mk hrd
      clear hrd
      go_upto_block 0 with (first | (go_at_call 105; refine (read_out HC.out hcp HTS.out.ends (k := KP) (by have := HTS.out.len; unfold KP; omega) HTS.out.len).mono ?_; intro e2 w2 ho; rw [HRD.out] at ho; obtain ⟨hb, v2, rfl, a, rfl, hf⟩ := ho; have HB2 := Aside0.mk hb; have HF2 := Aside0.mk hf; clear hb hf; unfold celA cells60))
      have HB3 := Aside0.mk (below_step HB1.out (below_step HB2.out (below_alloc (Below.refl _ _) (.cells (celA z60 a) 60 (0, 0)))))
      change Code.wp _ _ _ _ (w2.alloc (.cells (celA z60 a) 60 (0, 0)))
      generalize hW3 : w2.alloc (.cells (celA z60 a) 60 (0, 0)) = w3 at HB3 ⊢
      clear hW3
      have BR3 := Aside0.mk ((HB3.out.block rb hrW).trans BR0.out)
      have hr3 := blk_lt BR3.out
      have rc0 : w3.cell? ⟨rb, 0, none⟩ = some (.int .i64 0) := (blk_cell BR3.out 0).trans rfl
      have rc1 : w3.cell? ⟨rb, 1, none⟩ = some (.string ⟨#[]⟩) := (blk_cell BR3.out 1).trans rfl
      have rc2 : w3.cell? ⟨rb, 2, none⟩ = some (.slice none 0 0) := (blk_cell BR3.out 2).trans rfl
      have rc3 : w3.cell? ⟨rb, 3, none⟩ = some (.string ⟨#[]⟩) := (blk_cell BR3.out 3).trans rfl
      have rc4 : w3.cell? ⟨rb, 4, none⟩ = some (.slice none 0 0) := (blk_cell BR3.out 4).trans rfl
      have rc5 : w3.cell? ⟨rb, 5, none⟩ = some (.slice none 0 0) := (blk_cell BR3.out 5).trans rfl
      have rc6 : w3.cell? ⟨rb, 6, none⟩ = some (.slice none 0 0) := (blk_cell BR3.out 6).trans rfl
      have rc7 : w3.cell? ⟨rb, 7, none⟩ = some (.slice none 0 0) := (blk_cell BR3.out 7).trans rfl
      have rc8 : w3.cell? ⟨rb, 8, none⟩ = some (.string ⟨#[]⟩) := (blk_cell BR3.out 8).trans rfl
      have rc9 : w3.cell? ⟨rb, 9, none⟩ = some (.bool false) := (blk_cell BR3.out 9).trans rfl
      have rc10 : w3.cell? ⟨rb, 10, none⟩ = some (.int .i64 0) := (blk_cell BR3.out 10).trans rfl
      have rz0 := blk_frozen BR3.out 0
      have rz1 := blk_frozen BR3.out 1
      have rz2 := blk_frozen BR3.out 2
      have rz3 := blk_frozen BR3.out 3
      have rz4 := blk_frozen BR3.out 4
      have rz5 := blk_frozen BR3.out 5
      have rz6 := blk_frozen BR3.out 6
      have rz7 := blk_frozen BR3.out 7
      have rz8 := blk_frozen BR3.out 8
      have rz9 := blk_frozen BR3.out 9
      have rz10 := blk_frozen BR3.out 10
      go_wp2
      refine bodyPost_ret (res46 (x := z60) (a := {}) (fillR_s BR3.out _ _ _ _ _ _ _ _ _ _ _) rfl rfl) rfl ?_
      have hp : parseP (ts, 0) = (z60, 20) := by unfold parseP parseA; rw [if_pos rfl, HRD.out]
      rw [hp]
      exact ⟨_, rfl, vst_zero _ _, fillR_b (below_step HB0.out HB3.out) hwr _ _ _ _ _ _ _ _ _ _ _⟩
    | some x =>
      have HGD := Aside0.mk (read_good hrd HTS.out.short)
      have HMD := Aside0.mk (HGD.out.mod (by unfold KP; omega))
      have HNM := Aside0.mk HGD.out.names
      have HRD := Aside0.mk hrd
      clear hrd
      go_upto_block 0 with (first | (go_at_call 105; refine (read_out HC.out hcp HTS.out.ends (k := KP) (by have := HTS.out.len; unfold KP; omega) HTS.out.len).mono ?_; intro e2 w2 ho; rw [HRD.out] at ho; obtain ⟨hb, v2, rfl, a, rfl, hf⟩ := ho; have HB2 := Aside0.mk hb; have HF2 := Aside0.mk hf; clear hb hf; unfold celA cells60))
      have HB3 := Aside0.mk (below_step HB1.out (below_step HB2.out (below_alloc (Below.refl _ _) (.cells (celA x a) 60 (0, 0)))))
      have BS3 := Aside0.mk (new_blk (W := w2) (.cells (celA x a) 60 (0, 0)) rfl)
      have hw1 := HB1.out.size
      have HF3 : Aside0 (StA (fun q => rb < q) (w2.alloc (.cells (celA x a) 60 (0, 0))) x a) := ⟨StF.mono (ok := fun q => w1.heap.size ≤ q) ⟨HF2.out.l2, Kd.F_alloc HF2.out.f2 _, HF2.out.l4, Kd.F_alloc HF2.out.f4 _, HF2.out.l5, Kd.F_alloc HF2.out.f5 _, HF2.out.l6, Kd.F_alloc HF2.out.f6 _, HF2.out.l7, Kd.F_alloc HF2.out.f7 _⟩ (fun q hq => by have h1 : w1.heap.size ≤ q := hq; omega)⟩
      change Code.wp _ _ _ _ (w2.alloc (.cells (celA x a) 60 (0, 0)))
      generalize hsb : w2.heap.size = sb at BS3 ⊢
      generalize hW3 : w2.alloc (.cells (celA x a) 60 (0, 0)) = w3 at HB3 BS3 HF3 ⊢
      clear hW3 hw1
      have BR3 := Aside0.mk ((HB3.out.block rb hrW).trans BR0.out)
      have hr3 := blk_lt BR3.out
      have hs3 := blk_lt BS3.out
      have hsr : rb < sb := by have := HB1.out.size; have := HB2.out.size; omega
      clear hsb
      have hne : rb ≠ sb := by omega
      have hne' : sb ≠ rb := by omega
      have HFT := Aside0.mk (StF.mono HF3.out (fun _ _ => trivial) : StA (fun _ => True) w3 x a)
      have sc0 : w3.cell? ⟨sb, 0, none⟩ = some (.int .i64 x.f0) := (blk_cell BS3.out 0).trans rfl
      have sc1 : w3.cell? ⟨sb, 1, none⟩ = some (.string x.f1) := (blk_cell BS3.out 1).trans rfl
      have sc2 : w3.cell? ⟨sb, 2, none⟩ = some (.slice a.a2 x.f2.length a.c2) := (blk_cell BS3.out 2).trans rfl
      have sc3 : w3.cell? ⟨sb, 3, none⟩ = some (.string x.f3) := (blk_cell BS3.out 3).trans rfl
      have sc4 : w3.cell? ⟨sb, 4, none⟩ = some (.slice a.a4 x.f4.length a.c4) := (blk_cell BS3.out 4).trans rfl
      have sc5 : w3.cell? ⟨sb, 5, none⟩ = some (.slice a.a5 x.f5.length a.c5) := (blk_cell BS3.out 5).trans rfl
      have sc6 : w3.cell? ⟨sb, 6, none⟩ = some (.slice a.a6 x.f6.length a.c6) := (blk_cell BS3.out 6).trans rfl
      have sc7 : w3.cell? ⟨sb, 7, none⟩ = some (.slice a.a7 x.f7.length a.c7) := (blk_cell BS3.out 7).trans rfl
      have sc8 : w3.cell? ⟨sb, 8, none⟩ = some (.string x.f8) := (blk_cell BS3.out 8).trans rfl
      have sc9 : w3.cell? ⟨sb, 9, none⟩ = some (.bool x.f9) := (blk_cell BS3.out 9).trans rfl
      have sc10 : w3.cell? ⟨sb, 10, none⟩ = some (.int .i64 x.f10) := (blk_cell BS3.out 10).trans rfl
      have hcel : celA x a = #[.int .i64 x.f0, .string x.f1, .slice a.a2 x.f2.length a.c2, .string x.f3, .slice a.a4 x.f4.length a.c4, .slice a.a5 x.f5.length a.c5, .slice a.a6 x.f6.length a.c6, .slice a.a7 x.f7.length a.c7, .string x.f8, .bool x.f9, .int .i64 x.f10] := rfl
      cases hlg : longB x with
      | true =>
        have HLG := Aside0.mk hlg
        clear hlg
        go_wp2_with (first | (go_at_call 106; refine (long_out (x := x) (a := a) HFT.out HMD.out).mono ?_; rintro e4 w4 ⟨rfl, hb⟩; have HB4 := Aside0.mk hb; clear hb; rw [HLG.out]; have BR4 := Aside0.mk ((HB4.out.block rb hr3).trans BR3.out); have hr4 := blk_lt BR4.out; have rc0 : w4.cell? ⟨rb, 0, none⟩ = some (.int .i64 0) := (blk_cell BR4.out 0).trans rfl; have rc1 : w4.cell? ⟨rb, 1, none⟩ = some (.string ⟨#[]⟩) := (blk_cell BR4.out 1).trans rfl; have rc2 : w4.cell? ⟨rb, 2, none⟩ = some (.slice none 0 0) := (blk_cell BR4.out 2).trans rfl; have rc3 : w4.cell? ⟨rb, 3, none⟩ = some (.string ⟨#[]⟩) := (blk_cell BR4.out 3).trans rfl; have rc4 : w4.cell? ⟨rb, 4, none⟩ = some (.slice none 0 0) := (blk_cell BR4.out 4).trans rfl; have rc5 : w4.cell? ⟨rb, 5, none⟩ = some (.slice none 0 0) := (blk_cell BR4.out 5).trans rfl; have rc6 : w4.cell? ⟨rb, 6, none⟩ = some (.slice none 0 0) := (blk_cell BR4.out 6).trans rfl; have rc7 : w4.cell? ⟨rb, 7, none⟩ = some (.slice none 0 0) := (blk_cell BR4.out 7).trans rfl; have rc8 : w4.cell? ⟨rb, 8, none⟩ = some (.string ⟨#[]⟩) := (blk_cell BR4.out 8).trans rfl; have rc9 : w4.cell? ⟨rb, 9, none⟩ = some (.bool false) := (blk_cell BR4.out 9).trans rfl; have rc10 : w4.cell? ⟨rb, 10, none⟩ = some (.int .i64 0) := (blk_cell BR4.out 10).trans rfl; have rz0 := blk_frozen BR4.out 0; have rz1 := blk_frozen BR4.out 1; have rz2 := blk_frozen BR4.out 2; have rz3 := blk_frozen BR4.out 3; have rz4 := blk_frozen BR4.out 4; have rz5 := blk_frozen BR4.out 5; have rz6 := blk_frozen BR4.out 6; have rz7 := blk_frozen BR4.out 7; have rz8 := blk_frozen BR4.out 8; have rz9 := blk_frozen BR4.out 9; have rz10 := blk_frozen BR4.out 10))
        refine bodyPost_ret (res46 (x := z60) (a := {}) (fillR_s BR4.out _ _ _ _ _ _ _ _ _ _ _) rfl rfl) rfl ?_
        have hp : parseP (ts, 0) = (z60, 28) := by unfold parseP parseA; rw [if_pos rfl, HRD.out]; simp only; rw [if_pos HLG.out]
        rw [hp]
        exact ⟨_, rfl, vst_zero _ _, fillR_b (below_step HB0.out (below_step HB3.out HB4.out)) hwr _ _ _ _ _ _ _ _ _ _ _⟩
      | false =>
        have HLG := Aside0.mk hlg
        clear hlg
        cases htw : twiceB x with
        | true =>
          have HTW := Aside0.mk htw
          clear htw
          go_wp2_with (first | (go_at_call 106; refine (long_out (x := x) (a := a) HFT.out HMD.out).mono ?_; rintro e4 w4 ⟨rfl, hb⟩; have HB4 := Aside0.mk hb; clear hb; rw [HLG.out]; have BR4 := Aside0.mk ((HB4.out.block rb hr3).trans BR3.out); have hr4 := blk_lt BR4.out; have BS4 := Aside0.mk ((HB4.out.block sb hs3).trans BS3.out); have hs4 := blk_lt BS4.out; have HFT4 := Aside0.mk (StF.below HFT.out HB4.out); have pc0 : w4.cell? ⟨sb, 0, none⟩ = some (.int .i64 x.f0) := (blk_cell BS4.out 0).trans rfl; have pc1 : w4.cell? ⟨sb, 1, none⟩ = some (.string x.f1) := (blk_cell BS4.out 1).trans rfl; have pc2 : w4.cell? ⟨sb, 2, none⟩ = some (.slice a.a2 x.f2.length a.c2) := (blk_cell BS4.out 2).trans rfl; have pc3 : w4.cell? ⟨sb, 3, none⟩ = some (.string x.f3) := (blk_cell BS4.out 3).trans rfl; have pc4 : w4.cell? ⟨sb, 4, none⟩ = some (.slice a.a4 x.f4.length a.c4) := (blk_cell BS4.out 4).trans rfl; have pc5 : w4.cell? ⟨sb, 5, none⟩ = some (.slice a.a5 x.f5.length a.c5) := (blk_cell BS4.out 5).trans rfl; have pc6 : w4.cell? ⟨sb, 6, none⟩ = some (.slice a.a6 x.f6.length a.c6) := (blk_cell BS4.out 6).trans rfl; have pc7 : w4.cell? ⟨sb, 7, none⟩ = some (.slice a.a7 x.f7.length a.c7) := (blk_cell BS4.out 7).trans rfl; have pc8 : w4.cell? ⟨sb, 8, none⟩ = some (.string x.f8) := (blk_cell BS4.out 8).trans rfl; have pc9 : w4.cell? ⟨sb, 9, none⟩ = some (.bool x.f9) := (blk_cell BS4.out 9).trans rfl; have pc10 : w4.cell? ⟨sb, 10, none⟩ = some (.int .i64 x.f10) := (blk_cell BS4.out 10).trans rfl) | (go_at_call 107; refine (twice_out (x := x) (a := a) HFT4.out HMD.out HNM.out).mono ?_; rintro e5 w5 ⟨rfl, hb⟩; have HB5 := Aside0.mk hb; clear hb; rw [HTW.out]; have BR5 := Aside0.mk ((HB5.out.block rb hr4).trans BR4.out); have hr5 := blk_lt BR5.out; have BS5 := Aside0.mk ((HB5.out.block sb hs4).trans BS4.out); have hs5 := blk_lt BS5.out; have rc0 : w5.cell? ⟨rb, 0, none⟩ = some (.int .i64 0) := (blk_cell BR5.out 0).trans rfl; have rc1 : w5.cell? ⟨rb, 1, none⟩ = some (.string ⟨#[]⟩) := (blk_cell BR5.out 1).trans rfl; have rc2 : w5.cell? ⟨rb, 2, none⟩ = some (.slice none 0 0) := (blk_cell BR5.out 2).trans rfl; have rc3 : w5.cell? ⟨rb, 3, none⟩ = some (.string ⟨#[]⟩) := (blk_cell BR5.out 3).trans rfl; have rc4 : w5.cell? ⟨rb, 4, none⟩ = some (.slice none 0 0) := (blk_cell BR5.out 4).trans rfl; have rc5 : w5.cell? ⟨rb, 5, none⟩ = some (.slice none 0 0) := (blk_cell BR5.out 5).trans rfl; have rc6 : w5.cell? ⟨rb, 6, none⟩ = some (.slice none 0 0) := (blk_cell BR5.out 6).trans rfl; have rc7 : w5.cell? ⟨rb, 7, none⟩ = some (.slice none 0 0) := (blk_cell BR5.out 7).trans rfl; have rc8 : w5.cell? ⟨rb, 8, none⟩ = some (.string ⟨#[]⟩) := (blk_cell BR5.out 8).trans rfl; have rc9 : w5.cell? ⟨rb, 9, none⟩ = some (.bool false) := (blk_cell BR5.out 9).trans rfl; have rc10 : w5.cell? ⟨rb, 10, none⟩ = some (.int .i64 0) := (blk_cell BR5.out 10).trans rfl; have rz0 := blk_frozen BR5.out 0; have rz1 := blk_frozen BR5.out 1; have rz2 := blk_frozen BR5.out 2; have rz3 := blk_frozen BR5.out 3; have rz4 := blk_frozen BR5.out 4; have rz5 := blk_frozen BR5.out 5; have rz6 := blk_frozen BR5.out 6; have rz7 := blk_frozen BR5.out 7; have rz8 := blk_frozen BR5.out 8; have rz9 := blk_frozen BR5.out 9; have rz10 := blk_frozen BR5.out 10; have uc0 : w5.cell? ⟨sb, 0, none⟩ = some (.int .i64 x.f0) := (blk_cell BS5.out 0).trans rfl; have uc1 : w5.cell? ⟨sb, 1, none⟩ = some (.string x.f1) := (blk_cell BS5.out 1).trans rfl; have uc2 : w5.cell? ⟨sb, 2, none⟩ = some (.slice a.a2 x.f2.length a.c2) := (blk_cell BS5.out 2).trans rfl; have uc3 : w5.cell? ⟨sb, 3, none⟩ = some (.string x.f3) := (blk_cell BS5.out 3).trans rfl; have uc4 : w5.cell? ⟨sb, 4, none⟩ = some (.slice a.a4 x.f4.length a.c4) := (blk_cell BS5.out 4).trans rfl; have uc5 : w5.cell? ⟨sb, 5, none⟩ = some (.slice a.a5 x.f5.length a.c5) := (blk_cell BS5.out 5).trans rfl; have uc6 : w5.cell? ⟨sb, 6, none⟩ = some (.slice a.a6 x.f6.length a.c6) := (blk_cell BS5.out 6).trans rfl; have uc7 : w5.cell? ⟨sb, 7, none⟩ = some (.slice a.a7 x.f7.length a.c7) := (blk_cell BS5.out 7).trans rfl; have uc8 : w5.cell? ⟨sb, 8, none⟩ = some (.string x.f8) := (blk_cell BS5.out 8).trans rfl; have uc9 : w5.cell? ⟨sb, 9, none⟩ = some (.bool x.f9) := (blk_cell BS5.out 9).trans rfl; have uc10 : w5.cell? ⟨sb, 10, none⟩ = some (.int .i64 x.f10) := (blk_cell BS5.out 10).trans rfl))
          refine bodyPost_ret (res46 (x := z60) (a := {}) (fillR_s BR5.out _ _ _ _ _ _ _ _ _ _ _) rfl rfl) rfl ?_
          have hp : parseP (ts, 0) = (z60, 21) := by unfold parseP parseA; rw [if_pos rfl, HRD.out]; simp only; rw [if_neg (by rw [HLG.out]; decide), if_pos HTW.out]
          rw [hp]
          exact ⟨_, rfl, vst_zero _ _, fillR_b (below_step HB0.out (below_step HB3.out (below_step HB4.out HB5.out))) hwr _ _ _ _ _ _ _ _ _ _ _⟩
        | false =>
          have HTW := Aside0.mk htw
          clear htw
          go_wp2_with (first | (go_at_call 106; refine (long_out (x := x) (a := a) HFT.out HMD.out).mono ?_; rintro e4 w4 ⟨rfl, hb⟩; have HB4 := Aside0.mk hb; clear hb; rw [HLG.out]; have BR4 := Aside0.mk ((HB4.out.block rb hr3).trans BR3.out); have hr4 := blk_lt BR4.out; have BS4 := Aside0.mk ((HB4.out.block sb hs3).trans BS3.out); have hs4 := blk_lt BS4.out; have HFT4 := Aside0.mk (StF.below HFT.out HB4.out); have pc0 : w4.cell? ⟨sb, 0, none⟩ = some (.int .i64 x.f0) := (blk_cell BS4.out 0).trans rfl; have pc1 : w4.cell? ⟨sb, 1, none⟩ = some (.string x.f1) := (blk_cell BS4.out 1).trans rfl; have pc2 : w4.cell? ⟨sb, 2, none⟩ = some (.slice a.a2 x.f2.length a.c2) := (blk_cell BS4.out 2).trans rfl; have pc3 : w4.cell? ⟨sb, 3, none⟩ = some (.string x.f3) := (blk_cell BS4.out 3).trans rfl; have pc4 : w4.cell? ⟨sb, 4, none⟩ = some (.slice a.a4 x.f4.length a.c4) := (blk_cell BS4.out 4).trans rfl; have pc5 : w4.cell? ⟨sb, 5, none⟩ = some (.slice a.a5 x.f5.length a.c5) := (blk_cell BS4.out 5).trans rfl; have pc6 : w4.cell? ⟨sb, 6, none⟩ = some (.slice a.a6 x.f6.length a.c6) := (blk_cell BS4.out 6).trans rfl; have pc7 : w4.cell? ⟨sb, 7, none⟩ = some (.slice a.a7 x.f7.length a.c7) := (blk_cell BS4.out 7).trans rfl; have pc8 : w4.cell? ⟨sb, 8, none⟩ = some (.string x.f8) := (blk_cell BS4.out 8).trans rfl; have pc9 : w4.cell? ⟨sb, 9, none⟩ = some (.bool x.f9) := (blk_cell BS4.out 9).trans rfl; have pc10 : w4.cell? ⟨sb, 10, none⟩ = some (.int .i64 x.f10) := (blk_cell BS4.out 10).trans rfl) | (go_at_call 107; refine (twice_out (x := x) (a := a) HFT4.out HMD.out HNM.out).mono ?_; rintro e5 w5 ⟨rfl, hb⟩; have HB5 := Aside0.mk hb; clear hb; rw [HTW.out]; have BR5 := Aside0.mk ((HB5.out.block rb hr4).trans BR4.out); have hr5 := blk_lt BR5.out; have BS5 := Aside0.mk ((HB5.out.block sb hs4).trans BS4.out); have hs5 := blk_lt BS5.out; have rc0 : w5.cell? ⟨rb, 0, none⟩ = some (.int .i64 0) := (blk_cell BR5.out 0).trans rfl; have rc1 : w5.cell? ⟨rb, 1, none⟩ = some (.string ⟨#[]⟩) := (blk_cell BR5.out 1).trans rfl; have rc2 : w5.cell? ⟨rb, 2, none⟩ = some (.slice none 0 0) := (blk_cell BR5.out 2).trans rfl; have rc3 : w5.cell? ⟨rb, 3, none⟩ = some (.string ⟨#[]⟩) := (blk_cell BR5.out 3).trans rfl; have rc4 : w5.cell? ⟨rb, 4, none⟩ = some (.slice none 0 0) := (blk_cell BR5.out 4).trans rfl; have rc5 : w5.cell? ⟨rb, 5, none⟩ = some (.slice none 0 0) := (blk_cell BR5.out 5).trans rfl; have rc6 : w5.cell? ⟨rb, 6, none⟩ = some (.slice none 0 0) := (blk_cell BR5.out 6).trans rfl; have rc7 : w5.cell? ⟨rb, 7, none⟩ = some (.slice none 0 0) := (blk_cell BR5.out 7).trans rfl; have rc8 : w5.cell? ⟨rb, 8, none⟩ = some (.string ⟨#[]⟩) := (blk_cell BR5.out 8).trans rfl; have rc9 : w5.cell? ⟨rb, 9, none⟩ = some (.bool false) := (blk_cell BR5.out 9).trans rfl; have rc10 : w5.cell? ⟨rb, 10, none⟩ = some (.int .i64 0) := (blk_cell BR5.out 10).trans rfl; have rz0 := blk_frozen BR5.out 0; have rz1 := blk_frozen BR5.out 1; have rz2 := blk_frozen BR5.out 2; have rz3 := blk_frozen BR5.out 3; have rz4 := blk_frozen BR5.out 4; have rz5 := blk_frozen BR5.out 5; have rz6 := blk_frozen BR5.out 6; have rz7 := blk_frozen BR5.out 7; have rz8 := blk_frozen BR5.out 8; have rz9 := blk_frozen BR5.out 9; have rz10 := blk_frozen BR5.out 10; have uc0 : w5.cell? ⟨sb, 0, none⟩ = some (.int .i64 x.f0) := (blk_cell BS5.out 0).trans rfl; have uc1 : w5.cell? ⟨sb, 1, none⟩ = some (.string x.f1) := (blk_cell BS5.out 1).trans rfl; have uc2 : w5.cell? ⟨sb, 2, none⟩ = some (.slice a.a2 x.f2.length a.c2) := (blk_cell BS5.out 2).trans rfl; have uc3 : w5.cell? ⟨sb, 3, none⟩ = some (.string x.f3) := (blk_cell BS5.out 3).trans rfl; have uc4 : w5.cell? ⟨sb, 4, none⟩ = some (.slice a.a4 x.f4.length a.c4) := (blk_cell BS5.out 4).trans rfl; have uc5 : w5.cell? ⟨sb, 5, none⟩ = some (.slice a.a5 x.f5.length a.c5) := (blk_cell BS5.out 5).trans rfl; have uc6 : w5.cell? ⟨sb, 6, none⟩ = some (.slice a.a6 x.f6.length a.c6) := (blk_cell BS5.out 6).trans rfl; have uc7 : w5.cell? ⟨sb, 7, none⟩ = some (.slice a.a7 x.f7.length a.c7) := (blk_cell BS5.out 7).trans rfl; have uc8 : w5.cell? ⟨sb, 8, none⟩ = some (.string x.f8) := (blk_cell BS5.out 8).trans rfl; have uc9 : w5.cell? ⟨sb, 9, none⟩ = some (.bool x.f9) := (blk_cell BS5.out 9).trans rfl; have uc10 : w5.cell? ⟨sb, 10, none⟩ = some (.int .i64 x.f10) := (blk_cell BS5.out 10).trans rfl))
          refine bodyPost_ret (res46 (x := x) (a := a) (fillR_s BR5.out _ _ _ _ _ _ _ _ _ _ _) rfl rfl) rfl ?_
          have hp : parseP (ts, 0) = (x, 0) := by unfold parseP parseA; rw [if_pos rfl, HRD.out]; simp only; rw [if_neg (by rw [HLG.out]; decide), if_neg (by rw [HTW.out]; decide)]
          rw [hp]
          refine ⟨_, rfl, ⟨a, rfl, ?_⟩, fillR_b (below_step HB0.out (below_step HB3.out (below_step HB4.out HB5.out))) hwr _ _ _ _ _ _ _ _ _ _ _⟩
          have hf5 : StA (fun q => rb + 1 ≤ q) w5 x a := StF.below (StF.below (StF.mono HF3.out (fun q hq => by have h1 : rb < q := hq; omega)) HB4.out) HB5.out
          exact StF.mono (fillR_f hf5 (Nat.lt_succ_self _) _ _ _ _ _ _ _ _ _ _ _) (fun q hq => by have h1 : rb + 1 ≤ q := hq; omega)
  · have b0 : (c != 0) = true := bne_iff_ne.mpr c0
    go_wp2_with (first | (go_at_call 16; refine (lex_Tokens.calls s ts c W HL.out HGW.out).mono ?_; rintro e1 w1 ⟨v1, rfl, ho, hb⟩; have HB1 := Aside0.mk hb; clear ho hb; have BR1 := Aside0.mk ((HB1.out.block rb hrW).trans BR0.out); have hr1 := blk_lt BR1.out; have rc0 : w1.cell? ⟨rb, 0, none⟩ = some (.int .i64 0) := (blk_cell BR1.out 0).trans rfl; have rc1 : w1.cell? ⟨rb, 1, none⟩ = some (.string ⟨#[]⟩) := (blk_cell BR1.out 1).trans rfl; have rc2 : w1.cell? ⟨rb, 2, none⟩ = some (.slice none 0 0) := (blk_cell BR1.out 2).trans rfl; have rc3 : w1.cell? ⟨rb, 3, none⟩ = some (.string ⟨#[]⟩) := (blk_cell BR1.out 3).trans rfl; have rc4 : w1.cell? ⟨rb, 4, none⟩ = some (.slice none 0 0) := (blk_cell BR1.out 4).trans rfl; have rc5 : w1.cell? ⟨rb, 5, none⟩ = some (.slice none 0 0) := (blk_cell BR1.out 5).trans rfl; have rc6 : w1.cell? ⟨rb, 6, none⟩ = some (.slice none 0 0) := (blk_cell BR1.out 6).trans rfl; have rc7 : w1.cell? ⟨rb, 7, none⟩ = some (.slice none 0 0) := (blk_cell BR1.out 7).trans rfl; have rc8 : w1.cell? ⟨rb, 8, none⟩ = some (.string ⟨#[]⟩) := (blk_cell BR1.out 8).trans rfl; have rc9 : w1.cell? ⟨rb, 9, none⟩ = some (.bool false) := (blk_cell BR1.out 9).trans rfl; have rc10 : w1.cell? ⟨rb, 10, none⟩ = some (.int .i64 0) := (blk_cell BR1.out 10).trans rfl; have rz0 := blk_frozen BR1.out 0; have rz1 := blk_frozen BR1.out 1; have rz2 := blk_frozen BR1.out 2; have rz3 := blk_frozen BR1.out 3; have rz4 := blk_frozen BR1.out 4; have rz5 := blk_frozen BR1.out 5; have rz6 := blk_frozen BR1.out 6; have rz7 := blk_frozen BR1.out 7; have rz8 := blk_frozen BR1.out 8; have rz9 := blk_frozen BR1.out 9; have rz10 := blk_frozen BR1.out 10))
    refine bodyPost_ret (res46 (x := z60) (a := {}) (fillR_s BR1.out _ _ _ _ _ _ _ _ _ _ _) rfl rfl) rfl ?_
    have hp : parseP (ts, c) = (z60, c) := by unfold parseP; rw [if_neg c0]
    rw [hp]
    exact ⟨_, rfl, vst_zero _ _, fillR_b (below_step HB0.out HB1.out) hwr _ _ _ _ _ _ _ _ _ _ _⟩
end Go.Proofs.YtcgdncpioafbdaaGreatDoor.Q

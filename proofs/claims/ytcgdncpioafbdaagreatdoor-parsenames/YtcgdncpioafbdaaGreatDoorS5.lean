/- Lemmas for the law: S5. -/
import Derived.Test.YtcgdncpioafbdaaGreatDoorRows
import Derived.Test.YtcgdncpioafbdaaGreatDoorTie
import Derived.Test.YtcgdncpioafbdaaGreatDoorCards
import Derived.Test.YtcgdncpioafbdaaGreatDoorS1
import Derived.Test.YtcgdncpioafbdaaGreatDoorS2
import Derived.Test.YtcgdncpioafbdaaGreatDoorS3
import Derived.Test.YtcgdncpioafbdaaGreatDoorS4
set_option linter.unusedVariables false
set_option linter.unusedSimpArgs false
/- Lemmas for the law: Px2 Pz Pa TxA TxB Aw Glue Nm Qnames. -/
/- The parser: Parse. -/
namespace Go.Proofs.YtcgdncpioafbdaaGreatDoor.Q
open Go Go.RowKit Go.Proofs.YtcgdncpioafbdaaGreatDoorW.PrintWords
/-- The rounds that are enough. -/
def KP : Nat := 8100
/-- What Parse answers. -/
def parseA (ts : List S32) : S60 × Int := match Ps.read KP ts with
  | none => (z60, 20)
  | some x => if longB x then (z60, 28) else if twiceB x then (z60, 21) else (x, 0)
def parseP (p : List S32 × Int) : S60 × Int := if p.2 = 0 then parseA p.1 else (z60, p.2)
/-- Tokens as the lexer gives them. -/
structure Toks (ts : List S32) : Prop where
  ends : Ends ts
  len : ts.length ≤ 4001
  short : TK 100000 ts
theorem StF.below {ok : Nat → Prop} {x : S60} {A2 A4 A5 A6 A7 : Option Addr} {c2 c4 c5 c6 c7 : Nat} {wc wd : World} (hF : StF ok wc x A2 c2 A4 c4 A5 c5 A6 c6 A7 c7) (hb : Below wc.heap.size wc wd) : StF ok wd x A2 c2 A4 c4 A5 c5 A6 c6 A7 c7 :=
  ⟨hF.l2, Kd.F_below hF.f2 hb, hF.l4, Kd.F_below hF.f4 hb, hF.l5, Kd.F_below hF.f5 hb, hF.l6, Kd.F_below hF.f6 hb, hF.l7, Kd.F_below hF.f7 hb⟩
abbrev fillR (W : World) (rb : Nat) (v0 v1 v2 v3 v4 v5 v6 v7 v8 v9 v10 : Value) : World := (((((((((((W.setCell ⟨rb, 0, none⟩ v0).setCell ⟨rb, 1, none⟩ v1).setCell ⟨rb, 2, none⟩ v2).setCell ⟨rb, 3, none⟩ v3).setCell ⟨rb, 4, none⟩ v4).setCell ⟨rb, 5, none⟩ v5).setCell ⟨rb, 6, none⟩ v6).setCell ⟨rb, 7, none⟩ v7).setCell ⟨rb, 8, none⟩ v8).setCell ⟨rb, 9, none⟩ v9).setCell ⟨rb, 10, none⟩ v10)
theorem fillR_s {W : World} {rb : Nat} (hs : W.heap[rb]? = some (.cells (celA z60 {}) 60 (0, 0))) (v0 v1 v2 v3 v4 v5 v6 v7 v8 v9 v10 : Value) : (fillR W rb v0 v1 v2 v3 v4 v5 v6 v7 v8 v9 v10).heap[rb]? = some (.cells #[v0, v1, v2, v3, v4, v5, v6, v7, v8, v9, v10] 60 (0, 0)) :=
  blk_put11 (a0 := .int .i64 0) (a1 := .string ⟨#[]⟩) (a2 := .slice none 0 0) (a3 := .string ⟨#[]⟩) (a4 := .slice none 0 0) (a5 := .slice none 0 0) (a6 := .slice none 0 0) (a7 := .slice none 0 0) (a8 := .string ⟨#[]⟩) (a9 := .bool false) (a10 := .int .i64 0) hs
theorem fillR_b {w W : World} {B rb : Nat} (h : Below B w W) (hs : B ≤ rb) (v0 v1 v2 v3 v4 v5 v6 v7 v8 v9 v10 : Value) : Below B w (fillR W rb v0 v1 v2 v3 v4 v5 v6 v7 v8 v9 v10) := by
  unfold fillR
  with_reducible (repeat (first | exact h | refine Below.setCell (p := ⟨rb, _, none⟩) ?_ hs _))
theorem fillR_f {W : World} {B rb : Nat} {x : S60} {a : Ads} (h : StA (fun q => B ≤ q) W x a) (hs : rb < B) (v0 v1 v2 v3 v4 v5 v6 v7 v8 v9 v10 : Value) : StA (fun q => B ≤ q) (fillR W rb v0 v1 v2 v3 v4 v5 v6 v7 v8 v9 v10) x a := by
  unfold fillR
  have h1 : ∀ q, B ≤ q → q ≠ rb := fun q hq => by omega
  with_reducible (repeat (first | exact h | refine StF.far ?_ h1 _ _))
set_option maxRecDepth 100000 in
theorem res46 {W : World} {rb : Nat} {x : S60} {a : Ads} {v : Value} {tmps : Array Value} (hs : W.heap[rb]? = some (.cells (celA x a) 60 (0, 0))) (h2 : tmps[2]?.getD undef = .pointer (some ⟨rb, 0, none⟩)) (h3 : tmps[3]?.getD undef = v) : (results Tryz.f46 tmps).run Tryz.prog W = .ok (.tuple #[.agg (celA x a), v]) W := by
  have HS := Aside0.mk hs
  have hsl := blk_lt hs
  have rc0 : W.cell? ⟨rb, 0, none⟩ = some (.int .i64 x.f0) := (blk_cell HS.out 0).trans rfl
  have rc1 : W.cell? ⟨rb, 1, none⟩ = some (.string x.f1) := (blk_cell HS.out 1).trans rfl
  have rc2 : W.cell? ⟨rb, 2, none⟩ = some (.slice a.a2 x.f2.length a.c2) := (blk_cell HS.out 2).trans rfl
  have rc3 : W.cell? ⟨rb, 3, none⟩ = some (.string x.f3) := (blk_cell HS.out 3).trans rfl
  have rc4 : W.cell? ⟨rb, 4, none⟩ = some (.slice a.a4 x.f4.length a.c4) := (blk_cell HS.out 4).trans rfl
  have rc5 : W.cell? ⟨rb, 5, none⟩ = some (.slice a.a5 x.f5.length a.c5) := (blk_cell HS.out 5).trans rfl
  have rc6 : W.cell? ⟨rb, 6, none⟩ = some (.slice a.a6 x.f6.length a.c6) := (blk_cell HS.out 6).trans rfl
  have rc7 : W.cell? ⟨rb, 7, none⟩ = some (.slice a.a7 x.f7.length a.c7) := (blk_cell HS.out 7).trans rfl
  have rc8 : W.cell? ⟨rb, 8, none⟩ = some (.string x.f8) := (blk_cell HS.out 8).trans rfl
  have rc9 : W.cell? ⟨rb, 9, none⟩ = some (.bool x.f9) := (blk_cell HS.out 9).trans rfl
  have rc10 : W.cell? ⟨rb, 10, none⟩ = some (.int .i64 x.f10) := (blk_cell HS.out 10).trans rfl
  clear hs
  simp [results, Tryz.results46, go_sem, h2, h3, celA, cells60, rc0, rc1, rc2, rc3, rc4, rc5, rc6, rc7, rc8, rc9, rc10, hsl]
set_option maxHeartbeats 4000000 in
set_option maxRecDepth 100000 in
theorem parse_out {w : World} {s : ByteArray} {ts : List S32} {c : Int} (hG : GV w) (h : lex_Tokens.f s = some (ts, c)) (ht : c = 0 → Toks ts) : Calls Tryz.prog 46 #[.string s] w fun e w' => ∃ v, e = .returned (.tuple #[v, .int .i64 (parseP (ts, c)).2]) ∧ Vst w.heap.size w' (parseP (ts, c)).1 v ∧ Below w.heap.size w w' := by
  have HT := Aside0.mk ht
  have HG := Aside0.mk hG
  have HL := Aside0.mk h
  clear ht hG h
  go_enter Tryz.func46, Tryz.ntmps46
  go_upto_region 1 with (fail)
  have BR0 := Aside0.mk (new_blk (W := w) (.cells (celA z60 {}) 60 (0, 0)) rfl)
  have HB0 := Aside0.mk (below_alloc (Below.refl w.heap.size w) (.cells (celA z60 {}) 60 (0, 0)))
  have HGW := Aside0.mk (HG.out.below HB0.out)
  change Code.wp _ _ _ _ (w.alloc (.cells (celA z60 {}) 60 (0, 0)))
  generalize hrb : w.heap.size = rb at BR0 ⊢
  generalize hW : w.alloc (.cells (celA z60 {}) 60 (0, 0)) = W at BR0 HB0 HGW ⊢
  clear hW
  have hrW := blk_lt BR0.out
  have hwr : w.heap.size ≤ rb := by omega
  by_cases c0 : c = 0
  · subst c0
    have HTK := HT.out rfl
    have HTS := Aside0.mk HTK
    go_upto_region 4 with (first | (go_at_call 16; refine (lex_Tokens.calls s ts 0 W HL.out HGW.out).mono ?_; rintro e1 w1 ⟨v1, rfl, ho, hb⟩; have HO1 := Aside0.mk (Kd.N_reads (Kd.R_N ho)); have HB1 := Aside0.mk hb; clear ho hb))
    obtain ⟨A, cp, rfl, hcp, hC⟩ := HO1.out
    have HC := Aside0.mk hC
    clear hC HO1
    have BR1 := Aside0.mk ((HB1.out.block rb hrW).trans BR0.out)
    cases hrd : Ps.read KP ts with
    | none =>
      have HRD := Aside0.mk hrd
      clear hrd
      go_upto_block 0 with (first | (go_at_call 105; refine (read_out HC.out hcp HTS.out.ends (k := KP) (by have := HTS.out.len; unfold KP; omega) HTS.out.len).mono ?_; intro e2 w2 ho; rw [HRD.out] at ho; obtain ⟨hb, v2, rfl, a, rfl, hf⟩ := ho; have HB2 := Aside0.mk hb; have HF2 := Aside0.mk hf; clear hb hf; unfold celA cells60))
      have HB3 := Aside0.mk (below_step HB1.out (below_step HB2.out (below_alloc (Below.refl _ _) (.cells (celA z60 a) 60 (0, 0)))))
      change Code.wp _ _ _ _ (w2.alloc (.cells (celA z60 a) 60 (0, 0)))
      generalize hW3 : w2.alloc (.cells (celA z60 a) 60 (0, 0)) = w3 at HB3 ⊢
      clear hW3
      have BR3 := Aside0.mk ((HB3.out.block rb hrW).trans BR0.out)
      have hr3 := blk_lt BR3.out
      have rc0 : w3.cell? ⟨rb, 0, none⟩ = some (.int .i64 0) := (blk_cell BR3.out 0).trans rfl
      have rc1 : w3.cell? ⟨rb, 1, none⟩ = some (.string ⟨#[]⟩) := (blk_cell BR3.out 1).trans rfl
      have rc2 : w3.cell? ⟨rb, 2, none⟩ = some (.slice none 0 0) := (blk_cell BR3.out 2).trans rfl
      have rc3 : w3.cell? ⟨rb, 3, none⟩ = some (.string ⟨#[]⟩) := (blk_cell BR3.out 3).trans rfl
      have rc4 : w3.cell? ⟨rb, 4, none⟩ = some (.slice none 0 0) := (blk_cell BR3.out 4).trans rfl
      have rc5 : w3.cell? ⟨rb, 5, none⟩ = some (.slice none 0 0) := (blk_cell BR3.out 5).trans rfl
      have rc6 : w3.cell? ⟨rb, 6, none⟩ = some (.slice none 0 0) := (blk_cell BR3.out 6).trans rfl
      have rc7 : w3.cell? ⟨rb, 7, none⟩ = some (.slice none 0 0) := (blk_cell BR3.out 7).trans rfl
      have rc8 : w3.cell? ⟨rb, 8, none⟩ = some (.string ⟨#[]⟩) := (blk_cell BR3.out 8).trans rfl
      have rc9 : w3.cell? ⟨rb, 9, none⟩ = some (.bool false) := (blk_cell BR3.out 9).trans rfl
      have rc10 : w3.cell? ⟨rb, 10, none⟩ = some (.int .i64 0) := (blk_cell BR3.out 10).trans rfl
      have rz0 := blk_frozen BR3.out 0
      have rz1 := blk_frozen BR3.out 1
      have rz2 := blk_frozen BR3.out 2
      have rz3 := blk_frozen BR3.out 3
      have rz4 := blk_frozen BR3.out 4
      have rz5 := blk_frozen BR3.out 5
      have rz6 := blk_frozen BR3.out 6
      have rz7 := blk_frozen BR3.out 7
      have rz8 := blk_frozen BR3.out 8
      have rz9 := blk_frozen BR3.out 9
      have rz10 := blk_frozen BR3.out 10
      go_wp2
      refine bodyPost_ret (res46 (x := z60) (a := {}) (fillR_s BR3.out _ _ _ _ _ _ _ _ _ _ _) rfl rfl) rfl ?_
      have hp : parseP (ts, 0) = (z60, 20) := by unfold parseP parseA; rw [if_pos rfl, HRD.out]
      rw [hp]
      exact ⟨_, rfl, vst_zero _ _, fillR_b (below_step HB0.out HB3.out) hwr _ _ _ _ _ _ _ _ _ _ _⟩
    | some x =>
      have HGD := Aside0.mk (read_good hrd HTS.out.short)
      have HMD := Aside0.mk (HGD.out.mod (by unfold KP; omega))
      have HNM := Aside0.mk HGD.out.names
      have HRD := Aside0.mk hrd
      clear hrd
      go_upto_block 0 with (first | (go_at_call 105; refine (read_out HC.out hcp HTS.out.ends (k := KP) (by have := HTS.out.len; unfold KP; omega) HTS.out.len).mono ?_; intro e2 w2 ho; rw [HRD.out] at ho; obtain ⟨hb, v2, rfl, a, rfl, hf⟩ := ho; have HB2 := Aside0.mk hb; have HF2 := Aside0.mk hf; clear hb hf; unfold celA cells60))
      have HB3 := Aside0.mk (below_step HB1.out (below_step HB2.out (below_alloc (Below.refl _ _) (.cells (celA x a) 60 (0, 0)))))
      have BS3 := Aside0.mk (new_blk (W := w2) (.cells (celA x a) 60 (0, 0)) rfl)
      have hw1 := HB1.out.size
      have HF3 : Aside0 (StA (fun q => rb < q) (w2.alloc (.cells (celA x a) 60 (0, 0))) x a) := ⟨StF.mono (ok := fun q => w1.heap.size ≤ q) ⟨HF2.out.l2, Kd.F_alloc HF2.out.f2 _, HF2.out.l4, Kd.F_alloc HF2.out.f4 _, HF2.out.l5, Kd.F_alloc HF2.out.f5 _, HF2.out.l6, Kd.F_alloc HF2.out.f6 _, HF2.out.l7, Kd.F_alloc HF2.out.f7 _⟩ (fun q hq => by have h1 : w1.heap.size ≤ q := hq; omega)⟩
      change Code.wp _ _ _ _ (w2.alloc (.cells (celA x a) 60 (0, 0)))
      generalize hsb : w2.heap.size = sb at BS3 ⊢
      generalize hW3 : w2.alloc (.cells (celA x a) 60 (0, 0)) = w3 at HB3 BS3 HF3 ⊢
      clear hW3 hw1
      have BR3 := Aside0.mk ((HB3.out.block rb hrW).trans BR0.out)
      have hr3 := blk_lt BR3.out
      have hs3 := blk_lt BS3.out
      have hsr : rb < sb := by have := HB1.out.size; have := HB2.out.size; omega
      clear hsb
      have hne : rb ≠ sb := by omega
      have hne' : sb ≠ rb := by omega
      have HFT := Aside0.mk (StF.mono HF3.out (fun _ _ => trivial) : StA (fun _ => True) w3 x a)
      have sc0 : w3.cell? ⟨sb, 0, none⟩ = some (.int .i64 x.f0) := (blk_cell BS3.out 0).trans rfl
      have sc1 : w3.cell? ⟨sb, 1, none⟩ = some (.string x.f1) := (blk_cell BS3.out 1).trans rfl
      have sc2 : w3.cell? ⟨sb, 2, none⟩ = some (.slice a.a2 x.f2.length a.c2) := (blk_cell BS3.out 2).trans rfl
      have sc3 : w3.cell? ⟨sb, 3, none⟩ = some (.string x.f3) := (blk_cell BS3.out 3).trans rfl
      have sc4 : w3.cell? ⟨sb, 4, none⟩ = some (.slice a.a4 x.f4.length a.c4) := (blk_cell BS3.out 4).trans rfl
      have sc5 : w3.cell? ⟨sb, 5, none⟩ = some (.slice a.a5 x.f5.length a.c5) := (blk_cell BS3.out 5).trans rfl
      have sc6 : w3.cell? ⟨sb, 6, none⟩ = some (.slice a.a6 x.f6.length a.c6) := (blk_cell BS3.out 6).trans rfl
      have sc7 : w3.cell? ⟨sb, 7, none⟩ = some (.slice a.a7 x.f7.length a.c7) := (blk_cell BS3.out 7).trans rfl
      have sc8 : w3.cell? ⟨sb, 8, none⟩ = some (.string x.f8) := (blk_cell BS3.out 8).trans rfl
      have sc9 : w3.cell? ⟨sb, 9, none⟩ = some (.bool x.f9) := (blk_cell BS3.out 9).trans rfl
      have sc10 : w3.cell? ⟨sb, 10, none⟩ = some (.int .i64 x.f10) := (blk_cell BS3.out 10).trans rfl
      have hcel : celA x a = #[.int .i64 x.f0, .string x.f1, .slice a.a2 x.f2.length a.c2, .string x.f3, .slice a.a4 x.f4.length a.c4, .slice a.a5 x.f5.length a.c5, .slice a.a6 x.f6.length a.c6, .slice a.a7 x.f7.length a.c7, .string x.f8, .bool x.f9, .int .i64 x.f10] := rfl
      cases hlg : longB x with
      | true =>
        have HLG := Aside0.mk hlg
        clear hlg
        go_wp2_with (first | (go_at_call 106; refine (long_out (x := x) (a := a) HFT.out HMD.out).mono ?_; rintro e4 w4 ⟨rfl, hb⟩; have HB4 := Aside0.mk hb; clear hb; rw [HLG.out]; have BR4 := Aside0.mk ((HB4.out.block rb hr3).trans BR3.out); have hr4 := blk_lt BR4.out; have rc0 : w4.cell? ⟨rb, 0, none⟩ = some (.int .i64 0) := (blk_cell BR4.out 0).trans rfl; have rc1 : w4.cell? ⟨rb, 1, none⟩ = some (.string ⟨#[]⟩) := (blk_cell BR4.out 1).trans rfl; have rc2 : w4.cell? ⟨rb, 2, none⟩ = some (.slice none 0 0) := (blk_cell BR4.out 2).trans rfl; have rc3 : w4.cell? ⟨rb, 3, none⟩ = some (.string ⟨#[]⟩) := (blk_cell BR4.out 3).trans rfl; have rc4 : w4.cell? ⟨rb, 4, none⟩ = some (.slice none 0 0) := (blk_cell BR4.out 4).trans rfl; have rc5 : w4.cell? ⟨rb, 5, none⟩ = some (.slice none 0 0) := (blk_cell BR4.out 5).trans rfl; have rc6 : w4.cell? ⟨rb, 6, none⟩ = some (.slice none 0 0) := (blk_cell BR4.out 6).trans rfl; have rc7 : w4.cell? ⟨rb, 7, none⟩ = some (.slice none 0 0) := (blk_cell BR4.out 7).trans rfl; have rc8 : w4.cell? ⟨rb, 8, none⟩ = some (.string ⟨#[]⟩) := (blk_cell BR4.out 8).trans rfl; have rc9 : w4.cell? ⟨rb, 9, none⟩ = some (.bool false) := (blk_cell BR4.out 9).trans rfl; have rc10 : w4.cell? ⟨rb, 10, none⟩ = some (.int .i64 0) := (blk_cell BR4.out 10).trans rfl; have rz0 := blk_frozen BR4.out 0; have rz1 := blk_frozen BR4.out 1; have rz2 := blk_frozen BR4.out 2; have rz3 := blk_frozen BR4.out 3; have rz4 := blk_frozen BR4.out 4; have rz5 := blk_frozen BR4.out 5; have rz6 := blk_frozen BR4.out 6; have rz7 := blk_frozen BR4.out 7; have rz8 := blk_frozen BR4.out 8; have rz9 := blk_frozen BR4.out 9; have rz10 := blk_frozen BR4.out 10))
        refine bodyPost_ret (res46 (x := z60) (a := {}) (fillR_s BR4.out _ _ _ _ _ _ _ _ _ _ _) rfl rfl) rfl ?_
        have hp : parseP (ts, 0) = (z60, 28) := by unfold parseP parseA; rw [if_pos rfl, HRD.out]; simp only; rw [if_pos HLG.out]
        rw [hp]
        exact ⟨_, rfl, vst_zero _ _, fillR_b (below_step HB0.out (below_step HB3.out HB4.out)) hwr _ _ _ _ _ _ _ _ _ _ _⟩
      | false =>
        have HLG := Aside0.mk hlg
        clear hlg
        cases htw : twiceB x with
        | true =>
          have HTW := Aside0.mk htw
          clear htw
          go_wp2_with (first | (go_at_call 106; refine (long_out (x := x) (a := a) HFT.out HMD.out).mono ?_; rintro e4 w4 ⟨rfl, hb⟩; have HB4 := Aside0.mk hb; clear hb; rw [HLG.out]; have BR4 := Aside0.mk ((HB4.out.block rb hr3).trans BR3.out); have hr4 := blk_lt BR4.out; have BS4 := Aside0.mk ((HB4.out.block sb hs3).trans BS3.out); have hs4 := blk_lt BS4.out; have HFT4 := Aside0.mk (StF.below HFT.out HB4.out); have pc0 : w4.cell? ⟨sb, 0, none⟩ = some (.int .i64 x.f0) := (blk_cell BS4.out 0).trans rfl; have pc1 : w4.cell? ⟨sb, 1, none⟩ = some (.string x.f1) := (blk_cell BS4.out 1).trans rfl; have pc2 : w4.cell? ⟨sb, 2, none⟩ = some (.slice a.a2 x.f2.length a.c2) := (blk_cell BS4.out 2).trans rfl; have pc3 : w4.cell? ⟨sb, 3, none⟩ = some (.string x.f3) := (blk_cell BS4.out 3).trans rfl; have pc4 : w4.cell? ⟨sb, 4, none⟩ = some (.slice a.a4 x.f4.length a.c4) := (blk_cell BS4.out 4).trans rfl; have pc5 : w4.cell? ⟨sb, 5, none⟩ = some (.slice a.a5 x.f5.length a.c5) := (blk_cell BS4.out 5).trans rfl; have pc6 : w4.cell? ⟨sb, 6, none⟩ = some (.slice a.a6 x.f6.length a.c6) := (blk_cell BS4.out 6).trans rfl; have pc7 : w4.cell? ⟨sb, 7, none⟩ = some (.slice a.a7 x.f7.length a.c7) := (blk_cell BS4.out 7).trans rfl; have pc8 : w4.cell? ⟨sb, 8, none⟩ = some (.string x.f8) := (blk_cell BS4.out 8).trans rfl; have pc9 : w4.cell? ⟨sb, 9, none⟩ = some (.bool x.f9) := (blk_cell BS4.out 9).trans rfl; have pc10 : w4.cell? ⟨sb, 10, none⟩ = some (.int .i64 x.f10) := (blk_cell BS4.out 10).trans rfl) | (go_at_call 107; refine (twice_out (x := x) (a := a) HFT4.out HMD.out HNM.out).mono ?_; rintro e5 w5 ⟨rfl, hb⟩; have HB5 := Aside0.mk hb; clear hb; rw [HTW.out]; have BR5 := Aside0.mk ((HB5.out.block rb hr4).trans BR4.out); have hr5 := blk_lt BR5.out; have BS5 := Aside0.mk ((HB5.out.block sb hs4).trans BS4.out); have hs5 := blk_lt BS5.out; have rc0 : w5.cell? ⟨rb, 0, none⟩ = some (.int .i64 0) := (blk_cell BR5.out 0).trans rfl; have rc1 : w5.cell? ⟨rb, 1, none⟩ = some (.string ⟨#[]⟩) := (blk_cell BR5.out 1).trans rfl; have rc2 : w5.cell? ⟨rb, 2, none⟩ = some (.slice none 0 0) := (blk_cell BR5.out 2).trans rfl; have rc3 : w5.cell? ⟨rb, 3, none⟩ = some (.string ⟨#[]⟩) := (blk_cell BR5.out 3).trans rfl; have rc4 : w5.cell? ⟨rb, 4, none⟩ = some (.slice none 0 0) := (blk_cell BR5.out 4).trans rfl; have rc5 : w5.cell? ⟨rb, 5, none⟩ = some (.slice none 0 0) := (blk_cell BR5.out 5).trans rfl; have rc6 : w5.cell? ⟨rb, 6, none⟩ = some (.slice none 0 0) := (blk_cell BR5.out 6).trans rfl; have rc7 : w5.cell? ⟨rb, 7, none⟩ = some (.slice none 0 0) := (blk_cell BR5.out 7).trans rfl; have rc8 : w5.cell? ⟨rb, 8, none⟩ = some (.string ⟨#[]⟩) := (blk_cell BR5.out 8).trans rfl; have rc9 : w5.cell? ⟨rb, 9, none⟩ = some (.bool false) := (blk_cell BR5.out 9).trans rfl; have rc10 : w5.cell? ⟨rb, 10, none⟩ = some (.int .i64 0) := (blk_cell BR5.out 10).trans rfl; have rz0 := blk_frozen BR5.out 0; have rz1 := blk_frozen BR5.out 1; have rz2 := blk_frozen BR5.out 2; have rz3 := blk_frozen BR5.out 3; have rz4 := blk_frozen BR5.out 4; have rz5 := blk_frozen BR5.out 5; have rz6 := blk_frozen BR5.out 6; have rz7 := blk_frozen BR5.out 7; have rz8 := blk_frozen BR5.out 8; have rz9 := blk_frozen BR5.out 9; have rz10 := blk_frozen BR5.out 10; have uc0 : w5.cell? ⟨sb, 0, none⟩ = some (.int .i64 x.f0) := (blk_cell BS5.out 0).trans rfl; have uc1 : w5.cell? ⟨sb, 1, none⟩ = some (.string x.f1) := (blk_cell BS5.out 1).trans rfl; have uc2 : w5.cell? ⟨sb, 2, none⟩ = some (.slice a.a2 x.f2.length a.c2) := (blk_cell BS5.out 2).trans rfl; have uc3 : w5.cell? ⟨sb, 3, none⟩ = some (.string x.f3) := (blk_cell BS5.out 3).trans rfl; have uc4 : w5.cell? ⟨sb, 4, none⟩ = some (.slice a.a4 x.f4.length a.c4) := (blk_cell BS5.out 4).trans rfl; have uc5 : w5.cell? ⟨sb, 5, none⟩ = some (.slice a.a5 x.f5.length a.c5) := (blk_cell BS5.out 5).trans rfl; have uc6 : w5.cell? ⟨sb, 6, none⟩ = some (.slice a.a6 x.f6.length a.c6) := (blk_cell BS5.out 6).trans rfl; have uc7 : w5.cell? ⟨sb, 7, none⟩ = some (.slice a.a7 x.f7.length a.c7) := (blk_cell BS5.out 7).trans rfl; have uc8 : w5.cell? ⟨sb, 8, none⟩ = some (.string x.f8) := (blk_cell BS5.out 8).trans rfl; have uc9 : w5.cell? ⟨sb, 9, none⟩ = some (.bool x.f9) := (blk_cell BS5.out 9).trans rfl; have uc10 : w5.cell? ⟨sb, 10, none⟩ = some (.int .i64 x.f10) := (blk_cell BS5.out 10).trans rfl))
          refine bodyPost_ret (res46 (x := z60) (a := {}) (fillR_s BR5.out _ _ _ _ _ _ _ _ _ _ _) rfl rfl) rfl ?_
          have hp : parseP (ts, 0) = (z60, 21) := by unfold parseP parseA; rw [if_pos rfl, HRD.out]; simp only; rw [if_neg (by rw [HLG.out]; decide), if_pos HTW.out]
          rw [hp]
          exact ⟨_, rfl, vst_zero _ _, fillR_b (below_step HB0.out (below_step HB3.out (below_step HB4.out HB5.out))) hwr _ _ _ _ _ _ _ _ _ _ _⟩
        | false =>
          have HTW := Aside0.mk htw
          clear htw
          go_wp2_with (first | (go_at_call 106; refine (long_out (x := x) (a := a) HFT.out HMD.out).mono ?_; rintro e4 w4 ⟨rfl, hb⟩; have HB4 := Aside0.mk hb; clear hb; rw [HLG.out]; have BR4 := Aside0.mk ((HB4.out.block rb hr3).trans BR3.out); have hr4 := blk_lt BR4.out; have BS4 := Aside0.mk ((HB4.out.block sb hs3).trans BS3.out); have hs4 := blk_lt BS4.out; have HFT4 := Aside0.mk (StF.below HFT.out HB4.out); have pc0 : w4.cell? ⟨sb, 0, none⟩ = some (.int .i64 x.f0) := (blk_cell BS4.out 0).trans rfl; have pc1 : w4.cell? ⟨sb, 1, none⟩ = some (.string x.f1) := (blk_cell BS4.out 1).trans rfl; have pc2 : w4.cell? ⟨sb, 2, none⟩ = some (.slice a.a2 x.f2.length a.c2) := (blk_cell BS4.out 2).trans rfl; have pc3 : w4.cell? ⟨sb, 3, none⟩ = some (.string x.f3) := (blk_cell BS4.out 3).trans rfl; have pc4 : w4.cell? ⟨sb, 4, none⟩ = some (.slice a.a4 x.f4.length a.c4) := (blk_cell BS4.out 4).trans rfl; have pc5 : w4.cell? ⟨sb, 5, none⟩ = some (.slice a.a5 x.f5.length a.c5) := (blk_cell BS4.out 5).trans rfl; have pc6 : w4.cell? ⟨sb, 6, none⟩ = some (.slice a.a6 x.f6.length a.c6) := (blk_cell BS4.out 6).trans rfl; have pc7 : w4.cell? ⟨sb, 7, none⟩ = some (.slice a.a7 x.f7.length a.c7) := (blk_cell BS4.out 7).trans rfl; have pc8 : w4.cell? ⟨sb, 8, none⟩ = some (.string x.f8) := (blk_cell BS4.out 8).trans rfl; have pc9 : w4.cell? ⟨sb, 9, none⟩ = some (.bool x.f9) := (blk_cell BS4.out 9).trans rfl; have pc10 : w4.cell? ⟨sb, 10, none⟩ = some (.int .i64 x.f10) := (blk_cell BS4.out 10).trans rfl) | (go_at_call 107; refine (twice_out (x := x) (a := a) HFT4.out HMD.out HNM.out).mono ?_; rintro e5 w5 ⟨rfl, hb⟩; have HB5 := Aside0.mk hb; clear hb; rw [HTW.out]; have BR5 := Aside0.mk ((HB5.out.block rb hr4).trans BR4.out); have hr5 := blk_lt BR5.out; have BS5 := Aside0.mk ((HB5.out.block sb hs4).trans BS4.out); have hs5 := blk_lt BS5.out; have rc0 : w5.cell? ⟨rb, 0, none⟩ = some (.int .i64 0) := (blk_cell BR5.out 0).trans rfl; have rc1 : w5.cell? ⟨rb, 1, none⟩ = some (.string ⟨#[]⟩) := (blk_cell BR5.out 1).trans rfl; have rc2 : w5.cell? ⟨rb, 2, none⟩ = some (.slice none 0 0) := (blk_cell BR5.out 2).trans rfl; have rc3 : w5.cell? ⟨rb, 3, none⟩ = some (.string ⟨#[]⟩) := (blk_cell BR5.out 3).trans rfl; have rc4 : w5.cell? ⟨rb, 4, none⟩ = some (.slice none 0 0) := (blk_cell BR5.out 4).trans rfl; have rc5 : w5.cell? ⟨rb, 5, none⟩ = some (.slice none 0 0) := (blk_cell BR5.out 5).trans rfl; have rc6 : w5.cell? ⟨rb, 6, none⟩ = some (.slice none 0 0) := (blk_cell BR5.out 6).trans rfl; have rc7 : w5.cell? ⟨rb, 7, none⟩ = some (.slice none 0 0) := (blk_cell BR5.out 7).trans rfl; have rc8 : w5.cell? ⟨rb, 8, none⟩ = some (.string ⟨#[]⟩) := (blk_cell BR5.out 8).trans rfl; have rc9 : w5.cell? ⟨rb, 9, none⟩ = some (.bool false) := (blk_cell BR5.out 9).trans rfl; have rc10 : w5.cell? ⟨rb, 10, none⟩ = some (.int .i64 0) := (blk_cell BR5.out 10).trans rfl; have rz0 := blk_frozen BR5.out 0; have rz1 := blk_frozen BR5.out 1; have rz2 := blk_frozen BR5.out 2; have rz3 := blk_frozen BR5.out 3; have rz4 := blk_frozen BR5.out 4; have rz5 := blk_frozen BR5.out 5; have rz6 := blk_frozen BR5.out 6; have rz7 := blk_frozen BR5.out 7; have rz8 := blk_frozen BR5.out 8; have rz9 := blk_frozen BR5.out 9; have rz10 := blk_frozen BR5.out 10; have uc0 : w5.cell? ⟨sb, 0, none⟩ = some (.int .i64 x.f0) := (blk_cell BS5.out 0).trans rfl; have uc1 : w5.cell? ⟨sb, 1, none⟩ = some (.string x.f1) := (blk_cell BS5.out 1).trans rfl; have uc2 : w5.cell? ⟨sb, 2, none⟩ = some (.slice a.a2 x.f2.length a.c2) := (blk_cell BS5.out 2).trans rfl; have uc3 : w5.cell? ⟨sb, 3, none⟩ = some (.string x.f3) := (blk_cell BS5.out 3).trans rfl; have uc4 : w5.cell? ⟨sb, 4, none⟩ = some (.slice a.a4 x.f4.length a.c4) := (blk_cell BS5.out 4).trans rfl; have uc5 : w5.cell? ⟨sb, 5, none⟩ = some (.slice a.a5 x.f5.length a.c5) := (blk_cell BS5.out 5).trans rfl; have uc6 : w5.cell? ⟨sb, 6, none⟩ = some (.slice a.a6 x.f6.length a.c6) := (blk_cell BS5.out 6).trans rfl; have uc7 : w5.cell? ⟨sb, 7, none⟩ = some (.slice a.a7 x.f7.length a.c7) := (blk_cell BS5.out 7).trans rfl; have uc8 : w5.cell? ⟨sb, 8, none⟩ = some (.string x.f8) := (blk_cell BS5.out 8).trans rfl; have uc9 : w5.cell? ⟨sb, 9, none⟩ = some (.bool x.f9) := (blk_cell BS5.out 9).trans rfl; have uc10 : w5.cell? ⟨sb, 10, none⟩ = some (.int .i64 x.f10) := (blk_cell BS5.out 10).trans rfl))
          refine bodyPost_ret (res46 (x := x) (a := a) (fillR_s BR5.out _ _ _ _ _ _ _ _ _ _ _) rfl rfl) rfl ?_
          have hp : parseP (ts, 0) = (x, 0) := by unfold parseP parseA; rw [if_pos rfl, HRD.out]; simp only; rw [if_neg (by rw [HLG.out]; decide), if_neg (by rw [HTW.out]; decide)]
          rw [hp]
          refine ⟨_, rfl, ⟨a, rfl, ?_⟩, fillR_b (below_step HB0.out (below_step HB3.out (below_step HB4.out HB5.out))) hwr _ _ _ _ _ _ _ _ _ _ _⟩
          have hf5 : StA (fun q => rb + 1 ≤ q) w5 x a := StF.below (StF.below (StF.mono HF3.out (fun q hq => by have h1 : rb < q := hq; omega)) HB4.out) HB5.out
          exact StF.mono (fillR_f hf5 (Nat.lt_succ_self _) _ _ _ _ _ _ _ _ _ _ _) (fun q hq => by have h1 : rb + 1 ≤ q := hq; omega)
  · have b0 : (c != 0) = true := bne_iff_ne.mpr c0
    go_wp2_with (first | (go_at_call 16; refine (lex_Tokens.calls s ts c W HL.out HGW.out).mono ?_; rintro e1 w1 ⟨v1, rfl, ho, hb⟩; have HB1 := Aside0.mk hb; clear ho hb; have BR1 := Aside0.mk ((HB1.out.block rb hrW).trans BR0.out); have hr1 := blk_lt BR1.out; have rc0 : w1.cell? ⟨rb, 0, none⟩ = some (.int .i64 0) := (blk_cell BR1.out 0).trans rfl; have rc1 : w1.cell? ⟨rb, 1, none⟩ = some (.string ⟨#[]⟩) := (blk_cell BR1.out 1).trans rfl; have rc2 : w1.cell? ⟨rb, 2, none⟩ = some (.slice none 0 0) := (blk_cell BR1.out 2).trans rfl; have rc3 : w1.cell? ⟨rb, 3, none⟩ = some (.string ⟨#[]⟩) := (blk_cell BR1.out 3).trans rfl; have rc4 : w1.cell? ⟨rb, 4, none⟩ = some (.slice none 0 0) := (blk_cell BR1.out 4).trans rfl; have rc5 : w1.cell? ⟨rb, 5, none⟩ = some (.slice none 0 0) := (blk_cell BR1.out 5).trans rfl; have rc6 : w1.cell? ⟨rb, 6, none⟩ = some (.slice none 0 0) := (blk_cell BR1.out 6).trans rfl; have rc7 : w1.cell? ⟨rb, 7, none⟩ = some (.slice none 0 0) := (blk_cell BR1.out 7).trans rfl; have rc8 : w1.cell? ⟨rb, 8, none⟩ = some (.string ⟨#[]⟩) := (blk_cell BR1.out 8).trans rfl; have rc9 : w1.cell? ⟨rb, 9, none⟩ = some (.bool false) := (blk_cell BR1.out 9).trans rfl; have rc10 : w1.cell? ⟨rb, 10, none⟩ = some (.int .i64 0) := (blk_cell BR1.out 10).trans rfl; have rz0 := blk_frozen BR1.out 0; have rz1 := blk_frozen BR1.out 1; have rz2 := blk_frozen BR1.out 2; have rz3 := blk_frozen BR1.out 3; have rz4 := blk_frozen BR1.out 4; have rz5 := blk_frozen BR1.out 5; have rz6 := blk_frozen BR1.out 6; have rz7 := blk_frozen BR1.out 7; have rz8 := blk_frozen BR1.out 8; have rz9 := blk_frozen BR1.out 9; have rz10 := blk_frozen BR1.out 10))
    refine bodyPost_ret (res46 (x := z60) (a := {}) (fillR_s BR1.out _ _ _ _ _ _ _ _ _ _ _) rfl rfl) rfl ?_
    have hp : parseP (ts, c) = (z60, c) := by unfold parseP; rw [if_neg c0]
    rw [hp]
    exact ⟨_, rfl, vst_zero _ _, fillR_b (below_step HB0.out HB1.out) hwr _ _ _ _ _ _ _ _ _ _ _⟩
end Go.Proofs.YtcgdncpioafbdaaGreatDoor.Q
/- The lexer's tokens are as the parser wants them: an End stands last, they are few, their texts are short. -/
namespace Go.Proofs.YtcgdncpioafbdaaGreatDoor.Q
open Go Go.RowKit Go.Proofs.YtcgdncpioafbdaaGreatDoorW.PrintWords
theorem good_short {t : Lx.Tk} (h : Lx.Good t) : t.s.length ≤ 1000 := by
  rcases h with h | h | h | h
  · have := h.len; omega
  · have := h.s; rw [this]; simp
  · have := h.len; omega
  · rcases h.s with h | ⟨c, _, h⟩
    · have : ∀ x ∈ Lx.twos, x.length ≤ 1000 := by decide +kernel
      exact this _ h
    · rw [h]; simp
theorem toks_few : ∀ (n : Nat) (l : List UInt8) (ts : List Lx.Tk), l.length ≤ n → Lx.toks l = .ok ts → ts.length ≤ l.length ∧ ∀ t ∈ ts, Lx.Good t := by
  intro n
  induction n with
  | zero =>
    intro l ts hl h
    have h0 : l = [] := List.length_eq_zero_iff.1 (by omega)
    subst h0
    rw [Lx.toks_nil (by rfl)] at h
    cases h
    exact ⟨Nat.le_refl _, by simp⟩
  | succ n ih =>
    intro l ts hl h
    cases hs : Lx.skipA false l with
    | nil =>
      rw [Lx.toks_nil hs] at h
      cases h
      exact ⟨Nat.zero_le _, by simp⟩
    | cons c r =>
      have hle := Lx.skipA_le false l
      rw [hs] at hle
      cases ht : Lx.tokA (c :: r) with
      | error e => rw [Lx.toks_err hs ht] at h; cases h
      | ok p =>
        obtain ⟨t, m⟩ := p
        rw [Lx.toks_ok hs ht] at h
        have h1 := Lx.tokA_le ht
        cases hr : Lx.toks ((c :: r).drop m) with
        | error e => rw [hr] at h; cases h
        | ok us =>
          rw [hr] at h
          cases h
          obtain ⟨g1, g2⟩ := ih _ us (by rw [List.length_drop]; omega) hr
          rw [List.length_drop] at g1
          refine ⟨by simp only [List.length_cons] at *; omega, fun u hu => ?_⟩
          rcases List.mem_cons.1 hu with rfl | hu
          · exact (Lx.tokA_good ht).1
          · exact g2 u hu
theorem toks_ne0 : ∀ (n : Nat) (l : List UInt8), l.length ≤ n → Lx.toks l ≠ .error 0 := by
  intro n
  induction n with
  | zero =>
    intro l hl h
    have h0 : l = [] := List.length_eq_zero_iff.1 (by omega)
    subst h0
    rw [Lx.toks_nil (by rfl)] at h
    cases h
  | succ n ih =>
    intro l hl h
    cases hs : Lx.skipA false l with
    | nil => rw [Lx.toks_nil hs] at h; cases h
    | cons c r =>
      have hle := Lx.skipA_le false l
      rw [hs] at hle
      cases ht : Lx.tokA (c :: r) with
      | error e => rw [Lx.toks_err hs ht] at h; cases h; exact tokA_err ht rfl
      | ok p =>
        obtain ⟨t, m⟩ := p
        rw [Lx.toks_ok hs ht] at h
        have h1 := Lx.tokA_le ht
        cases hr : Lx.toks ((c :: r).drop m) with
        | error e => rw [hr] at h; cases h; exact ih _ (by rw [List.length_drop]; omega) hr
        | ok us => rw [hr] at h; cases h
theorem tok_toks {s : ByteArray} {ts : List S32} {c : Int} (h : lex_Tokens.f s = some (ts, c)) (hc : c = 0) : Toks ts := by
  subst hc
  unfold lex_Tokens.f tokF at h
  cases hl : Lx.lexA s.data.toList with
  | error e =>
    rw [hl] at h
    simp only [Option.some.injEq, Prod.mk.injEq] at h
    obtain ⟨rfl, h⟩ := h
    have he : e = 0 := by omega
    subst he
    rw [Lx.lexA_toks] at hl
    split at hl
    · cases hl
    · exact absurd hl (toks_ne0 _ _ (Nat.le_refl _))
  | ok us =>
    rw [hl] at h
    simp only [Option.some.injEq, Prod.mk.injEq] at h
    obtain ⟨rfl, _⟩ := h
    rw [Lx.lexA_toks] at hl
    split at hl
    · cases hl
    · rename_i hlen
      obtain ⟨g1, g2⟩ := toks_few _ _ us (Nat.le_refl _) hl
      refine ⟨⟨us.map tk32, z32, rfl, rfl⟩, by simp; omega, fun t ht => ?_⟩
      rcases List.mem_append.1 ht with ht | ht
      · obtain ⟨u, hu, rfl⟩ := List.mem_map.1 ht
        show (ba u.s).size ≤ 100000
        rw [ba_size]
        have := good_short (g2 u hu)
        omega
      · rw [List.mem_singleton.1 ht]
        show (0 : Nat) ≤ 100000
        omega
/-- What Parse answers, of a text. -/
def parseS (s : ByteArray) : S60 × Int := match tokF s with
  | none => (z60, 0)
  | some p => parseP p
/-- Parse, of any text. -/
theorem parse_calls {w : World} (s : ByteArray) (hG : GV w) : Calls Tryz.prog 46 #[.string s] w fun e w' => ∃ v, e = .returned (.tuple #[v, .int .i64 (parseS s).2]) ∧ Vst w.heap.size w' (parseS s).1 v ∧ Below w.heap.size w w' := by
  cases h : tokF s with
  | none =>
    unfold tokF at h
    cases hl : Lx.lexA s.data.toList with
    | error e => rw [hl] at h; cases h
    | ok us => rw [hl] at h; cases h
  | some p =>
    obtain ⟨ts, c⟩ := p
    have e : parseS s = parseP (ts, c) := by unfold parseS; rw [h]
    rw [e]
    exact parse_out hG h (fun hc => tok_toks h hc)
end Go.Proofs.YtcgdncpioafbdaaGreatDoor.Q
/- The document's comparison of expressions, at two that read alike. -/
namespace Go.Proofs.YtcgdncpioafbdaaGreatDoor.Q
open Go Go.RowKit Go.Proofs.YtcgdncpioafbdaaGreatDoorW.PrintWords Go.Proofs.YtcgdncpioafbdaaGreatDoorW.PrintLast Go.Proofs.YtcgdncpioafbdaaGreatDoorW.PrintMore
theorem eqA40 (d : Nat) (w : World) (x0 y0 x1 y1 : Int) (x2 y2 : ByteArray) :
    (Op.equalIn (d + 2) 40 (.agg #[.int .i64 x0, .int .i64 x1, .string x2]) (.agg #[.int .i64 y0, .int .i64 y1, .string y2])).run Tryz.prog w = .ok (x0 == y0 && (x1 == y1 && (x2.toList == y2.toList))) w := by
  refine eqA_of Tryz.underlying40 (by kernel_rfl) ?_
  refine eqf_cons (by rfl) (by go_simp; rfl) (by go_simp; rfl) (by go_simp) ?_
  refine eqf_cons (by rfl) (by go_simp; rfl) (by go_simp; rfl) (by go_simp) ?_
  exact eqf_last (by rfl) (by go_simp; rfl) (by go_simp; rfl) (by go_simp)
theorem eqA128 (d : Nat) (w : World) (x0 y0 : ByteArray) (x1 y1 : Int) (x2 y2 : Int) :
    (Op.equalIn (d + 2) 128 (.agg #[.string x0, .int .i64 x1, .int .i64 x2]) (.agg #[.string y0, .int .i64 y1, .int .i64 y2])).run Tryz.prog w = .ok (x0.toList == y0.toList && (x1 == y1 && (x2 == y2))) w := by
  refine eqA_of Tryz.underlying128 (by kernel_rfl) ?_
  refine eqf_cons (by rfl) (by go_simp; rfl) (by go_simp; rfl) (by go_simp) ?_
  refine eqf_cons (by rfl) (by go_simp; rfl) (by go_simp; rfl) (by go_simp) ?_
  exact eqf_last (by rfl) (by go_simp; rfl) (by go_simp; rfl) (by go_simp)
attribute [local go_sem high] eqA40 eqA128
theorem fus_mem2 {x : S43} : ∀ {l : List S43}, x ∈ l → fu x + 1 ≤ fus l
  | y :: l, h => by
    unfold fus
    rcases List.mem_cons.1 h with rfl | h
    · omega
    · have := fus_mem2 h
      omega
theorem fus_pos (l : List S43) : 1 ≤ fus l := by
  cases l with
  | nil => simp [fus]
  | cons x l => unfold fus; omega
end Go.Proofs.YtcgdncpioafbdaaGreatDoor.Q
/- Text of an expression: the program's and the document's are the plain one. -/
namespace Go.Proofs.YtcgdncpioafbdaaGreatDoor.Q
open Go Go.RowKit Go.Proofs.YtcgdncpioafbdaaGreatDoorW.PrintWords Go.Proofs.YtcgdncpioafbdaaGreatDoorW.PrintLast Go.Proofs.YtcgdncpioafbdaaGreatDoorW.PrintMore
/-- A call of a closure whose function is known. -/
theorem goesC_ {P : Program} {ops : Array Oper} {Q : Exit → Act → World → Prop} {oi : Oper} {N : Option Tmp} {a : Act} {w : World} {K : Act → World → Prop} {f : FuncId} {fn : Func} {y : Operand} {oa : Array Operand} {ts : Array TypeId} (hf : P.funcs[f]? = some fn) (hname : (fn.name == "runtime.NumGoroutine") = false) (hb : fn.body.isSome = true) (caps args : Array Value)
    (hw : Region.wanted oi (yielded ops a.tmps) = true) (hN : oi.dst = N) (hop : oi.op = .call { callee := .value y, args := oa, argTypes := ts }) (hx : a.eval y = .func (.func f) #[] caps) (hargs : oa.map a.eval ++ caps = args)
    (h : Calls P f args w fun e w' => ∃ v, e = .returned v ∧ K (a.put N v) w') : if Region.wanted oi (yielded ops a.tmps) = true then Oper.wp P oi a w K Q else K (a.put N undef) w := by
  refine call_ f args hw hN ?_ h
  have he := enters_ hf hname hb args w
  unfold execOp
  simp [hop, resolve, Deferred.ofValue, invoke, hx, hargs, he]
def TextAt (n : Nat) : Prop := ∀ (x : S43) (w : World) (A : Option Addr) (c : Nat), fu x ≤ n → TG x → (txt x).size ≤ 1000000000 → GV w → x.f3.length ≤ c → Kd.C k43 w A x.f3.length x.f3 → Calls Tryz.prog 41 #[.agg (cells43 x A c).toArray] w fun e w' => e = .returned (.string (txt x)) ∧ Below w.heap.size w w'
def InAt (n : Nat) : Prop := ∀ (x : S43) (w : World) (A : Option Addr) (c b : Nat) (iv : Int) (i : Nat), iv = (i : Int) → i < 2 → fus x.f3 ≤ n → TGs x.f3 → (inn x.f3 i).size ≤ 1000000000 → GV w → x.f3.length ≤ c → Kd.C k43 w A x.f3.length x.f3 → w.heap[b]? = some (.cells (cells43 x A c).toArray 43 (0, 0)) → Calls Tryz.prog 100 #[.int .i64 iv, .pointer (some ⟨b, 0, none⟩)] w fun e w' => e = .returned (.string (inn x.f3 i)) ∧ Below w.heap.size w w'
set_option maxHeartbeats 1000000 in
set_option maxRecDepth 100000 in
theorem in_step (n : Nat) (ih : TextAt n) : InAt (n + 1) := by
  intro x w A c b iv i hiv hi2 hx hT hz hG hc hC hB
  subst hiv
  have HC := Aside0.mk hC
  have HX := Aside0.mk hx
  have HT := Aside0.mk hT
  have HZ := Aside0.mk hz
  have HG := Aside0.mk hG
  have BK := Aside0.mk (show w.heap[b]? = some (.cells #[.string x.f0, .int .i64 x.f1.f0, .int .i64 x.f1.f1, .string x.f1.f2, .string x.f2, .slice A x.f3.length c] 43 (0, 0)) from hB)
  have cc0 : w.cell? ⟨b, 0, none⟩ = some (.string x.f0) := (blk_cell BK.out 0).trans rfl
  have cc1 : w.cell? ⟨b, 1, none⟩ = some (.int .i64 x.f1.f0) := (blk_cell BK.out 1).trans rfl
  have cc2 : w.cell? ⟨b, 2, none⟩ = some (.int .i64 x.f1.f1) := (blk_cell BK.out 2).trans rfl
  have cc3 : w.cell? ⟨b, 3, none⟩ = some (.string x.f1.f2) := (blk_cell BK.out 3).trans rfl
  have cc4 : w.cell? ⟨b, 4, none⟩ = some (.string x.f2) := (blk_cell BK.out 4).trans rfl
  have cc5 : w.cell? ⟨b, 5, none⟩ = some (.slice A x.f3.length c) := (blk_cell BK.out 5).trans rfl
  have hb := blk_lt BK.out
  clear hC hx hT hz hG hB
  by_cases hi : i < x.f3.length
  · have d0 : decide ((i : Int) < (x.f3.length : Int)) = true := decide_eq_true (by omega)
    have d1 : decide (i < x.f3.length) = true := decide_eq_true hi
    have p1 : 0 ≤ (i : Int) := by omega
    have q1 : (i : Int) < (x.f3.length : Int) := by omega
    obtain ⟨ad, A5, c5, e5, x0, x1, x2, x3, x4, x5, hl5, hi5⟩ := at_T43 HC.out (i : Int) p1 q1
    cases e5
    have hrd : rd_T43 x.f3 (i : Int) = x.f3[i] := by
      unfold rd_T43
      rw [Int.toNat_natCast, List.getD_eq_getElem?_getD, List.getElem?_eq_getElem hi]
      rfl
    have HI := Aside0.mk (inn_some hi)
    obtain ⟨y, hy⟩ : ∃ y, x.f3[i] = y := ⟨_, rfl⟩
    have HY := Aside0.mk hy
    rw [hrd, hy] at x0 x1 x2 x3 x4 x5 hl5 hi5
    simp only [Int.toNat_natCast] at x0 x1 x2 x3 x4 x5
    have hym : y ∈ x.f3 := by rw [← hy]; exact List.getElem_mem _
    have HFX := Aside0.mk (show fu y ≤ n by have h1 := fus_mem2 hym; have := HX.out; omega)
    have HTY := Aside0.mk (TGs_mem hym HT.out)
    have HL5 := Aside0.mk hl5
    have HC5 := Aside0.mk hi5
    have hz1 : (txt y).size + 2 ≤ 1000000000 := by
      have h1 := HZ.out
      rw [HI.out, HY.out] at h1
      have e1 : (⟨#[40]⟩ : ByteArray).size = 1 := rfl
      have e2 : (⟨#[41]⟩ : ByteArray).size = 1 := rfl
      rw [ByteArray.size_append, ByteArray.size_append, e1, e2] at h1
      omega
    have p2 : ((i : Int) < 0) = False := eq_false (by omega)
    have HZY := Aside0.mk (show (txt y).size ≤ 1000000000 by omega)
    replace p1 := eq_true p1
    replace q1 := eq_true q1
    clear hl5 hi5 hrd hym hy
    go_enter Tryz.func100, Tryz.ntmps100
    go_wp2_with (first | (go_at_call 41; go_must (refine (ih y _ A5 c5 HFX.out HTY.out HZY.out HG.out HL5.out HC5.out).mono ?_); rintro e1 w1 ⟨rfl, hb1⟩; have HB1 := Aside0.mk hb1; clear hb1))
    go_ret
    exact ⟨by rw [HI.out, HY.out]; rfl, HB1.out⟩
  · have d0 : decide ((i : Int) < (x.f3.length : Int)) = false := decide_eq_false (by omega)
    have d1 : decide (i < x.f3.length) = false := decide_eq_false hi
    have HI := Aside0.mk (inn_none (Nat.le_of_not_lt hi))
    go_enter Tryz.func100, Tryz.ntmps100
    go_wp2
    go_ret
    exact ⟨by rw [HI.out]; rfl, Below.refl _ _⟩
end Go.Proofs.YtcgdncpioafbdaaGreatDoor.Q
/- Text of an expression: the program's. -/
namespace Go.Proofs.YtcgdncpioafbdaaGreatDoor.Q
open Go Go.RowKit Go.Proofs.YtcgdncpioafbdaaGreatDoorW.PrintWords Go.Proofs.YtcgdncpioafbdaaGreatDoorW.PrintLast Go.Proofs.YtcgdncpioafbdaaGreatDoorW.PrintMore
theorem bigB_true {s : ByteArray} (h : bigB s = true) : Ps.binds s > 3 ∧ (s.toList == [105, 115]) = false := by
  unfold bigB at h
  simpa using h
theorem bigB_false {s : ByteArray} (h : ¬ bigB s = true) : ¬ Ps.binds s > 3 ∨ (s.toList == [105, 115]) = true := by
  unfold bigB at h
  by_cases h1 : Ps.binds s > 3
  · right
    simpa [h1] using h
  · exact .inl h1
set_option maxHeartbeats 2000000 in
set_option maxRecDepth 100000 in
theorem text_step (n : Nat) (ih : InAt n) : TextAt (n + 1) := by
  intro x w A c hx hT hz hG hc hC
  have HX := Aside0.mk (show fus x.f3 ≤ n by have := fu_eq x; omega)
  have HT := Aside0.mk ((TG_eq x).1 hT).2
  have HN := Aside0.mk ((TG_eq x).1 hT).1
  have HZ := Aside0.mk hz
  have HL := Aside0.mk hc
  clear hx hT hz hc
  unfold cells43
  go_enter Tryz.func41, Tryz.ntmps41
  go_upto_region 1 with (fail)
  have HB := Aside0.mk (below_alloc (Below.refl w.heap.size w) (.cells #[.string x.f0, .int .i64 x.f1.f0, .int .i64 x.f1.f1, .string x.f1.f2, .string x.f2, .slice A x.f3.length c] 43 (0, 0)))
  have HG1 := Aside0.mk (hG.below HB.out)
  have HC1 := Aside0.mk (Kd.C_below hC HB.out)
  have BK := Aside0.mk (new_blk (W := w) (.cells #[.string x.f0, .int .i64 x.f1.f0, .int .i64 x.f1.f1, .string x.f1.f2, .string x.f2, .slice A x.f3.length c] 43 (0, 0)) rfl)
  clear hG hC
  have HG := HG1
  have HC := HC1
  clear HG1 HC1
  generalize hb1 : w.heap.size = b at BK ⊢
  generalize hW : w.alloc (.cells #[.string x.f0, .int .i64 x.f1.f0, .int .i64 x.f1.f1, .string x.f1.f2, .string x.f2, .slice A x.f3.length c] 43 (0, 0)) = W at HB HG HC BK ⊢
  clear hW
  have cc0 : W.cell? ⟨b, 0, none⟩ = some (.string x.f0) := (blk_cell BK.out 0).trans rfl
  have cc1 : W.cell? ⟨b, 1, none⟩ = some (.int .i64 x.f1.f0) := (blk_cell BK.out 1).trans rfl
  have cc2 : W.cell? ⟨b, 2, none⟩ = some (.int .i64 x.f1.f1) := (blk_cell BK.out 2).trans rfl
  have cc3 : W.cell? ⟨b, 3, none⟩ = some (.string x.f1.f2) := (blk_cell BK.out 3).trans rfl
  have cc4 : W.cell? ⟨b, 4, none⟩ = some (.string x.f2) := (blk_cell BK.out 4).trans rfl
  have cc5 : W.cell? ⟨b, 5, none⟩ = some (.slice A x.f3.length c) := (blk_cell BK.out 5).trans rfl
  have hlt := blk_lt BK.out
  by_cases c0 : x.f0.toList = [118, 97, 108]
  · have f01 : (x.f0.toList == [118, 97, 108]) = true := beq_iff_eq.mpr c0
    have e0 := txt_eq x
    unfold txtB at e0
    rw [if_pos c0] at e0
    clear c0
    have HL1 := Aside0.mk (pLit (k := 40) (v := x.f1) (by omega) HN.out.1 HN.out.2.1 (by have h1 := HZ.out; rw [e0] at h1; exact h1))
    have HT0 := Aside0.mk e0
    clear e0
    go_wp2_with (first | (go_at_call 101; refine (parse_literal.calls 40 x.f1.f0 x.f1.f1 x.f1.f2 (lit x.f1) _ HL1.out HG.out).mono ?_; rintro e1 w1 ⟨rfl, hb⟩; have HB1 := Aside0.mk hb; clear hb))
    go_ret
    exact ⟨by rw [HT0.out]; rfl, below_step HB.out HB1.out⟩
  · skip
    by_cases c1 : x.f0.toList = [99, 111, 108]
    · have f00 : (x.f0.toList == [118, 97, 108]) = false := beq_eq_false_iff_ne.mpr c0
      have f11 : (x.f0.toList == [99, 111, 108]) = true := beq_iff_eq.mpr c1
      have e0 := txt_eq x
      unfold txtB at e0
      rw [if_neg c0, if_pos c1] at e0
      clear c0 c1
      have HT0 := Aside0.mk e0
      clear e0
      go_wp2
      go_ret
      exact ⟨by rw [HT0.out]; rfl, HB.out⟩
    · skip
      by_cases c2 : x.f0.toList = [111, 114]
      · have f00 : (x.f0.toList == [118, 97, 108]) = false := beq_eq_false_iff_ne.mpr c0
        have f10 : (x.f0.toList == [99, 111, 108]) = false := beq_eq_false_iff_ne.mpr c1
        have f21 : (x.f0.toList == [111, 114]) = true := beq_iff_eq.mpr c2
        have e0 := txt_eq x
        unfold txtB at e0
        rw [if_neg c0, if_neg c1, if_pos c2] at e0
        simp only [← inn_def] at e0
        clear c0 c1 c2
        have hz : (inn x.f3 0).size + 1 + x.f0.size + 1 + (inn x.f3 1).size ≤ 1000000000 := by
          have h1 := HZ.out
          rw [e0] at h1
          simp only [ByteArray.size_append, (show (⟨#[32]⟩ : ByteArray).size = 1 from rfl), (show (⟨#[110, 111, 116, 32]⟩ : ByteArray).size = 4 from rfl), (show (⟨#[45]⟩ : ByteArray).size = 1 from rfl), (show (⟨#[32, 105, 115, 32, 110, 117, 108, 108]⟩ : ByteArray).size = 8 from rfl)] at h1
          exact h1
        have HZ0 := Aside0.mk (show (inn x.f3 0).size ≤ 1000000000 by omega)
        have HZ1 := Aside0.mk (show (inn x.f3 1).size ≤ 1000000000 by omega)
        have t0 : (9223372036854775807 < (inn x.f3 0).size + 1) = False := eq_false (by omega)
        have t1 : (9223372036854775807 < (inn x.f3 0).size + 1 + x.f0.size) = False := eq_false (by omega)
        have t2 : (9223372036854775807 < (inn x.f3 0).size + 1 + x.f0.size + 1) = False := eq_false (by omega)
        have t3 : (9223372036854775807 < (inn x.f3 0).size + 1 + x.f0.size + 1 + (inn x.f3 1).size) = False := eq_false (by omega)
        have HT0 := Aside0.mk e0
        clear e0
        go_upto_region 9 with (fail)
        refine start_ (n := 11) (S := fun w' => w'.cell? ⟨b, 0, none⟩ = some (.string x.f0) ∧ Below W.heap.size W w') (ds := []) #[false, false, false, false, false, false, false, false, false, false, false] (by kernel_rfl) rfl rfl ⟨cc0, below_drew1 (Below.refl _ _)⟩ (fun hHeld => ?_)
        refine pure_ (i := 0) (N := some 19) (v := ?_) (a' := ?_) #[true, false, false, false, false, false, false, false, false, false, false] rfl rfl (by kernel_rfl) (fun _ _ _ h => h) (Or.inl ⟨by rfl, ?_⟩) ?_ ?_
        rotate_left
        · intro w'
          go_simp
          with_reducible rfl
        rotate_left
        · simp only [Act.put, List.setIfInBounds_toArray, List.set_cons_zero, List.set_cons_succ, i64_w, i32_w]
          rfl
        refine pure_ (i := 7) (N := some 26) (v := ?_) (a' := ?_) #[true, false, false, false, false, false, false, true, false, false, false] rfl rfl (by kernel_rfl) (fun _ _ _ h => h) (Or.inl ⟨by rfl, ?_⟩) ?_ ?_
        rotate_left
        · intro w'
          go_simp
          with_reducible rfl
        rotate_left
        · simp only [Act.put, List.setIfInBounds_toArray, List.set_cons_zero, List.set_cons_succ, i64_w, i32_w]
          rfl
        refine pure_ (i := 3) (N := some 22) (v := ?_) (a' := ?_) #[true, false, false, true, false, false, false, true, false, false, false] rfl rfl (by kernel_rfl) (fun _ _ _ h => h) (Or.inl ⟨by rfl, ?_⟩) ?_ ?_
        rotate_left
        · intro w'
          go_simp
          with_reducible rfl
        rotate_left
        · simp only [Act.put, List.setIfInBounds_toArray, List.set_cons_zero, List.set_cons_succ, i64_w, i32_w]
          rfl
        refine take_ (i := 4) (N := some 23) (v := ?_) (a' := ?_) #[true, false, false, true, true, false, false, true, false, false, false] rfl rfl (by kernel_rfl) (fun _ _ _ h => h) (Or.inl ⟨by rfl, ?_⟩) hHeld ?_ ?_
        rotate_left
        · rintro w' ⟨s0, _⟩
          go_simp
          with_reducible rfl
        rotate_left
        · simp only [Act.put, List.setIfInBounds_toArray, List.set_cons_zero, List.set_cons_succ, i64_w, i32_w]
          rfl
        refine one_ (i := 1) (N := some 20) #[true, true, false, true, true, false, false, true, false, false, false] rfl rfl (by kernel_rfl) (by decide) (fun K hK => ?_)
        refine goesC_ Tryz.func100 (by kernel_rfl) rfl #[.pointer (some ⟨b, 0, none⟩)] #[.int .i64 0, .pointer (some ⟨b, 0, none⟩)] (by rfl) rfl rfl (by rfl) (by simp only [List.map_toArray, List.map_cons, List.map_nil, List.append_toArray, List.cons_append, List.nil_append]; rfl) ?_
        refine (ih x _ A c b 0 0 rfl (by omega) HX.out HT.out HZ0.out (HG.out.below (below_drew1 (Below.refl W.heap.size W))) HL.out (Kd.C_below HC.out (below_drew1 (Below.refl W.heap.size W))) (((below_drew1 (Below.refl W.heap.size W))).block b hlt ▸ BK.out)).mono ?_
        rintro e1 w1 ⟨rfl, hb⟩
        have HB1 := Aside0.mk (below_step (below_drew1 (Below.refl W.heap.size W)) hb)
        refine ⟨_, rfl, ?_⟩
        clear hb
        have z1 := pw_cell_below HB1.out cc0
        refine hK.out _ _ ⟨z1, HB1.out⟩ (fun hHeld => ?_)
        clear hK K z1
        refine norm_ (a' := ?_) ?_ ?_
        rotate_left
        · show Act.put _ (some 20) _ = _
          simp only [Act.put, List.setIfInBounds_toArray, List.set_cons_zero, List.set_cons_succ, i64_w, i32_w]
          rfl
        refine pure_ (i := 2) (N := some 21) (v := ?_) (a' := ?_) #[true, true, true, true, true, false, false, true, false, false, false] rfl rfl (by kernel_rfl) (fun _ _ _ h => h) (Or.inl ⟨by rfl, ?_⟩) ?_ ?_
        rotate_left
        · intro w'
          go_simp
          with_reducible rfl
        rotate_left
        · simp only [Act.put, List.setIfInBounds_toArray, List.set_cons_zero, List.set_cons_succ, i64_w, i32_w]
          rfl
        refine pure_ (i := 5) (N := some 24) (v := ?_) (a' := ?_) #[true, true, true, true, true, true, false, true, false, false, false] rfl rfl (by kernel_rfl) (fun _ _ _ h => h) (Or.inl ⟨by rfl, ?_⟩) ?_ ?_
        rotate_left
        · intro w'
          go_simp
          with_reducible rfl
        rotate_left
        · simp only [Act.put, List.setIfInBounds_toArray, List.set_cons_zero, List.set_cons_succ, i64_w, i32_w]
          rfl
        refine pure_ (i := 6) (N := some 25) (v := ?_) (a' := ?_) #[true, true, true, true, true, true, true, true, false, false, false] rfl rfl (by kernel_rfl) (fun _ _ _ h => h) (Or.inl ⟨by rfl, ?_⟩) ?_ ?_
        rotate_left
        · intro w'
          go_simp
          with_reducible rfl
        rotate_left
        · simp only [Act.put, List.setIfInBounds_toArray, List.set_cons_zero, List.set_cons_succ, i64_w, i32_w]
          rfl
        refine one_ (i := 8) (N := some 27) #[true, true, true, true, true, true, true, true, true, false, false] rfl rfl (by kernel_rfl) (by decide) (fun K hK => ?_)
        refine goesC_ Tryz.func100 (by kernel_rfl) rfl #[.pointer (some ⟨b, 0, none⟩)] #[.int .i64 1, .pointer (some ⟨b, 0, none⟩)] (by rfl) rfl rfl (by rfl) (by simp only [List.map_toArray, List.map_cons, List.map_nil, List.append_toArray, List.cons_append, List.nil_append]; rfl) ?_
        refine (ih x _ A c b 1 1 rfl (by omega) HX.out HT.out HZ1.out (HG.out.below HB1.out) HL.out (Kd.C_below HC.out HB1.out) ((HB1.out).block b hlt ▸ BK.out)).mono ?_
        rintro e2 w2 ⟨rfl, hb⟩
        have HB2 := Aside0.mk (below_step HB1.out hb)
        refine ⟨_, rfl, ?_⟩
        clear hb
        have z2 := pw_cell_below HB2.out cc0
        refine hK.out _ _ ⟨z2, HB2.out⟩ (fun hHeld => ?_)
        clear hK K z2
        refine norm_ (a' := ?_) ?_ ?_
        rotate_left
        · show Act.put _ (some 27) _ = _
          simp only [Act.put, List.setIfInBounds_toArray, List.set_cons_zero, List.set_cons_succ, i64_w, i32_w]
          rfl
        refine pure_ (i := 9) (N := some 28) (v := ?_) (a' := ?_) #[true, true, true, true, true, true, true, true, true, true, false] rfl rfl (by kernel_rfl) (fun _ _ _ h => h) (Or.inl ⟨by rfl, ?_⟩) ?_ ?_
        rotate_left
        · intro w'
          go_simp
          with_reducible rfl
        rotate_left
        · simp only [Act.put, List.setIfInBounds_toArray, List.set_cons_zero, List.set_cons_succ, i64_w, i32_w]
          rfl
        refine pure_ (i := 10) (N := some 2) (v := ?_) (a' := ?_) #[true, true, true, true, true, true, true, true, true, true, true] rfl rfl (by kernel_rfl) (fun _ _ _ h => h) (Or.inl ⟨by rfl, ?_⟩) ?_ ?_
        rotate_left
        · intro w'
          go_simp
          with_reducible rfl
        rotate_left
        · simp only [Act.put, List.setIfInBounds_toArray, List.set_cons_zero, List.set_cons_succ, i64_w, i32_w]
          rfl
        refine done_ (by kernel_rfl) ?_
        go_wp2
        go_ret
        exact ⟨by rw [HT0.out]; rfl, below_step HB.out HB2.out⟩
      · skip
        by_cases c3 : x.f0.toList = [97, 110, 100]
        · have f00 : (x.f0.toList == [118, 97, 108]) = false := beq_eq_false_iff_ne.mpr c0
          have f10 : (x.f0.toList == [99, 111, 108]) = false := beq_eq_false_iff_ne.mpr c1
          have f20 : (x.f0.toList == [111, 114]) = false := beq_eq_false_iff_ne.mpr c2
          have f31 : (x.f0.toList == [97, 110, 100]) = true := beq_iff_eq.mpr c3
          have e0 := txt_eq x
          unfold txtB at e0
          rw [if_neg c0, if_neg c1, if_neg c2, if_pos c3] at e0
          simp only [← inn_def] at e0
          clear c0 c1 c2 c3
          have hz : (inn x.f3 0).size + 1 + x.f0.size + 1 + (inn x.f3 1).size ≤ 1000000000 := by
            have h1 := HZ.out
            rw [e0] at h1
            simp only [ByteArray.size_append, (show (⟨#[32]⟩ : ByteArray).size = 1 from rfl), (show (⟨#[110, 111, 116, 32]⟩ : ByteArray).size = 4 from rfl), (show (⟨#[45]⟩ : ByteArray).size = 1 from rfl), (show (⟨#[32, 105, 115, 32, 110, 117, 108, 108]⟩ : ByteArray).size = 8 from rfl)] at h1
            exact h1
          have HZ0 := Aside0.mk (show (inn x.f3 0).size ≤ 1000000000 by omega)
          have HZ1 := Aside0.mk (show (inn x.f3 1).size ≤ 1000000000 by omega)
          have t0 : (9223372036854775807 < (inn x.f3 0).size + 1) = False := eq_false (by omega)
          have t1 : (9223372036854775807 < (inn x.f3 0).size + 1 + x.f0.size) = False := eq_false (by omega)
          have t2 : (9223372036854775807 < (inn x.f3 0).size + 1 + x.f0.size + 1) = False := eq_false (by omega)
          have t3 : (9223372036854775807 < (inn x.f3 0).size + 1 + x.f0.size + 1 + (inn x.f3 1).size) = False := eq_false (by omega)
          have HT0 := Aside0.mk e0
          clear e0
          go_upto_region 9 with (fail)
          refine start_ (n := 11) (S := fun w' => w'.cell? ⟨b, 0, none⟩ = some (.string x.f0) ∧ Below W.heap.size W w') (ds := []) #[false, false, false, false, false, false, false, false, false, false, false] (by kernel_rfl) rfl rfl ⟨cc0, below_drew1 (Below.refl _ _)⟩ (fun hHeld => ?_)
          refine pure_ (i := 0) (N := some 19) (v := ?_) (a' := ?_) #[true, false, false, false, false, false, false, false, false, false, false] rfl rfl (by kernel_rfl) (fun _ _ _ h => h) (Or.inl ⟨by rfl, ?_⟩) ?_ ?_
          rotate_left
          · intro w'
            go_simp
            with_reducible rfl
          rotate_left
          · simp only [Act.put, List.setIfInBounds_toArray, List.set_cons_zero, List.set_cons_succ, i64_w, i32_w]
            rfl
          refine pure_ (i := 7) (N := some 26) (v := ?_) (a' := ?_) #[true, false, false, false, false, false, false, true, false, false, false] rfl rfl (by kernel_rfl) (fun _ _ _ h => h) (Or.inl ⟨by rfl, ?_⟩) ?_ ?_
          rotate_left
          · intro w'
            go_simp
            with_reducible rfl
          rotate_left
          · simp only [Act.put, List.setIfInBounds_toArray, List.set_cons_zero, List.set_cons_succ, i64_w, i32_w]
            rfl
          refine pure_ (i := 3) (N := some 22) (v := ?_) (a' := ?_) #[true, false, false, true, false, false, false, true, false, false, false] rfl rfl (by kernel_rfl) (fun _ _ _ h => h) (Or.inl ⟨by rfl, ?_⟩) ?_ ?_
          rotate_left
          · intro w'
            go_simp
            with_reducible rfl
          rotate_left
          · simp only [Act.put, List.setIfInBounds_toArray, List.set_cons_zero, List.set_cons_succ, i64_w, i32_w]
            rfl
          refine take_ (i := 4) (N := some 23) (v := ?_) (a' := ?_) #[true, false, false, true, true, false, false, true, false, false, false] rfl rfl (by kernel_rfl) (fun _ _ _ h => h) (Or.inl ⟨by rfl, ?_⟩) hHeld ?_ ?_
          rotate_left
          · rintro w' ⟨s0, _⟩
            go_simp
            with_reducible rfl
          rotate_left
          · simp only [Act.put, List.setIfInBounds_toArray, List.set_cons_zero, List.set_cons_succ, i64_w, i32_w]
            rfl
          refine one_ (i := 1) (N := some 20) #[true, true, false, true, true, false, false, true, false, false, false] rfl rfl (by kernel_rfl) (by decide) (fun K hK => ?_)
          refine goesC_ Tryz.func100 (by kernel_rfl) rfl #[.pointer (some ⟨b, 0, none⟩)] #[.int .i64 0, .pointer (some ⟨b, 0, none⟩)] (by rfl) rfl rfl (by rfl) (by simp only [List.map_toArray, List.map_cons, List.map_nil, List.append_toArray, List.cons_append, List.nil_append]; rfl) ?_
          refine (ih x _ A c b 0 0 rfl (by omega) HX.out HT.out HZ0.out (HG.out.below (below_drew1 (Below.refl W.heap.size W))) HL.out (Kd.C_below HC.out (below_drew1 (Below.refl W.heap.size W))) (((below_drew1 (Below.refl W.heap.size W))).block b hlt ▸ BK.out)).mono ?_
          rintro e1 w1 ⟨rfl, hb⟩
          have HB1 := Aside0.mk (below_step (below_drew1 (Below.refl W.heap.size W)) hb)
          refine ⟨_, rfl, ?_⟩
          clear hb
          have z1 := pw_cell_below HB1.out cc0
          refine hK.out _ _ ⟨z1, HB1.out⟩ (fun hHeld => ?_)
          clear hK K z1
          refine norm_ (a' := ?_) ?_ ?_
          rotate_left
          · show Act.put _ (some 20) _ = _
            simp only [Act.put, List.setIfInBounds_toArray, List.set_cons_zero, List.set_cons_succ, i64_w, i32_w]
            rfl
          refine pure_ (i := 2) (N := some 21) (v := ?_) (a' := ?_) #[true, true, true, true, true, false, false, true, false, false, false] rfl rfl (by kernel_rfl) (fun _ _ _ h => h) (Or.inl ⟨by rfl, ?_⟩) ?_ ?_
          rotate_left
          · intro w'
            go_simp
            with_reducible rfl
          rotate_left
          · simp only [Act.put, List.setIfInBounds_toArray, List.set_cons_zero, List.set_cons_succ, i64_w, i32_w]
            rfl
          refine pure_ (i := 5) (N := some 24) (v := ?_) (a' := ?_) #[true, true, true, true, true, true, false, true, false, false, false] rfl rfl (by kernel_rfl) (fun _ _ _ h => h) (Or.inl ⟨by rfl, ?_⟩) ?_ ?_
          rotate_left
          · intro w'
            go_simp
            with_reducible rfl
          rotate_left
          · simp only [Act.put, List.setIfInBounds_toArray, List.set_cons_zero, List.set_cons_succ, i64_w, i32_w]
            rfl
          refine pure_ (i := 6) (N := some 25) (v := ?_) (a' := ?_) #[true, true, true, true, true, true, true, true, false, false, false] rfl rfl (by kernel_rfl) (fun _ _ _ h => h) (Or.inl ⟨by rfl, ?_⟩) ?_ ?_
          rotate_left
          · intro w'
            go_simp
            with_reducible rfl
          rotate_left
          · simp only [Act.put, List.setIfInBounds_toArray, List.set_cons_zero, List.set_cons_succ, i64_w, i32_w]
            rfl
          refine one_ (i := 8) (N := some 27) #[true, true, true, true, true, true, true, true, true, false, false] rfl rfl (by kernel_rfl) (by decide) (fun K hK => ?_)
          refine goesC_ Tryz.func100 (by kernel_rfl) rfl #[.pointer (some ⟨b, 0, none⟩)] #[.int .i64 1, .pointer (some ⟨b, 0, none⟩)] (by rfl) rfl rfl (by rfl) (by simp only [List.map_toArray, List.map_cons, List.map_nil, List.append_toArray, List.cons_append, List.nil_append]; rfl) ?_
          refine (ih x _ A c b 1 1 rfl (by omega) HX.out HT.out HZ1.out (HG.out.below HB1.out) HL.out (Kd.C_below HC.out HB1.out) ((HB1.out).block b hlt ▸ BK.out)).mono ?_
          rintro e2 w2 ⟨rfl, hb⟩
          have HB2 := Aside0.mk (below_step HB1.out hb)
          refine ⟨_, rfl, ?_⟩
          clear hb
          have z2 := pw_cell_below HB2.out cc0
          refine hK.out _ _ ⟨z2, HB2.out⟩ (fun hHeld => ?_)
          clear hK K z2
          refine norm_ (a' := ?_) ?_ ?_
          rotate_left
          · show Act.put _ (some 27) _ = _
            simp only [Act.put, List.setIfInBounds_toArray, List.set_cons_zero, List.set_cons_succ, i64_w, i32_w]
            rfl
          refine pure_ (i := 9) (N := some 28) (v := ?_) (a' := ?_) #[true, true, true, true, true, true, true, true, true, true, false] rfl rfl (by kernel_rfl) (fun _ _ _ h => h) (Or.inl ⟨by rfl, ?_⟩) ?_ ?_
          rotate_left
          · intro w'
            go_simp
            with_reducible rfl
          rotate_left
          · simp only [Act.put, List.setIfInBounds_toArray, List.set_cons_zero, List.set_cons_succ, i64_w, i32_w]
            rfl
          refine pure_ (i := 10) (N := some 2) (v := ?_) (a' := ?_) #[true, true, true, true, true, true, true, true, true, true, true] rfl rfl (by kernel_rfl) (fun _ _ _ h => h) (Or.inl ⟨by rfl, ?_⟩) ?_ ?_
          rotate_left
          · intro w'
            go_simp
            with_reducible rfl
          rotate_left
          · simp only [Act.put, List.setIfInBounds_toArray, List.set_cons_zero, List.set_cons_succ, i64_w, i32_w]
            rfl
          refine done_ (by kernel_rfl) ?_
          go_wp2
          go_ret
          exact ⟨by rw [HT0.out]; rfl, below_step HB.out HB2.out⟩
        · skip
          by_cases c4 : x.f0.toList = [110, 111, 116]
          · have f00 : (x.f0.toList == [118, 97, 108]) = false := beq_eq_false_iff_ne.mpr c0
            have f10 : (x.f0.toList == [99, 111, 108]) = false := beq_eq_false_iff_ne.mpr c1
            have f20 : (x.f0.toList == [111, 114]) = false := beq_eq_false_iff_ne.mpr c2
            have f30 : (x.f0.toList == [97, 110, 100]) = false := beq_eq_false_iff_ne.mpr c3
            have f41 : (x.f0.toList == [110, 111, 116]) = true := beq_iff_eq.mpr c4
            have e0 := txt_eq x
            unfold txtB at e0
            rw [if_neg c0, if_neg c1, if_neg c2, if_neg c3, if_pos c4] at e0
            simp only [← inn_def] at e0
            clear c0 c1 c2 c3 c4
            have hz : 4 + (inn x.f3 0).size ≤ 1000000000 := by
              have h1 := HZ.out
              rw [e0] at h1
              simp only [ByteArray.size_append, (show (⟨#[32]⟩ : ByteArray).size = 1 from rfl), (show (⟨#[110, 111, 116, 32]⟩ : ByteArray).size = 4 from rfl), (show (⟨#[45]⟩ : ByteArray).size = 1 from rfl), (show (⟨#[32, 105, 115, 32, 110, 117, 108, 108]⟩ : ByteArray).size = 8 from rfl)] at h1
              exact h1
            have HZ0 := Aside0.mk (show (inn x.f3 0).size ≤ 1000000000 by omega)
            have t0 : (9223372036854775807 < 4 + (inn x.f3 0).size) = False := eq_false (by omega)
            have HT0 := Aside0.mk e0
            clear e0
            go_wp2_with (first | (go_at_call 100; refine (ih x _ A c b 0 0 rfl (by omega) HX.out HT.out HZ0.out HG.out HL.out HC.out BK.out).mono ?_; rintro e1 w1 ⟨rfl, hb⟩; have HB1 := Aside0.mk hb; clear hb))
            go_ret
            exact ⟨by rw [HT0.out]; rfl, below_step HB.out HB1.out⟩
          · skip
            by_cases c5 : x.f0.toList = [110, 101, 103]
            · have f00 : (x.f0.toList == [118, 97, 108]) = false := beq_eq_false_iff_ne.mpr c0
              have f10 : (x.f0.toList == [99, 111, 108]) = false := beq_eq_false_iff_ne.mpr c1
              have f20 : (x.f0.toList == [111, 114]) = false := beq_eq_false_iff_ne.mpr c2
              have f30 : (x.f0.toList == [97, 110, 100]) = false := beq_eq_false_iff_ne.mpr c3
              have f40 : (x.f0.toList == [110, 111, 116]) = false := beq_eq_false_iff_ne.mpr c4
              have f51 : (x.f0.toList == [110, 101, 103]) = true := beq_iff_eq.mpr c5
              have e0 := txt_eq x
              unfold txtB at e0
              rw [if_neg c0, if_neg c1, if_neg c2, if_neg c3, if_neg c4, if_pos c5] at e0
              simp only [← inn_def] at e0
              clear c0 c1 c2 c3 c4 c5
              have hz : 1 + (inn x.f3 0).size ≤ 1000000000 := by
                have h1 := HZ.out
                rw [e0] at h1
                simp only [ByteArray.size_append, (show (⟨#[32]⟩ : ByteArray).size = 1 from rfl), (show (⟨#[110, 111, 116, 32]⟩ : ByteArray).size = 4 from rfl), (show (⟨#[45]⟩ : ByteArray).size = 1 from rfl), (show (⟨#[32, 105, 115, 32, 110, 117, 108, 108]⟩ : ByteArray).size = 8 from rfl)] at h1
                exact h1
              have HZ0 := Aside0.mk (show (inn x.f3 0).size ≤ 1000000000 by omega)
              have t0 : (9223372036854775807 < 1 + (inn x.f3 0).size) = False := eq_false (by omega)
              have HT0 := Aside0.mk e0
              clear e0
              go_wp2_with (first | (go_at_call 100; refine (ih x _ A c b 0 0 rfl (by omega) HX.out HT.out HZ0.out HG.out HL.out HC.out BK.out).mono ?_; rintro e1 w1 ⟨rfl, hb⟩; have HB1 := Aside0.mk hb; clear hb))
              go_ret
              exact ⟨by rw [HT0.out]; rfl, below_step HB.out HB1.out⟩
            · skip
              by_cases c6 : x.f0.toList = [105, 115, 110, 117, 108, 108]
              · have f00 : (x.f0.toList == [118, 97, 108]) = false := beq_eq_false_iff_ne.mpr c0
                have f10 : (x.f0.toList == [99, 111, 108]) = false := beq_eq_false_iff_ne.mpr c1
                have f20 : (x.f0.toList == [111, 114]) = false := beq_eq_false_iff_ne.mpr c2
                have f30 : (x.f0.toList == [97, 110, 100]) = false := beq_eq_false_iff_ne.mpr c3
                have f40 : (x.f0.toList == [110, 111, 116]) = false := beq_eq_false_iff_ne.mpr c4
                have f50 : (x.f0.toList == [110, 101, 103]) = false := beq_eq_false_iff_ne.mpr c5
                have f61 : (x.f0.toList == [105, 115, 110, 117, 108, 108]) = true := beq_iff_eq.mpr c6
                have e0 := txt_eq x
                unfold txtB at e0
                rw [if_neg c0, if_neg c1, if_neg c2, if_neg c3, if_neg c4, if_neg c5, if_pos c6] at e0
                simp only [← inn_def] at e0
                clear c0 c1 c2 c3 c4 c5 c6
                have hz : (inn x.f3 0).size + 8 ≤ 1000000000 := by
                  have h1 := HZ.out
                  rw [e0] at h1
                  simp only [ByteArray.size_append, (show (⟨#[32]⟩ : ByteArray).size = 1 from rfl), (show (⟨#[110, 111, 116, 32]⟩ : ByteArray).size = 4 from rfl), (show (⟨#[45]⟩ : ByteArray).size = 1 from rfl), (show (⟨#[32, 105, 115, 32, 110, 117, 108, 108]⟩ : ByteArray).size = 8 from rfl)] at h1
                  exact h1
                have HZ0 := Aside0.mk (show (inn x.f3 0).size ≤ 1000000000 by omega)
                have t0 : (9223372036854775807 < (inn x.f3 0).size + 8) = False := eq_false (by omega)
                have HT0 := Aside0.mk e0
                clear e0
                go_wp2_with (first | (go_at_call 100; refine (ih x _ A c b 0 0 rfl (by omega) HX.out HT.out HZ0.out HG.out HL.out HC.out BK.out).mono ?_; rintro e1 w1 ⟨rfl, hb⟩; have HB1 := Aside0.mk hb; clear hb))
                go_ret
                exact ⟨by rw [HT0.out]; rfl, below_step HB.out HB1.out⟩
              · skip
                by_cases c7 : x.f0.toList = [99, 111, 117, 110, 116]
                · have f00 : (x.f0.toList == [118, 97, 108]) = false := beq_eq_false_iff_ne.mpr c0
                  have f10 : (x.f0.toList == [99, 111, 108]) = false := beq_eq_false_iff_ne.mpr c1
                  have f20 : (x.f0.toList == [111, 114]) = false := beq_eq_false_iff_ne.mpr c2
                  have f30 : (x.f0.toList == [97, 110, 100]) = false := beq_eq_false_iff_ne.mpr c3
                  have f40 : (x.f0.toList == [110, 111, 116]) = false := beq_eq_false_iff_ne.mpr c4
                  have f50 : (x.f0.toList == [110, 101, 103]) = false := beq_eq_false_iff_ne.mpr c5
                  have f60 : (x.f0.toList == [105, 115, 110, 117, 108, 108]) = false := beq_eq_false_iff_ne.mpr c6
                  have f71 : (x.f0.toList == [99, 111, 117, 110, 116]) = true := beq_iff_eq.mpr c7
                  have e0 := txt_eq x
                  unfold txtB at e0
                  rw [if_neg c0, if_neg c1, if_neg c2, if_neg c3, if_neg c4, if_neg c5, if_neg c6, if_pos c7] at e0
                  clear c0 c1 c2 c3 c4 c5 c6 c7
                  have HT0 := Aside0.mk e0
                  clear e0
                  go_wp2
                  go_ret
                  exact ⟨by rw [HT0.out]; rfl, HB.out⟩
                · skip
                  by_cases c8 : x.f0.toList = [115, 117, 109]
                  · have f00 : (x.f0.toList == [118, 97, 108]) = false := beq_eq_false_iff_ne.mpr c0
                    have f10 : (x.f0.toList == [99, 111, 108]) = false := beq_eq_false_iff_ne.mpr c1
                    have f20 : (x.f0.toList == [111, 114]) = false := beq_eq_false_iff_ne.mpr c2
                    have f30 : (x.f0.toList == [97, 110, 100]) = false := beq_eq_false_iff_ne.mpr c3
                    have f40 : (x.f0.toList == [110, 111, 116]) = false := beq_eq_false_iff_ne.mpr c4
                    have f50 : (x.f0.toList == [110, 101, 103]) = false := beq_eq_false_iff_ne.mpr c5
                    have f60 : (x.f0.toList == [105, 115, 110, 117, 108, 108]) = false := beq_eq_false_iff_ne.mpr c6
                    have f70 : (x.f0.toList == [99, 111, 117, 110, 116]) = false := beq_eq_false_iff_ne.mpr c7
                    have f81 : (x.f0.toList == [115, 117, 109]) = true := beq_iff_eq.mpr c8
                    have e0 := txt_eq x
                    unfold txtB at e0
                    rw [if_neg c0, if_neg c1, if_neg c2, if_neg c3, if_neg c4, if_neg c5, if_neg c6, if_neg c7, if_pos c8] at e0
                    simp only [← inn_def] at e0
                    clear c0 c1 c2 c3 c4 c5 c6 c7 c8
                    have hz : x.f0.size + (inn x.f3 0).size ≤ 1000000000 := by
                      have h1 := HZ.out
                      rw [e0] at h1
                      simp only [ByteArray.size_append, (show (⟨#[32]⟩ : ByteArray).size = 1 from rfl), (show (⟨#[110, 111, 116, 32]⟩ : ByteArray).size = 4 from rfl), (show (⟨#[45]⟩ : ByteArray).size = 1 from rfl), (show (⟨#[32, 105, 115, 32, 110, 117, 108, 108]⟩ : ByteArray).size = 8 from rfl)] at h1
                      exact h1
                    have HZ0 := Aside0.mk (show (inn x.f3 0).size ≤ 1000000000 by omega)
                    have t0 : (9223372036854775807 < x.f0.size + (inn x.f3 0).size) = False := eq_false (by omega)
                    have HT0 := Aside0.mk e0
                    clear e0
                    go_upto_region 21 with (fail)
                    refine start_ (n := 6) (S := fun w' => w'.cell? ⟨b, 0, none⟩ = some (.string x.f0) ∧ Below W.heap.size W w') (ds := []) #[false, false, false, false, false, false] (by kernel_rfl) rfl rfl ⟨cc0, below_drew1 (Below.refl _ _)⟩ (fun hHeld => ?_)
                    refine pure_ (i := 0) (N := some 50) (v := ?_) (a' := ?_) #[true, false, false, false, false, false] rfl rfl (by kernel_rfl) (fun _ _ _ h => h) (Or.inl ⟨by rfl, ?_⟩) ?_ ?_
                    rotate_left
                    · intro w'
                      go_simp
                      with_reducible rfl
                    rotate_left
                    · simp only [Act.put, List.setIfInBounds_toArray, List.set_cons_zero, List.set_cons_succ, i64_w, i32_w]
                      rfl
                    refine pure_ (i := 2) (N := some 52) (v := ?_) (a' := ?_) #[true, false, true, false, false, false] rfl rfl (by kernel_rfl) (fun _ _ _ h => h) (Or.inl ⟨by rfl, ?_⟩) ?_ ?_
                    rotate_left
                    · intro w'
                      go_simp
                      with_reducible rfl
                    rotate_left
                    · simp only [Act.put, List.setIfInBounds_toArray, List.set_cons_zero, List.set_cons_succ, i64_w, i32_w]
                      rfl
                    refine take_ (i := 1) (N := some 51) (v := ?_) (a' := ?_) #[true, true, true, false, false, false] rfl rfl (by kernel_rfl) (fun _ _ _ h => h) (Or.inl ⟨by rfl, ?_⟩) hHeld ?_ ?_
                    rotate_left
                    · rintro w' ⟨s0, _⟩
                      go_simp
                      with_reducible rfl
                    rotate_left
                    · simp only [Act.put, List.setIfInBounds_toArray, List.set_cons_zero, List.set_cons_succ, i64_w, i32_w]
                      rfl
                    refine one_ (i := 3) (N := some 53) #[true, true, true, true, false, false] rfl rfl (by kernel_rfl) (by decide) (fun K hK => ?_)
                    refine goesC_ Tryz.func100 (by kernel_rfl) rfl #[.pointer (some ⟨b, 0, none⟩)] #[.int .i64 0, .pointer (some ⟨b, 0, none⟩)] (by rfl) rfl rfl (by rfl) (by simp only [List.map_toArray, List.map_cons, List.map_nil, List.append_toArray, List.cons_append, List.nil_append]; rfl) ?_
                    refine (ih x _ A c b 0 0 rfl (by omega) HX.out HT.out HZ0.out (HG.out.below (below_drew1 (Below.refl W.heap.size W))) HL.out (Kd.C_below HC.out (below_drew1 (Below.refl W.heap.size W))) (((below_drew1 (Below.refl W.heap.size W))).block b hlt ▸ BK.out)).mono ?_
                    rintro e1 w1 ⟨rfl, hb⟩
                    have HB1 := Aside0.mk (below_step (below_drew1 (Below.refl W.heap.size W)) hb)
                    refine ⟨_, rfl, ?_⟩
                    clear hb
                    have z1 := pw_cell_below HB1.out cc0
                    refine hK.out _ _ ⟨z1, HB1.out⟩ (fun hHeld => ?_)
                    clear hK K z1
                    refine norm_ (a' := ?_) ?_ ?_
                    rotate_left
                    · show Act.put _ (some 53) _ = _
                      simp only [Act.put, List.setIfInBounds_toArray, List.set_cons_zero, List.set_cons_succ, i64_w, i32_w]
                      rfl
                    refine pure_ (i := 4) (N := some 54) (v := ?_) (a' := ?_) #[true, true, true, true, true, false] rfl rfl (by kernel_rfl) (fun _ _ _ h => h) (Or.inl ⟨by rfl, ?_⟩) ?_ ?_
                    rotate_left
                    · intro w'
                      go_simp
                      with_reducible rfl
                    rotate_left
                    · simp only [Act.put, List.setIfInBounds_toArray, List.set_cons_zero, List.set_cons_succ, i64_w, i32_w]
                      rfl
                    refine pure_ (i := 5) (N := some 2) (v := ?_) (a' := ?_) #[true, true, true, true, true, true] rfl rfl (by kernel_rfl) (fun _ _ _ h => h) (Or.inl ⟨by rfl, ?_⟩) ?_ ?_
                    rotate_left
                    · intro w'
                      go_simp
                      with_reducible rfl
                    rotate_left
                    · simp only [Act.put, List.setIfInBounds_toArray, List.set_cons_zero, List.set_cons_succ, i64_w, i32_w]
                      rfl
                    refine done_ (by kernel_rfl) ?_
                    go_wp2
                    go_ret
                    exact ⟨by rw [HT0.out]; rfl, below_step HB.out HB1.out⟩
                  · skip
                    by_cases c9 : x.f0.toList = [109, 105, 110]
                    · have f00 : (x.f0.toList == [118, 97, 108]) = false := beq_eq_false_iff_ne.mpr c0
                      have f10 : (x.f0.toList == [99, 111, 108]) = false := beq_eq_false_iff_ne.mpr c1
                      have f20 : (x.f0.toList == [111, 114]) = false := beq_eq_false_iff_ne.mpr c2
                      have f30 : (x.f0.toList == [97, 110, 100]) = false := beq_eq_false_iff_ne.mpr c3
                      have f40 : (x.f0.toList == [110, 111, 116]) = false := beq_eq_false_iff_ne.mpr c4
                      have f50 : (x.f0.toList == [110, 101, 103]) = false := beq_eq_false_iff_ne.mpr c5
                      have f60 : (x.f0.toList == [105, 115, 110, 117, 108, 108]) = false := beq_eq_false_iff_ne.mpr c6
                      have f70 : (x.f0.toList == [99, 111, 117, 110, 116]) = false := beq_eq_false_iff_ne.mpr c7
                      have f80 : (x.f0.toList == [115, 117, 109]) = false := beq_eq_false_iff_ne.mpr c8
                      have f91 : (x.f0.toList == [109, 105, 110]) = true := beq_iff_eq.mpr c9
                      have e0 := txt_eq x
                      unfold txtB at e0
                      rw [if_neg c0, if_neg c1, if_neg c2, if_neg c3, if_neg c4, if_neg c5, if_neg c6, if_neg c7, if_neg c8, if_pos c9] at e0
                      simp only [← inn_def] at e0
                      clear c0 c1 c2 c3 c4 c5 c6 c7 c8 c9
                      have hz : x.f0.size + (inn x.f3 0).size ≤ 1000000000 := by
                        have h1 := HZ.out
                        rw [e0] at h1
                        simp only [ByteArray.size_append, (show (⟨#[32]⟩ : ByteArray).size = 1 from rfl), (show (⟨#[110, 111, 116, 32]⟩ : ByteArray).size = 4 from rfl), (show (⟨#[45]⟩ : ByteArray).size = 1 from rfl), (show (⟨#[32, 105, 115, 32, 110, 117, 108, 108]⟩ : ByteArray).size = 8 from rfl)] at h1
                        exact h1
                      have HZ0 := Aside0.mk (show (inn x.f3 0).size ≤ 1000000000 by omega)
                      have t0 : (9223372036854775807 < x.f0.size + (inn x.f3 0).size) = False := eq_false (by omega)
                      have HT0 := Aside0.mk e0
                      clear e0
                      go_upto_region 21 with (fail)
                      refine start_ (n := 6) (S := fun w' => w'.cell? ⟨b, 0, none⟩ = some (.string x.f0) ∧ Below W.heap.size W w') (ds := []) #[false, false, false, false, false, false] (by kernel_rfl) rfl rfl ⟨cc0, below_drew1 (Below.refl _ _)⟩ (fun hHeld => ?_)
                      refine pure_ (i := 0) (N := some 50) (v := ?_) (a' := ?_) #[true, false, false, false, false, false] rfl rfl (by kernel_rfl) (fun _ _ _ h => h) (Or.inl ⟨by rfl, ?_⟩) ?_ ?_
                      rotate_left
                      · intro w'
                        go_simp
                        with_reducible rfl
                      rotate_left
                      · simp only [Act.put, List.setIfInBounds_toArray, List.set_cons_zero, List.set_cons_succ, i64_w, i32_w]
                        rfl
                      refine pure_ (i := 2) (N := some 52) (v := ?_) (a' := ?_) #[true, false, true, false, false, false] rfl rfl (by kernel_rfl) (fun _ _ _ h => h) (Or.inl ⟨by rfl, ?_⟩) ?_ ?_
                      rotate_left
                      · intro w'
                        go_simp
                        with_reducible rfl
                      rotate_left
                      · simp only [Act.put, List.setIfInBounds_toArray, List.set_cons_zero, List.set_cons_succ, i64_w, i32_w]
                        rfl
                      refine take_ (i := 1) (N := some 51) (v := ?_) (a' := ?_) #[true, true, true, false, false, false] rfl rfl (by kernel_rfl) (fun _ _ _ h => h) (Or.inl ⟨by rfl, ?_⟩) hHeld ?_ ?_
                      rotate_left
                      · rintro w' ⟨s0, _⟩
                        go_simp
                        with_reducible rfl
                      rotate_left
                      · simp only [Act.put, List.setIfInBounds_toArray, List.set_cons_zero, List.set_cons_succ, i64_w, i32_w]
                        rfl
                      refine one_ (i := 3) (N := some 53) #[true, true, true, true, false, false] rfl rfl (by kernel_rfl) (by decide) (fun K hK => ?_)
                      refine goesC_ Tryz.func100 (by kernel_rfl) rfl #[.pointer (some ⟨b, 0, none⟩)] #[.int .i64 0, .pointer (some ⟨b, 0, none⟩)] (by rfl) rfl rfl (by rfl) (by simp only [List.map_toArray, List.map_cons, List.map_nil, List.append_toArray, List.cons_append, List.nil_append]; rfl) ?_
                      refine (ih x _ A c b 0 0 rfl (by omega) HX.out HT.out HZ0.out (HG.out.below (below_drew1 (Below.refl W.heap.size W))) HL.out (Kd.C_below HC.out (below_drew1 (Below.refl W.heap.size W))) (((below_drew1 (Below.refl W.heap.size W))).block b hlt ▸ BK.out)).mono ?_
                      rintro e1 w1 ⟨rfl, hb⟩
                      have HB1 := Aside0.mk (below_step (below_drew1 (Below.refl W.heap.size W)) hb)
                      refine ⟨_, rfl, ?_⟩
                      clear hb
                      have z1 := pw_cell_below HB1.out cc0
                      refine hK.out _ _ ⟨z1, HB1.out⟩ (fun hHeld => ?_)
                      clear hK K z1
                      refine norm_ (a' := ?_) ?_ ?_
                      rotate_left
                      · show Act.put _ (some 53) _ = _
                        simp only [Act.put, List.setIfInBounds_toArray, List.set_cons_zero, List.set_cons_succ, i64_w, i32_w]
                        rfl
                      refine pure_ (i := 4) (N := some 54) (v := ?_) (a' := ?_) #[true, true, true, true, true, false] rfl rfl (by kernel_rfl) (fun _ _ _ h => h) (Or.inl ⟨by rfl, ?_⟩) ?_ ?_
                      rotate_left
                      · intro w'
                        go_simp
                        with_reducible rfl
                      rotate_left
                      · simp only [Act.put, List.setIfInBounds_toArray, List.set_cons_zero, List.set_cons_succ, i64_w, i32_w]
                        rfl
                      refine pure_ (i := 5) (N := some 2) (v := ?_) (a' := ?_) #[true, true, true, true, true, true] rfl rfl (by kernel_rfl) (fun _ _ _ h => h) (Or.inl ⟨by rfl, ?_⟩) ?_ ?_
                      rotate_left
                      · intro w'
                        go_simp
                        with_reducible rfl
                      rotate_left
                      · simp only [Act.put, List.setIfInBounds_toArray, List.set_cons_zero, List.set_cons_succ, i64_w, i32_w]
                        rfl
                      refine done_ (by kernel_rfl) ?_
                      go_wp2
                      go_ret
                      exact ⟨by rw [HT0.out]; rfl, below_step HB.out HB1.out⟩
                    · skip
                      by_cases c10 : x.f0.toList = [109, 97, 120]
                      · have f00 : (x.f0.toList == [118, 97, 108]) = false := beq_eq_false_iff_ne.mpr c0
                        have f10 : (x.f0.toList == [99, 111, 108]) = false := beq_eq_false_iff_ne.mpr c1
                        have f20 : (x.f0.toList == [111, 114]) = false := beq_eq_false_iff_ne.mpr c2
                        have f30 : (x.f0.toList == [97, 110, 100]) = false := beq_eq_false_iff_ne.mpr c3
                        have f40 : (x.f0.toList == [110, 111, 116]) = false := beq_eq_false_iff_ne.mpr c4
                        have f50 : (x.f0.toList == [110, 101, 103]) = false := beq_eq_false_iff_ne.mpr c5
                        have f60 : (x.f0.toList == [105, 115, 110, 117, 108, 108]) = false := beq_eq_false_iff_ne.mpr c6
                        have f70 : (x.f0.toList == [99, 111, 117, 110, 116]) = false := beq_eq_false_iff_ne.mpr c7
                        have f80 : (x.f0.toList == [115, 117, 109]) = false := beq_eq_false_iff_ne.mpr c8
                        have f90 : (x.f0.toList == [109, 105, 110]) = false := beq_eq_false_iff_ne.mpr c9
                        have f101 : (x.f0.toList == [109, 97, 120]) = true := beq_iff_eq.mpr c10
                        have e0 := txt_eq x
                        unfold txtB at e0
                        rw [if_neg c0, if_neg c1, if_neg c2, if_neg c3, if_neg c4, if_neg c5, if_neg c6, if_neg c7, if_neg c8, if_neg c9, if_pos c10] at e0
                        simp only [← inn_def] at e0
                        clear c0 c1 c2 c3 c4 c5 c6 c7 c8 c9 c10
                        have hz : x.f0.size + (inn x.f3 0).size ≤ 1000000000 := by
                          have h1 := HZ.out
                          rw [e0] at h1
                          simp only [ByteArray.size_append, (show (⟨#[32]⟩ : ByteArray).size = 1 from rfl), (show (⟨#[110, 111, 116, 32]⟩ : ByteArray).size = 4 from rfl), (show (⟨#[45]⟩ : ByteArray).size = 1 from rfl), (show (⟨#[32, 105, 115, 32, 110, 117, 108, 108]⟩ : ByteArray).size = 8 from rfl)] at h1
                          exact h1
                        have HZ0 := Aside0.mk (show (inn x.f3 0).size ≤ 1000000000 by omega)
                        have t0 : (9223372036854775807 < x.f0.size + (inn x.f3 0).size) = False := eq_false (by omega)
                        have HT0 := Aside0.mk e0
                        clear e0
                        go_upto_region 21 with (fail)
                        refine start_ (n := 6) (S := fun w' => w'.cell? ⟨b, 0, none⟩ = some (.string x.f0) ∧ Below W.heap.size W w') (ds := []) #[false, false, false, false, false, false] (by kernel_rfl) rfl rfl ⟨cc0, below_drew1 (Below.refl _ _)⟩ (fun hHeld => ?_)
                        refine pure_ (i := 0) (N := some 50) (v := ?_) (a' := ?_) #[true, false, false, false, false, false] rfl rfl (by kernel_rfl) (fun _ _ _ h => h) (Or.inl ⟨by rfl, ?_⟩) ?_ ?_
                        rotate_left
                        · intro w'
                          go_simp
                          with_reducible rfl
                        rotate_left
                        · simp only [Act.put, List.setIfInBounds_toArray, List.set_cons_zero, List.set_cons_succ, i64_w, i32_w]
                          rfl
                        refine pure_ (i := 2) (N := some 52) (v := ?_) (a' := ?_) #[true, false, true, false, false, false] rfl rfl (by kernel_rfl) (fun _ _ _ h => h) (Or.inl ⟨by rfl, ?_⟩) ?_ ?_
                        rotate_left
                        · intro w'
                          go_simp
                          with_reducible rfl
                        rotate_left
                        · simp only [Act.put, List.setIfInBounds_toArray, List.set_cons_zero, List.set_cons_succ, i64_w, i32_w]
                          rfl
                        refine take_ (i := 1) (N := some 51) (v := ?_) (a' := ?_) #[true, true, true, false, false, false] rfl rfl (by kernel_rfl) (fun _ _ _ h => h) (Or.inl ⟨by rfl, ?_⟩) hHeld ?_ ?_
                        rotate_left
                        · rintro w' ⟨s0, _⟩
                          go_simp
                          with_reducible rfl
                        rotate_left
                        · simp only [Act.put, List.setIfInBounds_toArray, List.set_cons_zero, List.set_cons_succ, i64_w, i32_w]
                          rfl
                        refine one_ (i := 3) (N := some 53) #[true, true, true, true, false, false] rfl rfl (by kernel_rfl) (by decide) (fun K hK => ?_)
                        refine goesC_ Tryz.func100 (by kernel_rfl) rfl #[.pointer (some ⟨b, 0, none⟩)] #[.int .i64 0, .pointer (some ⟨b, 0, none⟩)] (by rfl) rfl rfl (by rfl) (by simp only [List.map_toArray, List.map_cons, List.map_nil, List.append_toArray, List.cons_append, List.nil_append]; rfl) ?_
                        refine (ih x _ A c b 0 0 rfl (by omega) HX.out HT.out HZ0.out (HG.out.below (below_drew1 (Below.refl W.heap.size W))) HL.out (Kd.C_below HC.out (below_drew1 (Below.refl W.heap.size W))) (((below_drew1 (Below.refl W.heap.size W))).block b hlt ▸ BK.out)).mono ?_
                        rintro e1 w1 ⟨rfl, hb⟩
                        have HB1 := Aside0.mk (below_step (below_drew1 (Below.refl W.heap.size W)) hb)
                        refine ⟨_, rfl, ?_⟩
                        clear hb
                        have z1 := pw_cell_below HB1.out cc0
                        refine hK.out _ _ ⟨z1, HB1.out⟩ (fun hHeld => ?_)
                        clear hK K z1
                        refine norm_ (a' := ?_) ?_ ?_
                        rotate_left
                        · show Act.put _ (some 53) _ = _
                          simp only [Act.put, List.setIfInBounds_toArray, List.set_cons_zero, List.set_cons_succ, i64_w, i32_w]
                          rfl
                        refine pure_ (i := 4) (N := some 54) (v := ?_) (a' := ?_) #[true, true, true, true, true, false] rfl rfl (by kernel_rfl) (fun _ _ _ h => h) (Or.inl ⟨by rfl, ?_⟩) ?_ ?_
                        rotate_left
                        · intro w'
                          go_simp
                          with_reducible rfl
                        rotate_left
                        · simp only [Act.put, List.setIfInBounds_toArray, List.set_cons_zero, List.set_cons_succ, i64_w, i32_w]
                          rfl
                        refine pure_ (i := 5) (N := some 2) (v := ?_) (a' := ?_) #[true, true, true, true, true, true] rfl rfl (by kernel_rfl) (fun _ _ _ h => h) (Or.inl ⟨by rfl, ?_⟩) ?_ ?_
                        rotate_left
                        · intro w'
                          go_simp
                          with_reducible rfl
                        rotate_left
                        · simp only [Act.put, List.setIfInBounds_toArray, List.set_cons_zero, List.set_cons_succ, i64_w, i32_w]
                          rfl
                        refine done_ (by kernel_rfl) ?_
                        go_wp2
                        go_ret
                        exact ⟨by rw [HT0.out]; rfl, below_step HB.out HB1.out⟩
                      · skip
                        by_cases hB : bigB x.f0 = true
                        · have g0 := bigB_true hB
                          obtain ⟨g1, g2⟩ := g0
                          have g3 : (x.f0.toList != [105, 115]) = true := by unfold bne; rw [g2]; rfl
                          have g4 : decide (3 < Ps.binds x.f0) = true := decide_eq_true g1
                          have BI := Aside0.mk (binds_is x.f0)
                          generalize Ps.binds x.f0 = bv at BI g4 g1
                          have f00 : (x.f0.toList == [118, 97, 108]) = false := beq_eq_false_iff_ne.mpr c0
                          have f10 : (x.f0.toList == [99, 111, 108]) = false := beq_eq_false_iff_ne.mpr c1
                          have f20 : (x.f0.toList == [111, 114]) = false := beq_eq_false_iff_ne.mpr c2
                          have f30 : (x.f0.toList == [97, 110, 100]) = false := beq_eq_false_iff_ne.mpr c3
                          have f40 : (x.f0.toList == [110, 111, 116]) = false := beq_eq_false_iff_ne.mpr c4
                          have f50 : (x.f0.toList == [110, 101, 103]) = false := beq_eq_false_iff_ne.mpr c5
                          have f60 : (x.f0.toList == [105, 115, 110, 117, 108, 108]) = false := beq_eq_false_iff_ne.mpr c6
                          have f70 : (x.f0.toList == [99, 111, 117, 110, 116]) = false := beq_eq_false_iff_ne.mpr c7
                          have f80 : (x.f0.toList == [115, 117, 109]) = false := beq_eq_false_iff_ne.mpr c8
                          have f90 : (x.f0.toList == [109, 105, 110]) = false := beq_eq_false_iff_ne.mpr c9
                          have f100 : (x.f0.toList == [109, 97, 120]) = false := beq_eq_false_iff_ne.mpr c10
                          have e0 := txt_eq x
                          unfold txtB at e0
                          rw [if_neg c0, if_neg c1, if_neg c2, if_neg c3, if_neg c4, if_neg c5, if_neg c6, if_neg c7, if_neg c8, if_neg c9, if_neg c10, if_pos hB] at e0
                          simp only [← inn_def] at e0
                          clear c0 c1 c2 c3 c4 c5 c6 c7 c8 c9 c10 hB
                          have hz : (inn x.f3 0).size + x.f0.size + (inn x.f3 1).size ≤ 1000000000 := by
                            have h1 := HZ.out
                            rw [e0] at h1
                            simp only [ByteArray.size_append, (show (⟨#[32]⟩ : ByteArray).size = 1 from rfl), (show (⟨#[110, 111, 116, 32]⟩ : ByteArray).size = 4 from rfl), (show (⟨#[45]⟩ : ByteArray).size = 1 from rfl), (show (⟨#[32, 105, 115, 32, 110, 117, 108, 108]⟩ : ByteArray).size = 8 from rfl)] at h1
                            exact h1
                          have HZ0 := Aside0.mk (show (inn x.f3 0).size ≤ 1000000000 by omega)
                          have HZ1 := Aside0.mk (show (inn x.f3 1).size ≤ 1000000000 by omega)
                          have t0 : (9223372036854775807 < (inn x.f3 0).size + x.f0.size) = False := eq_false (by omega)
                          have t1 : (9223372036854775807 < (inn x.f3 0).size + x.f0.size + (inn x.f3 1).size) = False := eq_false (by omega)
                          have HT0 := Aside0.mk e0
                          clear e0
                          go_upto_region 23 with (first | (go_at_call 102; refine (parse_binds.calls 3 _ _ _ BI.out).mono ?_; rintro e w4 ⟨rfl, ⟨nd, rfl⟩⟩))
                          refine start_ (n := 9) (S := fun w' => w'.cell? ⟨b, 0, none⟩ = some (.string x.f0) ∧ Below W.heap.size W w') (ds := []) #[false, false, false, false, false, false, false, false, false] (by kernel_rfl) rfl rfl ⟨pw_cell_below (below_drew1 (pw_below_drewN (Below.refl W.heap.size W) nd)) cc0, below_drew1 (pw_below_drewN (Below.refl _ _) nd)⟩ (fun hHeld => ?_)
                          refine pure_ (i := 0) (N := some 64) (v := ?_) (a' := ?_) #[true, false, false, false, false, false, false, false, false] rfl rfl (by kernel_rfl) (fun _ _ _ h => h) (Or.inl ⟨by rfl, ?_⟩) ?_ ?_
                          rotate_left
                          · intro w'
                            go_simp
                            with_reducible rfl
                          rotate_left
                          · simp only [Act.put, List.setIfInBounds_toArray, List.set_cons_zero, List.set_cons_succ, i64_w, i32_w]
                            rfl
                          refine pure_ (i := 5) (N := some 69) (v := ?_) (a' := ?_) #[true, false, false, false, false, true, false, false, false] rfl rfl (by kernel_rfl) (fun _ _ _ h => h) (Or.inl ⟨by rfl, ?_⟩) ?_ ?_
                          rotate_left
                          · intro w'
                            go_simp
                            with_reducible rfl
                          rotate_left
                          · simp only [Act.put, List.setIfInBounds_toArray, List.set_cons_zero, List.set_cons_succ, i64_w, i32_w]
                            rfl
                          refine pure_ (i := 2) (N := some 66) (v := ?_) (a' := ?_) #[true, false, true, false, false, true, false, false, false] rfl rfl (by kernel_rfl) (fun _ _ _ h => h) (Or.inl ⟨by rfl, ?_⟩) ?_ ?_
                          rotate_left
                          · intro w'
                            go_simp
                            with_reducible rfl
                          rotate_left
                          · simp only [Act.put, List.setIfInBounds_toArray, List.set_cons_zero, List.set_cons_succ, i64_w, i32_w]
                            rfl
                          refine take_ (i := 3) (N := some 67) (v := ?_) (a' := ?_) #[true, false, true, true, false, true, false, false, false] rfl rfl (by kernel_rfl) (fun _ _ _ h => h) (Or.inl ⟨by rfl, ?_⟩) hHeld ?_ ?_
                          rotate_left
                          · rintro w' ⟨s0, _⟩
                            go_simp
                            with_reducible rfl
                          rotate_left
                          · simp only [Act.put, List.setIfInBounds_toArray, List.set_cons_zero, List.set_cons_succ, i64_w, i32_w]
                            rfl
                          refine one_ (i := 1) (N := some 65) #[true, true, true, true, false, true, false, false, false] rfl rfl (by kernel_rfl) (by decide) (fun K hK => ?_)
                          refine goesC_ Tryz.func100 (by kernel_rfl) rfl #[.pointer (some ⟨b, 0, none⟩)] #[.int .i64 0, .pointer (some ⟨b, 0, none⟩)] (by rfl) rfl rfl (by rfl) (by simp only [List.map_toArray, List.map_cons, List.map_nil, List.append_toArray, List.cons_append, List.nil_append]; rfl) ?_
                          refine (ih x _ A c b 0 0 rfl (by omega) HX.out HT.out HZ0.out (HG.out.below (below_drew1 (pw_below_drewN (Below.refl W.heap.size W) nd))) HL.out (Kd.C_below HC.out (below_drew1 (pw_below_drewN (Below.refl W.heap.size W) nd))) (((below_drew1 (pw_below_drewN (Below.refl W.heap.size W) nd))).block b hlt ▸ BK.out)).mono ?_
                          rintro e1 w1 ⟨rfl, hb⟩
                          have HB1 := Aside0.mk (below_step (below_drew1 (pw_below_drewN (Below.refl W.heap.size W) nd)) hb)
                          refine ⟨_, rfl, ?_⟩
                          clear hb
                          have z1 := pw_cell_below HB1.out cc0
                          refine hK.out _ _ ⟨z1, HB1.out⟩ (fun hHeld => ?_)
                          clear hK K z1
                          refine norm_ (a' := ?_) ?_ ?_
                          rotate_left
                          · show Act.put _ (some 65) _ = _
                            simp only [Act.put, List.setIfInBounds_toArray, List.set_cons_zero, List.set_cons_succ, i64_w, i32_w]
                            rfl
                          refine pure_ (i := 4) (N := some 68) (v := ?_) (a' := ?_) #[true, true, true, true, true, true, false, false, false] rfl rfl (by kernel_rfl) (fun _ _ _ h => h) (Or.inl ⟨by rfl, ?_⟩) ?_ ?_
                          rotate_left
                          · intro w'
                            go_simp
                            with_reducible rfl
                          rotate_left
                          · simp only [Act.put, List.setIfInBounds_toArray, List.set_cons_zero, List.set_cons_succ, i64_w, i32_w]
                            rfl
                          refine one_ (i := 6) (N := some 70) #[true, true, true, true, true, true, true, false, false] rfl rfl (by kernel_rfl) (by decide) (fun K hK => ?_)
                          refine goesC_ Tryz.func100 (by kernel_rfl) rfl #[.pointer (some ⟨b, 0, none⟩)] #[.int .i64 1, .pointer (some ⟨b, 0, none⟩)] (by rfl) rfl rfl (by rfl) (by simp only [List.map_toArray, List.map_cons, List.map_nil, List.append_toArray, List.cons_append, List.nil_append]; rfl) ?_
                          refine (ih x _ A c b 1 1 rfl (by omega) HX.out HT.out HZ1.out (HG.out.below HB1.out) HL.out (Kd.C_below HC.out HB1.out) ((HB1.out).block b hlt ▸ BK.out)).mono ?_
                          rintro e2 w2 ⟨rfl, hb⟩
                          have HB2 := Aside0.mk (below_step HB1.out hb)
                          refine ⟨_, rfl, ?_⟩
                          clear hb
                          have z2 := pw_cell_below HB2.out cc0
                          refine hK.out _ _ ⟨z2, HB2.out⟩ (fun hHeld => ?_)
                          clear hK K z2
                          refine norm_ (a' := ?_) ?_ ?_
                          rotate_left
                          · show Act.put _ (some 70) _ = _
                            simp only [Act.put, List.setIfInBounds_toArray, List.set_cons_zero, List.set_cons_succ, i64_w, i32_w]
                            rfl
                          refine pure_ (i := 7) (N := some 71) (v := ?_) (a' := ?_) #[true, true, true, true, true, true, true, true, false] rfl rfl (by kernel_rfl) (fun _ _ _ h => h) (Or.inl ⟨by rfl, ?_⟩) ?_ ?_
                          rotate_left
                          · intro w'
                            go_simp
                            with_reducible rfl
                          rotate_left
                          · simp only [Act.put, List.setIfInBounds_toArray, List.set_cons_zero, List.set_cons_succ, i64_w, i32_w]
                            rfl
                          refine pure_ (i := 8) (N := some 2) (v := ?_) (a' := ?_) #[true, true, true, true, true, true, true, true, true] rfl rfl (by kernel_rfl) (fun _ _ _ h => h) (Or.inl ⟨by rfl, ?_⟩) ?_ ?_
                          rotate_left
                          · intro w'
                            go_simp
                            with_reducible rfl
                          rotate_left
                          · simp only [Act.put, List.setIfInBounds_toArray, List.set_cons_zero, List.set_cons_succ, i64_w, i32_w]
                            rfl
                          refine done_ (by kernel_rfl) ?_
                          go_wp2
                          go_ret
                          exact ⟨by rw [HT0.out]; rfl, below_step HB.out HB2.out⟩
                        · have g0 := bigB_false hB
                          have BI := Aside0.mk (binds_is x.f0)
                          have f00 : (x.f0.toList == [118, 97, 108]) = false := beq_eq_false_iff_ne.mpr c0
                          have f10 : (x.f0.toList == [99, 111, 108]) = false := beq_eq_false_iff_ne.mpr c1
                          have f20 : (x.f0.toList == [111, 114]) = false := beq_eq_false_iff_ne.mpr c2
                          have f30 : (x.f0.toList == [97, 110, 100]) = false := beq_eq_false_iff_ne.mpr c3
                          have f40 : (x.f0.toList == [110, 111, 116]) = false := beq_eq_false_iff_ne.mpr c4
                          have f50 : (x.f0.toList == [110, 101, 103]) = false := beq_eq_false_iff_ne.mpr c5
                          have f60 : (x.f0.toList == [105, 115, 110, 117, 108, 108]) = false := beq_eq_false_iff_ne.mpr c6
                          have f70 : (x.f0.toList == [99, 111, 117, 110, 116]) = false := beq_eq_false_iff_ne.mpr c7
                          have f80 : (x.f0.toList == [115, 117, 109]) = false := beq_eq_false_iff_ne.mpr c8
                          have f90 : (x.f0.toList == [109, 105, 110]) = false := beq_eq_false_iff_ne.mpr c9
                          have f100 : (x.f0.toList == [109, 97, 120]) = false := beq_eq_false_iff_ne.mpr c10
                          have e0 := txt_eq x
                          unfold txtB at e0
                          rw [if_neg c0, if_neg c1, if_neg c2, if_neg c3, if_neg c4, if_neg c5, if_neg c6, if_neg c7, if_neg c8, if_neg c9, if_neg c10, if_neg hB] at e0
                          clear c0 c1 c2 c3 c4 c5 c6 c7 c8 c9 c10 hB
                          have HT0 := Aside0.mk e0
                          clear e0
                          rcases g0 with g0 | g0
                          · have g4 : decide (3 < Ps.binds x.f0) = false := decide_eq_false (by omega)
                            generalize Ps.binds x.f0 = bv at BI g4 g0
                            go_wp2_with (first | (go_at_call 102; refine (parse_binds.calls 3 _ _ _ BI.out).mono ?_; rintro e w4 ⟨rfl, ⟨nd, rfl⟩⟩))
                            go_ret
                            exact ⟨by rw [HT0.out]; rfl, pw_below_drewN HB.out nd⟩
                          · have g2 : (x.f0.toList == [105, 115]) = true := g0
                            have g3 : (x.f0.toList != [105, 115]) = false := by unfold bne; rw [g2]; rfl
                            by_cases g1 : Ps.binds x.f0 > 3
                            · have g4 : decide (3 < Ps.binds x.f0) = true := decide_eq_true g1
                              generalize Ps.binds x.f0 = bv at BI g4 g1
                              go_wp2_with (first | (go_at_call 102; refine (parse_binds.calls 3 _ _ _ BI.out).mono ?_; rintro e w4 ⟨rfl, ⟨nd, rfl⟩⟩))
                              go_ret
                              exact ⟨by rw [HT0.out]; rfl, pw_below_drewN HB.out nd⟩
                            · have g4 : decide (3 < Ps.binds x.f0) = false := decide_eq_false g1
                              generalize Ps.binds x.f0 = bv at BI g4 g1
                              go_wp2_with (first | (go_at_call 102; refine (parse_binds.calls 3 _ _ _ BI.out).mono ?_; rintro e w4 ⟨rfl, ⟨nd, rfl⟩⟩))
                              go_ret
                              exact ⟨by rw [HT0.out]; rfl, pw_below_drewN HB.out nd⟩
theorem all_txtP : ∀ n, InAt n ∧ TextAt n := by
  intro n
  induction n with
  | zero =>
    refine ⟨fun x w A c b iv i _ _ h => ?_, fun x w A c h => ?_⟩
    · have := fus_pos x.f3; omega
    · have := fu_eq x; omega
  | succ n ih => exact ⟨in_step n ih.2, text_step n ih.1⟩
theorem text_out {x : S43} {w : World} {A : Option Addr} {c : Nat} (hT : TG x) (hz : (txt x).size ≤ 1000000000) (hG : GV w) (hc : x.f3.length ≤ c) (hC : Kd.C k43 w A x.f3.length x.f3) : Calls Tryz.prog 41 #[.agg (cells43 x A c).toArray] w fun e w' => e = .returned (.string (txt x)) ∧ Below w.heap.size w w' :=
  (all_txtP _).2 x w A c (Nat.le_refl _) hT hz hG hc hC
end Go.Proofs.YtcgdncpioafbdaaGreatDoor.Q
/- The laws of layer 17 are awake: a statement that a call of Parse has left in a block; awake answers true. -/
namespace Go.Proofs.YtcgdncpioafbdaaGreatDoor.Q
open Go Go.RowKit Go.Proofs.YtcgdncpioafbdaaGreatDoorW.PrintWords Go.Proofs.YtcgdncpioafbdaaGreatDoorW.PrintLast Go.Proofs.YtcgdncpioafbdaaGreatDoorW.PrintMore
def awS : ByteArray := ⟨#[115, 101, 108, 101, 99, 116, 32, 97, 32, 102, 114, 111, 109, 32, 116, 32, 119, 104, 101, 114, 101, 32, 97, 32, 43, 32, 49, 32, 42, 32, 50, 32, 61, 32, 51, 32, 108, 105, 109, 105, 116, 32, 52, 59]⟩
def awT : ByteArray := ⟨#[115, 101, 108, 101, 99, 116]⟩
theorem aw0 : (parseS awS).2 = 0 := by decide +kernel
theorem aw1 : (parseS awT).2 = 20 := by decide +kernel
theorem aw2 : (parseS awS).1.f0 = 4 := by decide +kernel
theorem aw3 : (parseS awS).1.f1.data.toList = [116] := by decide +kernel
theorem aw4 : (parseS awS).1.f10 = 4 := by decide +kernel
theorem aw5 : (parseS awS).1.f7.length = 1 := by decide +kernel
theorem aw7 : TG (rd_T43 (parseS awS).1.f7 0) := by
  exact TG_of _ (by decide +kernel)
theorem tl_data (s : ByteArray) : s.toList = s.data.toList := Lib.toList_data s
theorem aw6 : ((parseS awS).1.f7.map fun e => (txt e).data.toList) = [[40, 40, 97, 41, 43, 40, 40, 49, 41, 42, 40, 50, 41, 41, 41, 61, 40, 51, 41]] := by decide +kernel
/-- A statement in a block of its own. -/
structure Held (B : Nat) (w : World) (b : Nat) (x : S60) (a : Ads) : Prop where
  blk : w.heap[b]? = some (.cells (celA x a) 60 (0, 0))
  low : B ≤ b
  fr : StA (fun q => B ≤ q) w x a
theorem Held.below {B : Nat} {w w' : World} {b : Nat} {x : S60} {a : Ads} (h : Held B w b x a) (hb : Below w.heap.size w w') : Held B w' b x a :=
  ⟨(hb.block b (blk_lt h.blk)).trans h.blk, h.low, h.fr.below hb⟩
theorem Held.lt {B : Nat} {w : World} {b : Nat} {x : S60} {a : Ads} (h : Held B w b x a) : b < w.heap.size := blk_lt h.blk
theorem Held.new {B : Nat} {w : World} {x : S60} {a : Ads} (h : StA (fun q => B ≤ q) w x a) (hB : B ≤ w.heap.size) : Held B (w.alloc (.cells (celA x a) 60 (0, 0))) w.heap.size x a :=
  ⟨new_blk _ rfl, hB, h.below (below_alloc (Below.refl _ _) _)⟩
set_option maxHeartbeats 1000000 in
set_option maxRecDepth 100000 in
theorem store60 (w1 : World) (x : S60) (a : Ads) : Sem.run Tryz.prog (storeCells ⟨w1.heap.size, 0, none⟩ (cells60 x a.a2 a.c2 a.a4 a.c4 a.a5 a.c5 a.a6 a.c6 a.a7 a.c7)) (w1.alloc (.cells #[.int .i64 0, .string ⟨#[]⟩, .slice none 0 0, .string ⟨#[]⟩, .slice none 0 0, .slice none 0 0, .slice none 0 0, .slice none 0 0, .string ⟨#[]⟩, .bool false, .int .i64 0] 60 (0, 0))) = .ok () (w1.alloc (.cells (celA x a) 60 (0, 0))) := by
  unfold cells60 celA
  go_simp
  rfl
theorem cells60_len (x : S60) (A2 : Option Addr) (c2 : Nat) (A4 : Option Addr) (c4 : Nat) (A5 : Option Addr) (c5 : Nat) (A6 : Option Addr) (c6 : Nat) (A7 : Option Addr) (c7 : Nat) : (cells60 x A2 c2 A4 c4 A5 c5 A6 c6 A7 c7).length = 11 := rfl
attribute [local go_sem high] store60 cells60_len
set_option maxHeartbeats 1000000 in
set_option maxRecDepth 100000 in
theorem awake_calls {w : World} (hG : GV w) : Calls Tryz.prog 40 #[] w fun e w' => e = .returned (.bool true) ∧ Below w.heap.size w w' := by
  have HG := Aside0.mk hG
  clear hG
  have HB := Aside0.mk (Below.refl w.heap.size w)
  go_enter Tryz.func40, Tryz.ntmps40
  obtain ⟨x1, hx1⟩ : ∃ x, (parseS (awS)).1 = x := ⟨_, rfl⟩
  obtain ⟨c1, hc1⟩ : ∃ c, (parseS (awS)).2 = c := ⟨_, rfl⟩
  have HX1 := Aside0.mk hx1
  have E1 := Aside0.mk hc1
  have PC1 : Aside0 (∀ v : World, GV v → Calls Tryz.prog 46 #[.string (awS)] v fun e w' => ∃ a : Ads, e = .returned (.tuple #[.agg (celA x1 a), .int .i64 c1]) ∧ StA (fun q => v.heap.size ≤ q) w' x1 a ∧ Below v.heap.size v w') := ⟨by
    intro v hv
    refine (parse_calls (awS) hv).mono ?_
    rintro e w' ⟨u, rfl, ⟨a, rfl, hF⟩, hb⟩
    exact ⟨a, by rw [HX1.out, E1.out], by rw [← HX1.out]; exact hF, hb⟩⟩
  clear hx1 hc1
  go_upto_region 2 with (first | (go_at_call 46; refine (PC1.out _ HG.out).mono ?_; rintro e v1 ⟨a1, rfl, hF, hb⟩; have HF1 := Aside0.mk hF; have HV1 := Aside0.mk (below_step HB.out hb); have HW1 := Aside0.mk hb; clear hF hb))
  have HD1 := Aside0.mk (Held.new HF1.out HW1.out.size)
  have HA1 := Aside0.mk (below_alloc HV1.out (.cells (celA x1 a1) 60 (0, 0)))
  have HU1 := Aside0.mk (below_alloc HW1.out (.cells (celA x1 a1) 60 (0, 0)))
  have HG1 := Aside0.mk (HG.out.below HU1.out)
  generalize hb1 : v1.heap.size = b1 at HD1 ⊢
  generalize hW1 : v1.alloc (.cells (celA x1 a1) 60 (0, 0)) = W1 at HD1 HA1 HG1  ⊢
  clear hb1 hW1 HF1 HV1 HW1 HU1 PC1
  obtain ⟨x2, hx2⟩ : ∃ x, (parseS (awT)).1 = x := ⟨_, rfl⟩
  obtain ⟨c2, hc2⟩ : ∃ c, (parseS (awT)).2 = c := ⟨_, rfl⟩
  have HX2 := Aside0.mk hx2
  have E2 := Aside0.mk hc2
  have PC2 : Aside0 (∀ v : World, GV v → Calls Tryz.prog 46 #[.string (awT)] v fun e w' => ∃ a : Ads, e = .returned (.tuple #[.agg (celA x2 a), .int .i64 c2]) ∧ StA (fun q => v.heap.size ≤ q) w' x2 a ∧ Below v.heap.size v w') := ⟨by
    intro v hv
    refine (parse_calls (awT) hv).mono ?_
    rintro e w' ⟨u, rfl, ⟨a, rfl, hF⟩, hb⟩
    exact ⟨a, by rw [HX2.out, E2.out], by rw [← HX2.out]; exact hF, hb⟩⟩
  clear hx2 hc2
  go_upto_region 3 with (first | (go_at_call 46; refine (PC2.out _ HG1.out).mono ?_; rintro e v2 ⟨a2, rfl, hF, hb⟩; have HF2 := Aside0.mk hF; have HV2 := Aside0.mk (below_step HA1.out hb); have HW2 := Aside0.mk hb; clear hF hb))
  have HD2 := Aside0.mk (Held.new HF2.out HW2.out.size)
  have HA2 := Aside0.mk (below_alloc HV2.out (.cells (celA x2 a2) 60 (0, 0)))
  have HU2 := Aside0.mk (below_alloc HW2.out (.cells (celA x2 a2) 60 (0, 0)))
  have HD1_ := Aside0.mk (HD1.out.below HU2.out)
  clear HD1
  have HD1 := HD1_
  clear HD1_
  have HG2 := Aside0.mk (HG1.out.below HU2.out)
  generalize hb2 : v2.heap.size = b2 at HD2 ⊢
  generalize hW2 : v2.alloc (.cells (celA x2 a2) 60 (0, 0)) = W2 at HD2 HA2 HG2 HD1 ⊢
  clear hb2 hW2 HF2 HV2 HW2 HU2 PC2
  have r1c0 : W2.cell? ⟨b1, 0, none⟩ = some (.int .i64 x1.f0) := (blk_cell HD1.out.blk 0).trans rfl
  have r1c1 : W2.cell? ⟨b1, 1, none⟩ = some (.string x1.f1) := (blk_cell HD1.out.blk 1).trans rfl
  have r1c7 : W2.cell? ⟨b1, 7, none⟩ = some (.slice a1.a7 x1.f7.length a1.c7) := (blk_cell HD1.out.blk 7).trans rfl
  have r1c10 : W2.cell? ⟨b1, 10, none⟩ = some (.int .i64 x1.f10) := (blk_cell HD1.out.blk 10).trans rfl
  have r1lt := HD1.out.lt
  have y0 : c1 = 0 := by rw [← E1.out]; exact aw0
  have y1 : c2 = 20 := by rw [← E2.out]; exact aw1
  have y2 : (x1.f0 == 4) = true := by rw [← HX1.out, aw2]; decide
  have y3 : (x1.f1.toList == [116]) = true := by rw [← HX1.out, tl_data, aw3]; decide
  have y4 : (x1.f10 == 4) = true := by rw [← HX1.out, aw4]; decide
  have l7 : x1.f7.length = 1 := by rw [← HX1.out]; exact aw5
  have HC := Aside0.mk (Kd.F_now HD1.out.fr.f7)
  have p1 : (0 : Int) < (x1.f7.length : Int) := by omega
  obtain ⟨ad, A5, c5, e5, q0, q1, q2, q3, q4, q5, hl5, hi5⟩ := at_T43 HC.out 0 (by omega) p1
  have y5 : ((x1.f7.length : Int) == 1) = true := by rw [l7]; decide
  have htx : (txt (rd_T43 x1.f7 0)).data.toList = [40, 40, 97, 41, 43, 40, 40, 49, 41, 42, 40, 50, 41, 41, 41, 61, 40, 51, 41] := by
    have h := aw6
    rw [HX1.out] at h
    cases hf : x1.f7 with
    | nil => rw [hf] at l7; cases l7
    | cons z r => rw [hf] at h; simp only [List.map_cons, List.cons.injEq] at h; exact h.1
  have y6 : ((txt (rd_T43 x1.f7 0)).toList == [40, 40, 97, 41, 43, 40, 40, 49, 41, 42, 40, 50, 41, 41, 41, 61, 40, 51, 41]) = true := by rw [tl_data, htx]; decide
  have HS := Aside0.mk (show (txt (rd_T43 x1.f7 0)).size ≤ 1000000000 by rw [← len_data, htx]; decide)
  have HT := Aside0.mk (show TG (rd_T43 x1.f7 0) by rw [← HX1.out]; exact aw7)
  generalize rd_T43 x1.f7 0 = z at q0 q1 q2 q3 q4 q5 hl5 hi5 y6 HS HT
  have HL := Aside0.mk hl5
  have HI := Aside0.mk hi5
  subst y0 y1
  have p2 : (0 < x1.f7.length) = True := eq_true (by omega)
  replace p1 := eq_true p1
  simp only [Int.toNat_zero, Nat.zero_mul, addr0] at q0 q1 q2 q3 q4 q5
  clear hl5 hi5 htx l7
  rw [e5] at r1c7
  go_wp2_with (first | (go_at_call 41; refine (text_out (x := z) (A := A5) (c := c5) HT.out HS.out HG2.out HL.out HI.out).mono ?_; rintro e w3 ⟨rfl, hb⟩; have HB3 := Aside0.mk hb; clear hb))
  go_ret
  exact ⟨rfl, below_step HA2.out HB3.out⟩
end Go.Proofs.YtcgdncpioafbdaaGreatDoor.Q
/- Tokens' letters one behind the other, with or without blanks between: the lexer gives these tokens, where no letter behind a token goes on with it. -/
namespace Go.Proofs.YtcgdncpioafbdaaGreatDoor.Lx
open Go Go.Proofs.YtcgdncpioafbdaaGreatDoor.Q
/-- May a byte stand behind a token's letters? -/
def nextOk (t : Tk) (c : UInt8) : Bool := if t.kind = 1 ∨ t.kind = 2 then !isPart c else if t.kind = 3 then c != 39 else t.s.length == 2 || (!twos.contains (t.s ++ [c]) && !(t.s == [45] && c == 45))
theorem tw_app {α} (p : α → Bool) (l g : List α) (h : ∀ x ∈ l, p x = true) (hg : ∀ c r, g = c :: r → p c = false) : (l ++ g).takeWhile p = l ∧ (l ++ g).dropWhile p = g := by
  induction l with
  | nil =>
    cases g with
    | nil => exact ⟨rfl, rfl⟩
    | cons c r => simp [List.takeWhile, List.dropWhile, hg c r rfl]
  | cons c r ih =>
    obtain ⟨h1, h2⟩ := ih (fun x hx => h x (by simp [hx]))
    simp [List.takeWhile, List.dropWhile, h c (by simp), h1, h2]
theorem digit_part {c : UInt8} (h : isPart c = false) : isDigit c = false := by
  unfold isPart at h
  simp only [Bool.or_eq_false_iff] at h
  exact h.1.2
theorem strA_glue (g : List UInt8) (hg : ∀ c r, g = c :: r → c ≠ 39) : ∀ (t : List UInt8), strA (dupQ t ++ 39 :: g) = some (t, (dupQ t).length + 1)
  | [] => by
    show strA (39 :: g) = some ([], 1)
    cases g with
    | nil => rfl
    | cons c r =>
      have : (c == 39) = false := by simpa using hg c r rfl
      simp [strA, this]
  | c :: r => by
    have ih := strA_glue g hg r
    by_cases hc : c = 39
    · subst hc
      show strA (39 :: 39 :: (dupQ r ++ 39 :: g)) = _
      rw [strA_two, ih]
      simp [dupQ]
    · have h1 : (c == 39) = false := by simpa using hc
      have e : dupQ (c :: r) = c :: dupQ r := by simp [dupQ, hc]
      rw [e]
      show strA (c :: (dupQ r ++ 39 :: g)) = _
      rw [strA_one c _ h1, ih]
      simp
theorem tokA_glue {t : Tk} (h : Good t) (g : List UInt8) (hg : ∀ c r, g = c :: r → nextOk t c = true) : tokA (piece t ++ g) = .ok (t, (piece t).length) := by
  rcases h with ⟨hk, hn, ⟨c, r, hs, hl⟩, hp, hlow, hlen⟩ | ⟨hk, hs, hn⟩ | ⟨hk, hn, hlen⟩ | ⟨hk, hn, hs⟩
  · obtain ⟨k, s, n⟩ := t
    simp only at hk hn hs hp hlow hlen
    subst hk hn hs
    have e : piece ⟨1, c :: r, 0⟩ = c :: r := rfl
    have h1 := (tw_app isPart (c :: r) g hp (fun d q hd => by have := hg d q hd; simpa [nextOk] using this)).1
    rw [e, List.cons_append]
    rw [List.cons_append] at h1
    simp only [tokA, hl, if_true]
    unfold wordA
    rw [h1, hlow, if_neg (by omega)]
  · obtain ⟨k, s, n⟩ := t
    simp only at hk hn hs
    subst hk hs
    have hd := digA_digit 20 n
    have hv := digA_val 20 n (by decide) (pow20 hn)
    have hne := digA_ne 20 n (by decide)
    have e : piece ⟨2, [], n⟩ = digA 20 n := rfl
    rw [e]
    have hgp : ∀ c r, g = c :: r → isPart c = false := fun d q hd => by have := hg d q hd; simpa [nextOk] using this
    obtain ⟨h1, h2⟩ := tw_app isDigit (digA 20 n) g hd (fun c r hc => digit_part (hgp c r hc))
    cases hx : digA 20 n with
    | nil => exact absurd hx hne
    | cons c r =>
      rw [hx] at hd hv h1 h2
      have hc := hd c (by simp)
      rw [List.cons_append]
      rw [List.cons_append] at h1 h2
      simp only [tokA, digit_letter c hc, hc, if_true]
      unfold numA
      have h3 : ((c :: (r ++ g)).dropWhile isDigit).head?.any isPart = false := by
        rw [h2]
        cases g with
        | nil => rfl
        | cons d q => simp [hgp d q rfl]
      rw [h1, h3, hv, if_neg (Nat.not_lt.2 hn)]
      rfl
  · obtain ⟨k, s, n⟩ := t
    simp only at hk hn hlen
    subst hk hn
    have e : piece ⟨3, s, 0⟩ = 39 :: (dupQ s ++ [39]) := rfl
    rw [e]
    have h1 : isLetter 39 = false := by decide
    have h2 : isDigit 39 = false := by decide
    show tokA (39 :: ((dupQ s ++ [39]) ++ g)) = _
    simp only [tokA, h1, h2]
    unfold textA
    have e2 : (dupQ s ++ [39]) ++ g = dupQ s ++ 39 :: g := by simp
    rw [e2, strA_glue g (fun d q hd => by have := hg d q hd; simpa [nextOk] using this)]
    simp only
    rw [if_neg (Nat.not_lt.2 hlen)]
    simp
  · obtain ⟨k, s, n⟩ := t
    simp only at hk hn hs
    subst hk hn
    have e : piece ⟨4, s, 0⟩ = s := rfl
    rw [e]
    have hS : ∀ s, (s ∈ twos ∨ s ∈ ones.map (fun c => [c])) → (∀ c r, g = c :: r → nextOk ⟨4, s, 0⟩ c = true) → tokA (s ++ g) = .ok (⟨4, s, 0⟩, s.length) := by
      intro s h hg
      have two : ∀ a b : UInt8, isLetter a = false → isDigit a = false → (a == 39) = false → twos.contains [a, b] = true → tokA ([a, b] ++ g) = .ok (⟨4, [a, b], 0⟩, 2) := by
        intro a b h1 h2 h3 h4
        show tokA (a :: b :: g) = _
        simp only [tokA, h1, h2, h3]
        unfold signT signA
        have e3 : (a :: b :: g).take 2 = [a, b] := rfl
        rw [e3, h4]
        rfl
      have one : ∀ a : UInt8, isLetter a = false → isDigit a = false → (a == 39) = false → ones.contains a = true → twos.contains [a] = false → (∀ c r, g = c :: r → twos.contains [a, c] = false) → tokA ([a] ++ g) = .ok (⟨4, [a], 0⟩, 1) := by
        intro a h1 h2 h3 h4 h5 h6
        show tokA (a :: g) = _
        simp only [tokA, h1, h2, h3]
        unfold signT signA
        have e3 : twos.contains ((a :: g).take 2) = false := by
          cases g with
          | nil => exact h5
          | cons c r => exact h6 c r rfl
        rw [e3]
        simp only [Bool.false_eq_true, if_false, h4, if_true]
        rfl
      have hg2 : s.length = 1 → ∀ c r, g = c :: r → twos.contains (s ++ [c]) = false := fun hl c r hc => by
        have := hg c r hc
        simp only [nextOk, hl] at this
        rw [if_neg (by decide), if_neg (by decide)] at this
        cases h2 : twos.contains (s ++ [c]) with
        | false => rfl
        | true => rw [h2] at this; cases this
      simp only [twos, ones, List.map_cons, List.map_nil, List.mem_cons, List.mem_nil_iff, or_false] at h
      rcases h with (rfl | rfl | rfl | rfl) | (rfl | rfl | rfl | rfl | rfl | rfl | rfl | rfl | rfl | rfl | rfl | rfl)
      · exact two _ _ (by decide) (by decide) (by decide) (by decide)
      · exact two _ _ (by decide) (by decide) (by decide) (by decide)
      · exact two _ _ (by decide) (by decide) (by decide) (by decide)
      · exact two _ _ (by decide) (by decide) (by decide) (by decide)
      all_goals exact one _ (by decide) (by decide) (by decide) (by decide) (by decide) (hg2 rfl)
    refine hS s ?_ hg
    rcases hs with h | ⟨c, hc, rfl⟩
    · exact .inl h
    · exact .inr (List.mem_map.2 ⟨c, hc, rfl⟩)
/-- One token ahead. -/
theorem toks_glue {t : Tk} (h : Good t) (g : List UInt8) (hg : ∀ c r, g = c :: r → nextOk t c = true) : toks (piece t ++ g) = bindTok t (toks g) := by
  obtain ⟨c, r, hp, ht, hb, h45⟩ := tokA_piece h
  have h2 := tokA_glue h g hg
  rw [hp] at h2 ⊢
  rw [List.cons_append] at h2 ⊢
  have hs : skipA false (c :: (r ++ g)) = c :: (r ++ g) := by
    simp only [skipA, hb]
    by_cases hc : c = 45
    · subst hc
      rw [h45 rfl] at hp ⊢
      have hh : ((45 : UInt8) == 45 && (([] ++ g).head? == some 45)) = false := by
        cases g with
        | nil => rfl
        | cons d q =>
          have h3 := hg d q rfl
          have hk : t.kind = 4 ∧ t.s = [45] := by
            rcases h with h | h | h | h
            · have : piece t = t.s := by unfold piece; rw [h.kind]; rfl
              rw [this] at hp
              obtain ⟨a, b, hs, hl⟩ := h.head
              rw [hp] at hs
              cases hs
              exact absurd hl (by decide)
            · have hd := digA_digit 20 t.n
              have : piece t = digA 20 t.n := by unfold piece; rw [h.kind]; rfl
              rw [this] at hp
              rw [hp] at hd
              exact absurd (hd 45 (by simp)) (by decide)
            · have : piece t = 39 :: (dupQ t.s ++ [39]) := by unfold piece; rw [h.kind]; rfl
              rw [this] at hp
              simp at hp
            · have : piece t = t.s := by unfold piece; rw [h.kind]; rfl
              exact ⟨h.kind, by rw [← this, hp]⟩
          simp only [nextOk, hk.1, hk.2] at h3
          simp at h3
          simp [h3.2]
      rw [hh]
      rfl
    · have : (c == 45) = false := by simpa using hc
      simp [this]
  rw [toks_ok hs h2]
  have e : (c :: (r ++ g)).drop (c :: r).length = g := by rw [← List.cons_append, List.drop_left]
  rw [e]
theorem toks_blank (g : List UInt8) : toks (32 :: g) = toks g := toks_cong (l := 32 :: g) (m := g) rfl
/-- A text of tokens and blanks. -/
inductive It where
  | bl
  | tk (t : Tk)
def It.text : It → List UInt8
  | .bl => [32]
  | .tk t => piece t
def textIt (l : List It) : List UInt8 := (l.map It.text).flatten
def toksIt : List It → List Tk
  | [] => []
  | .bl :: l => toksIt l
  | .tk t :: l => t :: toksIt l
/-- No token goes on into what stands behind it. -/
def fits : List It → Prop
  | [] => True
  | .bl :: l => fits l
  | .tk t :: l => Good t ∧ (∀ c r, textIt l = c :: r → nextOk t c = true) ∧ fits l
theorem textIt_cons (i : It) (l : List It) : textIt (i :: l) = i.text ++ textIt l := rfl
theorem toks_it : ∀ l : List It, fits l → toks (textIt l) = .ok (toksIt l)
  | [], _ => toks_nil rfl
  | .bl :: l, h => by
    rw [textIt_cons]
    show toks (32 :: textIt l) = _
    rw [toks_blank, toks_it l h]
    rfl
  | .tk t :: l, h => by
    rw [textIt_cons]
    show toks (piece t ++ textIt l) = _
    rw [toks_glue h.1 _ h.2.1, toks_it l h.2.2]
    rfl
theorem good_word {l : List UInt8} (h : (match l with | [] => false | c :: _ => isLetter c && l.all (fun c => isPart c && lowerB c == c) && decide (l.length ≤ 30)) = true) : Good ⟨1, l, 0⟩ := by
  cases l with
  | nil => simp at h
  | cons c r =>
    simp only [Bool.and_eq_true, decide_eq_true_eq] at h
    obtain ⟨⟨h1, h2⟩, h3⟩ := h
    have h4 := List.all_eq_true.1 h2
    refine .inl ⟨rfl, rfl, ⟨c, r, rfl, h1⟩, fun x hx => by have := h4 x hx; simp only [Bool.and_eq_true] at this; exact this.1, ?_, h3⟩
    have : ∀ m : List UInt8, (∀ x ∈ m, lowerB x = x) → m.map lowerB = m := by
      intro m hm
      induction m with
      | nil => rfl
      | cons a b ih => rw [List.map_cons, hm a (by simp), ih (fun x hx => hm x (by simp [hx]))]
    exact this _ (fun x hx => by have := h4 x hx; simp only [Bool.and_eq_true] at this; simpa using this.2)
theorem good_sign {l : List UInt8} (h : (twos.contains l || ones.any (fun c => l == [c])) = true) : Good ⟨4, l, 0⟩ := by
  refine .inr (.inr (.inr ⟨rfl, rfl, ?_⟩))
  simp only [Bool.or_eq_true] at h
  rcases h with h | h
  · left
    simpa using h
  · right
    obtain ⟨c, hc, he⟩ := List.any_eq_true.1 h
    exact ⟨c, hc, by simpa using he⟩
theorem good_num {n : Nat} (h : n ≤ 9223372036854775807) : Good ⟨2, [], n⟩ := .inr (.inl ⟨rfl, rfl, h⟩)
end Go.Proofs.YtcgdncpioafbdaaGreatDoor.Lx
/- Plain: what Parse makes of a word where a name may stand. -/
namespace Go.Proofs.YtcgdncpioafbdaaGreatDoor.Q
open Go Go.RowKit Go.Proofs.YtcgdncpioafbdaaGreatDoorW.PrintWords
theorem tl_mk (a : Array UInt8) : (⟨a⟩ : ByteArray).toList = a.toList := tl_data _
abbrev wd (s : ByteArray) : S32 := ⟨1, s, 0⟩
theorem z32e : z32 = ⟨0, ⟨#[]⟩, 0⟩ := rfl
/-! ### Reserved -/
theorem res_l (s : ByteArray) (x5 : List ByteArray) (hl : x5.length < 4611686018427387904) : ∀ (n k i : Nat), x5.length - i = n → n < k → i ≤ x5.length → vidimusref17_Reserved.l0 k s x5 (x5.length : Int) (i : Int) = some ((x5.drop i).any fun x => x.toList == s.toList)
  | n, 0, i, _, h, _ => by omega
  | 0, k + 1, i, hn, _, hi => by
    rw [vidimusref17_Reserved.l0, if_neg (by omega), List.drop_of_length_le (by omega)]
    rfl
  | n + 1, k + 1, i, hn, hk, hi => by
    have hlt : i < x5.length := by omega
    rw [vidimusref17_Reserved.l0, if_pos (by omega), if_pos (by omega), if_pos (by omega)]
    have e : rdOf ByteArray.empty x5 (i : Int) = x5[i] := by
      unfold rdOf
      rw [Int.toNat_natCast, List.getD_eq_getElem?_getD, List.getElem?_eq_getElem hlt]
      rfl
    have ew : wrap64 ((i : Int) + 1) = ((i + 1 : Nat) : Int) := by rw [w64 (by omega) (by omega)]; omega
    rw [e, List.drop_eq_getElem_cons hlt, List.any_cons, ew]
    by_cases h : x5[i].toList = s.toList
    · rw [if_pos h, h]
      simp
    · rw [if_neg h, res_l s x5 hl n k (i + 1) (by omega) (by omega) (by omega), beq_eq_false_iff_ne.mpr h]
      rfl
theorem Reserved_is (s : ByteArray) (k : Nat) (hk : 40 ≤ k) : vidimusref17_Reserved.f k s = some (Ps.reserved s) := by
  unfold vidimusref17_Reserved.f
  simp only [Option.bind_some]
  rw [show (0 : Int) = ((0 : Nat) : Int) from rfl, res_l s _ (by decide) 29 k 0 rfl (by omega) (by omega)]
  unfold Ps.reserved Ps.resL
  rw [List.drop_zero, List.contains_eq_any_beq]
  simp only [List.any_cons, List.any_nil, tl_mk, Bool.beq_comm (a := s.toList)]
/-! ### Texts -/
theorem data_app (a b : ByteArray) : (a ++ b).data.toList = a.data.toList ++ b.data.toList := by simp
structure SmallW (s : ByteArray) : Prop where
  low : ∀ c ∈ s.data.toList, 97 ≤ c ∧ c ≤ 122
  one : 1 ≤ s.size
  len : s.size ≤ 30
theorem small_letter (c : UInt8) : 97 ≤ c ∧ c ≤ 122 → Lx.isLetter c = true ∧ Lx.isPart c = true ∧ Lx.lowerB c = c ∧ Lx.isBlank c = false := Lx.all8 (p := fun c => 97 ≤ c ∧ c ≤ 122 → Lx.isLetter c = true ∧ Lx.isPart c = true ∧ Lx.lowerB c = c ∧ Lx.isBlank c = false) (by decide +kernel) c
theorem SmallW.good {s : ByteArray} (h : SmallW s) : Lx.Good ⟨1, s.data.toList, 0⟩ := by
  refine Lx.good_word ?_
  have h1 := h.one
  have h2 := h.len
  have hl := len_data s
  cases e : s.data.toList with
  | nil => rw [e] at hl; simp at hl; omega
  | cons c r =>
    simp only [Bool.and_eq_true, decide_eq_true_eq]
    refine ⟨⟨(small_letter c (h.low c (by rw [e]; simp))).1, List.all_eq_true.2 fun x hx => ?_⟩, ?_⟩
    · obtain ⟨_, p1, p2, _⟩ := small_letter x (h.low x (by rw [e]; exact hx))
      simp [p1, p2]
    · rw [← e, hl]; exact h2
theorem SmallW.ne {s : ByteArray} (h : SmallW s) : s.data.toList ≠ [] := by
  intro e
  have := len_data s
  rw [e] at this
  have := h.one
  simp at *
  omega
theorem parseS_toks {s : ByteArray} {ts : List Lx.Tk} (hs : s.size ≤ 4000) (h : Lx.toks s.data.toList = .ok ts) : parseS s = parseA (ts.map tk32 ++ [z32]) := by
  unfold parseS tokF
  rw [Lx.lexA_toks, if_neg (by rw [len_data]; omega), h]
  rfl
theorem fits_bl {t : Lx.Tk} {l : List Lx.It} (hg : Lx.Good t) (h : Lx.nextOk t 32 = true) (hl : Lx.fits l) : Lx.fits (.tk t :: .bl :: l) :=
  ⟨hg, fun c r hc => by
    rw [Lx.textIt_cons] at hc
    simp only [Lx.It.text, List.cons_append, List.cons.injEq] at hc
    rw [← hc.1]; exact h, hl⟩
theorem fits_tk {t u : Lx.Tk} {l : List Lx.It} (hg : Lx.Good t) (h : ∀ c r, Lx.piece u = c :: r → Lx.nextOk t c = true) (hl : Lx.fits (.tk u :: l)) : Lx.fits (.tk t :: .tk u :: l) :=
  ⟨hg, fun c r hc => by
    obtain ⟨d, q, hp, _⟩ := Lx.tokA_piece hl.1
    rw [Lx.textIt_cons] at hc
    simp only [Lx.It.text, hp, List.cons_append, List.cons.injEq] at hc
    rw [← hc.1]; exact h d q hp, hl⟩
theorem fits_end {t : Lx.Tk} (hg : Lx.Good t) : Lx.fits [.tk t] := ⟨hg, fun c r hc => (by cases hc), trivial⟩
theorem ok_open (c : UInt8) : Lx.nextOk ⟨4, [40], 0⟩ c = true := by
  have h1 : Lx.twos.contains [40, c] = false := by simp [Lx.twos]
  have : Lx.nextOk ⟨4, [40], 0⟩ c = (false || (!Lx.twos.contains [40, c] && !(([40] : List UInt8) == [45] && c == 45))) := rfl
  rw [this, h1]
  rfl
theorem word_blank (l : List UInt8) : Lx.nextOk ⟨1, l, 0⟩ 32 = true := by
  have : Lx.nextOk ⟨1, l, 0⟩ 32 = !Lx.isPart 32 := rfl
  rw [this]; decide
def T1 (s : ByteArray) : ByteArray := (⟨#[100, 114, 111, 112, 32, 116, 97, 98, 108, 101, 32]⟩ : ByteArray) ++ s
theorem T1_parse {s : ByteArray} (h : SmallW s) : parseS (T1 s) = parseA [⟨1, ⟨#[100, 114, 111, 112]⟩, 0⟩, ⟨1, ⟨#[116, 97, 98, 108, 101]⟩, 0⟩, wd s, z32] := by
  have hf : Lx.fits [.tk ⟨1, [100, 114, 111, 112], 0⟩, .bl, .tk ⟨1, [116, 97, 98, 108, 101], 0⟩, .bl, .tk ⟨1, s.data.toList, 0⟩] := (fits_bl (Lx.good_word (by decide)) (word_blank _) (fits_bl (Lx.good_word (by decide)) (word_blank _) (fits_end h.good)))
  have ht := Lx.toks_it _ hf
  have e : Lx.textIt [.tk ⟨1, [100, 114, 111, 112], 0⟩, .bl, .tk ⟨1, [116, 97, 98, 108, 101], 0⟩, .bl, .tk ⟨1, s.data.toList, 0⟩] = (T1 s).data.toList := by
    unfold T1
    simp only [data_app]
    simp [Lx.textIt, Lx.It.text, Lx.piece, digits, digA]
  rw [e] at ht
  rw [parseS_toks (by unfold T1; have := h.len; rw [ByteArray.size_append, show (⟨#[100, 114, 111, 112, 32, 116, 97, 98, 108, 101, 32]⟩ : ByteArray).size = 11 from rfl]; omega) ht]
  simp only [Lx.toksIt, List.map_cons, List.map_nil, tk32, ba_of, List.cons_append, List.nil_append]
  rfl
def T2 (s : ByteArray) : ByteArray := ((⟨#[99, 114, 101, 97, 116, 101, 32, 116, 97, 98, 108, 101, 32, 116, 32, 40]⟩ : ByteArray) ++ s) ++ (⟨#[32, 105, 110, 116, 32, 107, 101, 121, 41]⟩ : ByteArray)
theorem T2_parse {s : ByteArray} (h : SmallW s) : parseS (T2 s) = parseA [⟨1, ⟨#[99, 114, 101, 97, 116, 101]⟩, 0⟩, ⟨1, ⟨#[116, 97, 98, 108, 101]⟩, 0⟩, ⟨1, ⟨#[116]⟩, 0⟩, ⟨4, ⟨#[40]⟩, 0⟩, wd s, ⟨1, ⟨#[105, 110, 116]⟩, 0⟩, ⟨1, ⟨#[107, 101, 121]⟩, 0⟩, ⟨4, ⟨#[41]⟩, 0⟩, z32] := by
  have hf : Lx.fits [.tk ⟨1, [99, 114, 101, 97, 116, 101], 0⟩, .bl, .tk ⟨1, [116, 97, 98, 108, 101], 0⟩, .bl, .tk ⟨1, [116], 0⟩, .bl, .tk ⟨4, [40], 0⟩, .tk ⟨1, s.data.toList, 0⟩, .bl, .tk ⟨1, [105, 110, 116], 0⟩, .bl, .tk ⟨1, [107, 101, 121], 0⟩, .tk ⟨4, [41], 0⟩] := (fits_bl (Lx.good_word (by decide)) (word_blank _) (fits_bl (Lx.good_word (by decide)) (word_blank _) (fits_bl (Lx.good_word (by decide)) (word_blank _) (fits_tk (Lx.good_sign (by decide)) (fun c _ _ => ok_open c) (fits_bl h.good (word_blank _) (fits_bl (Lx.good_word (by decide)) (word_blank _) (fits_tk (Lx.good_word (by decide)) (by intro c r hc; cases hc; decide) (fits_end (Lx.good_sign (by decide))))))))))
  have ht := Lx.toks_it _ hf
  have e : Lx.textIt [.tk ⟨1, [99, 114, 101, 97, 116, 101], 0⟩, .bl, .tk ⟨1, [116, 97, 98, 108, 101], 0⟩, .bl, .tk ⟨1, [116], 0⟩, .bl, .tk ⟨4, [40], 0⟩, .tk ⟨1, s.data.toList, 0⟩, .bl, .tk ⟨1, [105, 110, 116], 0⟩, .bl, .tk ⟨1, [107, 101, 121], 0⟩, .tk ⟨4, [41], 0⟩] = (T2 s).data.toList := by
    unfold T2
    simp only [data_app]
    simp [Lx.textIt, Lx.It.text, Lx.piece, digits, digA]
  rw [e] at ht
  rw [parseS_toks (by unfold T2; have := h.len; rw [ByteArray.size_append, ByteArray.size_append, show (⟨#[99, 114, 101, 97, 116, 101, 32, 116, 97, 98, 108, 101, 32, 116, 32, 40]⟩ : ByteArray).size = 16 from rfl, show (⟨#[32, 105, 110, 116, 32, 107, 101, 121, 41]⟩ : ByteArray).size = 9 from rfl]; omega) ht]
  simp only [Lx.toksIt, List.map_cons, List.map_nil, tk32, ba_of, List.cons_append, List.nil_append]
  rfl
def T3 (s : ByteArray) : ByteArray := ((⟨#[117, 112, 100, 97, 116, 101, 32, 116, 32, 115, 101, 116, 32]⟩ : ByteArray) ++ s) ++ (⟨#[32, 61, 32, 49]⟩ : ByteArray)
theorem T3_parse {s : ByteArray} (h : SmallW s) : parseS (T3 s) = parseA [⟨1, ⟨#[117, 112, 100, 97, 116, 101]⟩, 0⟩, ⟨1, ⟨#[116]⟩, 0⟩, ⟨1, ⟨#[115, 101, 116]⟩, 0⟩, wd s, ⟨4, ⟨#[61]⟩, 0⟩, ⟨2, ⟨#[]⟩, 1⟩, z32] := by
  have hf : Lx.fits [.tk ⟨1, [117, 112, 100, 97, 116, 101], 0⟩, .bl, .tk ⟨1, [116], 0⟩, .bl, .tk ⟨1, [115, 101, 116], 0⟩, .bl, .tk ⟨1, s.data.toList, 0⟩, .bl, .tk ⟨4, [61], 0⟩, .bl, .tk ⟨2, [], 1⟩] := (fits_bl (Lx.good_word (by decide)) (word_blank _) (fits_bl (Lx.good_word (by decide)) (word_blank _) (fits_bl (Lx.good_word (by decide)) (word_blank _) (fits_bl h.good (word_blank _) (fits_bl (Lx.good_sign (by decide)) (by decide) (fits_end (Lx.good_num (by decide))))))))
  have ht := Lx.toks_it _ hf
  have e : Lx.textIt [.tk ⟨1, [117, 112, 100, 97, 116, 101], 0⟩, .bl, .tk ⟨1, [116], 0⟩, .bl, .tk ⟨1, [115, 101, 116], 0⟩, .bl, .tk ⟨1, s.data.toList, 0⟩, .bl, .tk ⟨4, [61], 0⟩, .bl, .tk ⟨2, [], 1⟩] = (T3 s).data.toList := by
    unfold T3
    simp only [data_app]
    simp [Lx.textIt, Lx.It.text, Lx.piece, digits, digA]
  rw [e] at ht
  rw [parseS_toks (by unfold T3; have := h.len; rw [ByteArray.size_append, ByteArray.size_append, show (⟨#[117, 112, 100, 97, 116, 101, 32, 116, 32, 115, 101, 116, 32]⟩ : ByteArray).size = 13 from rfl, show (⟨#[32, 61, 32, 49]⟩ : ByteArray).size = 4 from rfl]; omega) ht]
  simp only [Lx.toksIt, List.map_cons, List.map_nil, tk32, ba_of, List.cons_append, List.nil_append]
  rfl
def T4 (s : ByteArray) : ByteArray := (⟨#[100, 101, 108, 101, 116, 101, 32, 102, 114, 111, 109, 32, 116, 32, 119, 104, 101, 114, 101, 32]⟩ : ByteArray) ++ s
theorem T4_parse {s : ByteArray} (h : SmallW s) : parseS (T4 s) = parseA [⟨1, ⟨#[100, 101, 108, 101, 116, 101]⟩, 0⟩, ⟨1, ⟨#[102, 114, 111, 109]⟩, 0⟩, ⟨1, ⟨#[116]⟩, 0⟩, ⟨1, ⟨#[119, 104, 101, 114, 101]⟩, 0⟩, wd s, z32] := by
  have hf : Lx.fits [.tk ⟨1, [100, 101, 108, 101, 116, 101], 0⟩, .bl, .tk ⟨1, [102, 114, 111, 109], 0⟩, .bl, .tk ⟨1, [116], 0⟩, .bl, .tk ⟨1, [119, 104, 101, 114, 101], 0⟩, .bl, .tk ⟨1, s.data.toList, 0⟩] := (fits_bl (Lx.good_word (by decide)) (word_blank _) (fits_bl (Lx.good_word (by decide)) (word_blank _) (fits_bl (Lx.good_word (by decide)) (word_blank _) (fits_bl (Lx.good_word (by decide)) (word_blank _) (fits_end h.good)))))
  have ht := Lx.toks_it _ hf
  have e : Lx.textIt [.tk ⟨1, [100, 101, 108, 101, 116, 101], 0⟩, .bl, .tk ⟨1, [102, 114, 111, 109], 0⟩, .bl, .tk ⟨1, [116], 0⟩, .bl, .tk ⟨1, [119, 104, 101, 114, 101], 0⟩, .bl, .tk ⟨1, s.data.toList, 0⟩] = (T4 s).data.toList := by
    unfold T4
    simp only [data_app]
    simp [Lx.textIt, Lx.It.text, Lx.piece, digits, digA]
  rw [e] at ht
  rw [parseS_toks (by unfold T4; have := h.len; rw [ByteArray.size_append, show (⟨#[100, 101, 108, 101, 116, 101, 32, 102, 114, 111, 109, 32, 116, 32, 119, 104, 101, 114, 101, 32]⟩ : ByteArray).size = 20 from rfl]; omega) ht]
  simp only [Lx.toksIt, List.map_cons, List.map_nil, tk32, ba_of, List.cons_append, List.nil_append]
  rfl
theorem read_ok {ts : List S32} {x : S60} (h : Ps.read KP ts = some x) (h1 : longB x = false) (h2 : twiceB x = false) : parseA ts = (x, 0) := by
  unfold parseA
  rw [h]
  simp only [h1, h2]
  rfl
theorem not_res {s : ByteArray} (hr : Ps.reserved s = false) : ∀ x ∈ Ps.resL, s.toList ≠ x := by
  intro x hx e
  unfold Ps.reserved at hr
  rw [e] at hr
  have := List.contains_iff_mem.2 hx
  rw [hr] at this
  cases this
theorem KPs : KP = (KP - 30) + 30 := by decide
theorem t_free : Ps.reserved ⟨#[116]⟩ = false := by decide +kernel
theorem b_none : Ps.binds ⟨#[]⟩ = 0 := by decide +kernel
theorem names_free {s : ByteArray} (h : SmallW s) (hr : Ps.reserved s = false) : (parseS (T1 s)).2 = 0 ∧ (parseS (T2 s)).2 = 0 ∧ (parseS (T3 s)).2 = 0 ∧ parseS (T4 s) = ({ Ps.st0 with f0 := 6, f1 := ⟨#[116]⟩, f7 := [⟨Ps.sCol, Ps.v0, s, []⟩] }, 0) := by
  have hs : s.toList ≠ [] := by rw [tl_data]; exact h.ne
  have hn := not_res hr
  have n1 := hn [110, 111, 116] (by decide)
  have n2 := hn [110, 117, 108, 108] (by decide)
  have n3 := hn [99, 111, 117, 110, 116] (by decide)
  have n4 := hn [115, 117, 109] (by decide)
  have n5 := hn [109, 105, 110] (by decide)
  have n6 := hn [109, 97, 120] (by decide)
  have low : ∀ c, c < 97 → s.toList ≠ [c] := fun c hc e => by
    rw [tl_data] at e
    have := (h.low c (by rw [e]; simp)).1
    exact absurd this (UInt8.not_le.2 hc)
  have n7 := low 45 (by decide)
  have n8 := low 40 (by decide)
  have h1 := t_free
  have h2 := b_none
  rw [T1_parse h, T2_parse h, T3_parse h, T4_parse h]
  refine ⟨?_, ?_, ?_, ?_⟩
  · rw [read_ok (x := { Ps.st0 with f0 := 2, f1 := s }) (by simp [Ps.read, Ps.stmt, Ps.head, Ps.ms, Ps.tk, Ps.pk, Ps.nx, Ps.nm, Ps.fin, hr, tl_mk, z32e]) (by kernel_rfl) (by kernel_rfl)]
  · rw [read_ok (x := { Ps.st0 with f0 := 1, f1 := ⟨#[116]⟩, f2 := [⟨s, 1, 0⟩], f3 := s }) (by rw [KPs]; simp [Ps.read, Ps.stmt, Ps.head, Ps.ms, Ps.tk, Ps.pk, Ps.nx, Ps.nm, Ps.fin, Ps.list, Ps.lst, Ps.column, Ps.colB, hr, tl_mk, z32e, hs, h1]) (by kernel_rfl) (by kernel_rfl)]
  · rw [read_ok (x := { Ps.st0 with f0 := 5, f1 := ⟨#[116]⟩, f6 := [⟨s, Ps.val ⟨1, 1, ⟨#[]⟩⟩⟩] }) (by rw [KPs]; simp [Ps.read, Ps.stmt, Ps.head, Ps.ms, Ps.tk, Ps.pk, Ps.nx, Ps.nm, Ps.fin, Ps.list, Ps.lst, Ps.setU, Ps.set, Ps.whr, Ps.expr, Ps.first, Ps.more, hr, tl_mk, z32e, hs, h1, h2, Ps.st0, z60]) (by kernel_rfl) (by kernel_rfl)]
  · rw [read_ok (x := { Ps.st0 with f0 := 6, f1 := ⟨#[116]⟩, f7 := [⟨Ps.sCol, Ps.v0, s, []⟩] }) (by rw [KPs]; simp [Ps.read, Ps.stmt, Ps.head, Ps.ms, Ps.tk, Ps.pk, Ps.nx, Ps.nm, Ps.fin, Ps.whr, Ps.expr, Ps.first, Ps.more, hr, tl_mk, z32e, hs, h1, h2, n1, n2, n3, n4, n5, n6, n7, n8]) (by kernel_rfl) (by kernel_rfl)]
theorem names_all : (Ps.resL.all fun l => decide ((parseS (T1 (ba l))).2 ≠ 0 ∧ (parseS (T2 (ba l))).2 ≠ 0 ∧ (parseS (T3 (ba l))).2 ≠ 0 ∧ ((parseS (T4 (ba l))).2 = 0 ↔ l = [110, 117, 108, 108]))) = true := by decide +kernel
theorem names_res {s : ByteArray} (hr : Ps.reserved s = true) : (parseS (T1 s)).2 ≠ 0 ∧ (parseS (T2 s)).2 ≠ 0 ∧ (parseS (T3 s)).2 ≠ 0 ∧ ((parseS (T4 s)).2 = 0 ↔ s.toList = [110, 117, 108, 108]) := by
  unfold Ps.reserved at hr
  have hm := List.contains_iff_mem.1 hr
  have := List.all_eq_true.1 names_all _ hm
  rw [tl_data, ba_of] at this
  rw [tl_data]
  simpa using this
end Go.Proofs.YtcgdncpioafbdaaGreatDoor.Q
/- ParseNames walked: true. -/
namespace Go.Proofs.YtcgdncpioafbdaaGreatDoor.Q
open Go Go.RowKit Go.Proofs.YtcgdncpioafbdaaGreatDoorW.PrintWords Go.Proofs.YtcgdncpioafbdaaGreatDoorW.PrintLast Go.Proofs.YtcgdncpioafbdaaGreatDoorW.PrintMore
attribute [local go_sem high] store60 cells60_len
theorem SmallW.of {s : ByteArray} (h1 : 1 ≤ s.size) (h2 : s.size ≤ 30) (h : ∀ i (hi : i < s.size), 97 ≤ bt s (i : Int) ∧ bt s (i : Int) ≤ 122) : SmallW s := by
  refine ⟨fun c hc => ?_, h1, h2⟩
  obtain ⟨i, hi, rfl⟩ := List.getElem_of_mem hc
  rw [len_data] at hi
  have := h i hi
  rw [bt_get s i hi] at this
  have e : s.data.toList[i] = s[i]'hi := rfl
  rw [e]
  exact ⟨UInt8.le_iff_toNat_le.2 (by have := this.1; simp; omega), UInt8.le_iff_toNat_le.2 (by have := this.2; simp; omega)⟩
set_option maxHeartbeats 4000000 in
set_option maxRecDepth 100000 in
theorem names_calls {w : World} (s : ByteArray) (hG : GV w) : Calls Tryz.prog 11 #[.string s] w fun e w' => e = .returned (.bool true) ∧ Below w.heap.size w w' := by
  have HG := Aside0.mk hG
  clear hG
  by_cases h1 : s.size < 1
  · go_enter Tryz.func11, Tryz.ntmps11
    go_wp2_with (first | (go_at_call 40; refine (awake_calls HG.out).mono ?_; rintro e v ⟨rfl, hb⟩; have HBv := Aside0.mk hb; clear hb))
    go_ret
    exact ⟨rfl, HBv.out⟩
  · by_cases h2 : 30 < s.size
    · go_enter Tryz.func11, Tryz.ntmps11
      go_wp2_with (first | (go_at_call 40; refine (awake_calls HG.out).mono ?_; rintro e v ⟨rfl, hb⟩; have HBv := Aside0.mk hb; clear hb))
      go_ret
      exact ⟨rfl, HBv.out⟩
    · have h3 : s.size ≤ 30 := by omega
      have h4 : 1 ≤ s.size := by omega
      clear h1 h2
      go_enter Tryz.func11, Tryz.ntmps11
      go_upto_region 5 with (first | (go_at_call 40; refine (awake_calls HG.out).mono ?_; rintro e v ⟨rfl, hb⟩; have HBv := Aside0.mk hb; clear hb))
      have HGv := Aside0.mk (HG.out.below HBv.out)
      clear HG
      have HG := HGv
      have HB := HBv
      clear HGv HBv
      go_upto_region 6 with (fail)
      go_loopg [3, 25] s.size (fun kq v3 v25 w' => ∃ j : Nat, v25 = .int .i64 (j : Int) ∧ Aside0 (j + kq = s.size) ∧ Aside0 (∀ i, i < j → 97 ≤ bt s (i : Int) ∧ bt s (i : Int) ≤ 122) ∧ Aside0 (w' = v))
      case atStart => exact ⟨0, rfl, ⟨by omega⟩, ⟨fun i h => absurd h (by omega)⟩, ⟨rfl⟩⟩
      case round =>
        obtain ⟨j, rfl, HJ, HI, HW⟩ := hrel
        obtain rfl := HW.out
        clear HW
        cases gk with
        | zero =>
          have HS := Aside0.mk (SmallW.of h4 h3 (fun i hi => HI.out i (by have := HJ.out; omega)))
          have d0 : decide ((j : Int) < (s.size : Int)) = false := decide_eq_false (by have := HJ.out; omega)
          have d1 : decide (j < s.size) = false := decide_eq_false (by have := HJ.out; omega)
          have HR := Aside0.mk (Reserved_is s 40 (by omega))
          cases hr : Ps.reserved s with
          | false =>
            rw [hr] at HR
            have HF := Aside0.mk hr
            clear hr
            go_upto_region 12 with (first | (go_at_call 50; refine (vidimusref17_Reserved.calls 40 s _ _ (HR.out)).mono ?_; rintro e v0 ⟨rfl, hb⟩; have HB0 := Aside0.mk (below_step HB.out hb); have HG0 := Aside0.mk (HG.out.below hb); clear hb))
            obtain ⟨x1, hx1⟩ : ∃ x, (parseS (T1 s)).1 = x := ⟨_, rfl⟩
            obtain ⟨c1, hc1⟩ : ∃ c, (parseS (T1 s)).2 = c := ⟨_, rfl⟩
            have HX1 := Aside0.mk hx1
            have E1 := Aside0.mk hc1
            have PC1 : Aside0 (∀ v : World, GV v → Calls Tryz.prog 46 #[.string (T1 s)] v fun e w' => ∃ a : Ads, e = .returned (.tuple #[.agg (celA x1 a), .int .i64 c1]) ∧ StA (fun q => v.heap.size ≤ q) w' x1 a ∧ Below v.heap.size v w') := ⟨by
              intro v hv
              refine (parse_calls (T1 s) hv).mono ?_
              rintro e w' ⟨u, rfl, ⟨a, rfl, hF⟩, hb⟩
              exact ⟨a, by rw [HX1.out, E1.out], by rw [← HX1.out]; exact hF, hb⟩⟩
            clear hx1 hc1
            go_upto_region 13 with (first | (go_at_call 46; refine (PC1.out _ HG0.out).mono ?_; rintro e v1 ⟨a1, rfl, hF, hb⟩; have HF1 := Aside0.mk hF; have HV1 := Aside0.mk (below_step HB0.out hb); have HW1 := Aside0.mk hb; clear hF hb))
            have HD1 := Aside0.mk (Held.new HF1.out HW1.out.size)
            have HA1 := Aside0.mk (below_alloc HV1.out (.cells (celA x1 a1) 60 (0, 0)))
            have HU1 := Aside0.mk (below_alloc HW1.out (.cells (celA x1 a1) 60 (0, 0)))
            have HG1 := Aside0.mk (HG0.out.below HU1.out)
            generalize hb1 : v1.heap.size = b1 at HD1 ⊢
            generalize hW1 : v1.alloc (.cells (celA x1 a1) 60 (0, 0)) = W1 at HD1 HA1 HG1  ⊢
            clear hb1 hW1 HF1 HV1 HW1 HU1 PC1
            obtain ⟨x2, hx2⟩ : ∃ x, (parseS (T2 s)).1 = x := ⟨_, rfl⟩
            obtain ⟨c2, hc2⟩ : ∃ c, (parseS (T2 s)).2 = c := ⟨_, rfl⟩
            have HX2 := Aside0.mk hx2
            have E2 := Aside0.mk hc2
            have PC2 : Aside0 (∀ v : World, GV v → Calls Tryz.prog 46 #[.string (T2 s)] v fun e w' => ∃ a : Ads, e = .returned (.tuple #[.agg (celA x2 a), .int .i64 c2]) ∧ StA (fun q => v.heap.size ≤ q) w' x2 a ∧ Below v.heap.size v w') := ⟨by
              intro v hv
              refine (parse_calls (T2 s) hv).mono ?_
              rintro e w' ⟨u, rfl, ⟨a, rfl, hF⟩, hb⟩
              exact ⟨a, by rw [HX2.out, E2.out], by rw [← HX2.out]; exact hF, hb⟩⟩
            clear hx2 hc2
            go_upto_region 14 with (first | (go_at_call 46; refine (PC2.out _ HG1.out).mono ?_; rintro e v2 ⟨a2, rfl, hF, hb⟩; have HF2 := Aside0.mk hF; have HV2 := Aside0.mk (below_step HA1.out hb); have HW2 := Aside0.mk hb; clear hF hb))
            have HD2 := Aside0.mk (Held.new HF2.out HW2.out.size)
            have HA2 := Aside0.mk (below_alloc HV2.out (.cells (celA x2 a2) 60 (0, 0)))
            have HU2 := Aside0.mk (below_alloc HW2.out (.cells (celA x2 a2) 60 (0, 0)))
            have HG2 := Aside0.mk (HG1.out.below HU2.out)
            generalize hb2 : v2.heap.size = b2 at HD2 ⊢
            generalize hW2 : v2.alloc (.cells (celA x2 a2) 60 (0, 0)) = W2 at HD2 HA2 HG2  ⊢
            clear hb2 hW2 HF2 HV2 HW2 HU2 PC2
            obtain ⟨x3, hx3⟩ : ∃ x, (parseS (T3 s)).1 = x := ⟨_, rfl⟩
            obtain ⟨c3, hc3⟩ : ∃ c, (parseS (T3 s)).2 = c := ⟨_, rfl⟩
            have HX3 := Aside0.mk hx3
            have E3 := Aside0.mk hc3
            have PC3 : Aside0 (∀ v : World, GV v → Calls Tryz.prog 46 #[.string (T3 s)] v fun e w' => ∃ a : Ads, e = .returned (.tuple #[.agg (celA x3 a), .int .i64 c3]) ∧ StA (fun q => v.heap.size ≤ q) w' x3 a ∧ Below v.heap.size v w') := ⟨by
              intro v hv
              refine (parse_calls (T3 s) hv).mono ?_
              rintro e w' ⟨u, rfl, ⟨a, rfl, hF⟩, hb⟩
              exact ⟨a, by rw [HX3.out, E3.out], by rw [← HX3.out]; exact hF, hb⟩⟩
            clear hx3 hc3
            go_upto_region 15 with (first | (go_at_call 46; refine (PC3.out _ HG2.out).mono ?_; rintro e v3 ⟨a3, rfl, hF, hb⟩; have HF3 := Aside0.mk hF; have HV3 := Aside0.mk (below_step HA2.out hb); have HW3 := Aside0.mk hb; clear hF hb))
            have HD3 := Aside0.mk (Held.new HF3.out HW3.out.size)
            have HA3 := Aside0.mk (below_alloc HV3.out (.cells (celA x3 a3) 60 (0, 0)))
            have HU3 := Aside0.mk (below_alloc HW3.out (.cells (celA x3 a3) 60 (0, 0)))
            have HG3 := Aside0.mk (HG2.out.below HU3.out)
            generalize hb3 : v3.heap.size = b3 at HD3 ⊢
            generalize hW3 : v3.alloc (.cells (celA x3 a3) 60 (0, 0)) = W3 at HD3 HA3 HG3  ⊢
            clear hb3 hW3 HF3 HV3 HW3 HU3 PC3
            obtain ⟨x4, hx4⟩ : ∃ x, (parseS (T4 s)).1 = x := ⟨_, rfl⟩
            obtain ⟨c4, hc4⟩ : ∃ c, (parseS (T4 s)).2 = c := ⟨_, rfl⟩
            have HX4 := Aside0.mk hx4
            have E4 := Aside0.mk hc4
            have PC4 : Aside0 (∀ v : World, GV v → Calls Tryz.prog 46 #[.string (T4 s)] v fun e w' => ∃ a : Ads, e = .returned (.tuple #[.agg (celA x4 a), .int .i64 c4]) ∧ StA (fun q => v.heap.size ≤ q) w' x4 a ∧ Below v.heap.size v w') := ⟨by
              intro v hv
              refine (parse_calls (T4 s) hv).mono ?_
              rintro e w' ⟨u, rfl, ⟨a, rfl, hF⟩, hb⟩
              exact ⟨a, by rw [HX4.out, E4.out], by rw [← HX4.out]; exact hF, hb⟩⟩
            clear hx4 hc4
            go_upto_region 16 with (first | (go_at_call 46; refine (PC4.out _ HG3.out).mono ?_; rintro e v4 ⟨a4, rfl, hF, hb⟩; have HF4 := Aside0.mk hF; have HV4 := Aside0.mk (below_step HA3.out hb); have HW4 := Aside0.mk hb; clear hF hb))
            have HD4 := Aside0.mk (Held.new HF4.out HW4.out.size)
            have HA4 := Aside0.mk (below_alloc HV4.out (.cells (celA x4 a4) 60 (0, 0)))
            have HU4 := Aside0.mk (below_alloc HW4.out (.cells (celA x4 a4) 60 (0, 0)))
            have HG4 := Aside0.mk (HG3.out.below HU4.out)
            generalize hb4 : v4.heap.size = b4 at HD4 ⊢
            generalize hW4 : v4.alloc (.cells (celA x4 a4) 60 (0, 0)) = W4 at HD4 HA4 HG4  ⊢
            clear hb4 hW4 HF4 HV4 HW4 HU4 PC4
            obtain ⟨g1, g2, g3, g4⟩ := names_free HS.out HF.out
            have y1 : c1 = 0 := by rw [← E1.out]; exact g1
            have y2 : c2 = 0 := by rw [← E2.out]; exact g2
            have y3 : c3 = 0 := by rw [← E3.out]; exact g3
            have y4 : c4 = 0 := by rw [← E4.out, g4]
            have y5 : x4.f7 = [⟨Ps.sCol, Ps.v0, s, []⟩] := by rw [← HX4.out, g4]
            clear g1 g2 g3 g4
            subst y1 y2 y3 y4
            have HC := Aside0.mk (Kd.F_now HD4.out.fr.f7)
            have r4c7 : W4.cell? ⟨b4, 7, none⟩ = some (.slice a4.a7 x4.f7.length a4.c7) := (blk_cell HD4.out.blk 7).trans rfl
            have r4lt := HD4.out.lt
            obtain ⟨ad, A5, c5, e5, q0, q1, q2, q3, q4, q5, hl5, hi5⟩ := at_T43 HC.out 0 (by omega) (by rw [y5]; simp)
            have e6 : (rd_T43 x4.f7 0).f2 = s := by rw [y5]; rfl
            rw [e6] at q4
            have p1 : ((0 : Int) < (x4.f7.length : Int)) = True := eq_true (by rw [y5]; simp)
            have p2 : (0 < x4.f7.length) = True := eq_true (by rw [y5]; simp)
            simp only [Int.toNat_zero, Nat.zero_mul, addr0] at q0 q1 q2 q3 q4 q5
            rw [e5] at r4c7
            clear hl5 hi5 e6 y5
            go_wp2
            go_ret
            exact ⟨rfl, HA4.out⟩

          | true =>
            rw [hr] at HR
            have HF := Aside0.mk hr
            clear hr
            go_upto_region 12 with (first | (go_at_call 50; refine (vidimusref17_Reserved.calls 40 s _ _ (HR.out)).mono ?_; rintro e v0 ⟨rfl, hb⟩; have HB0 := Aside0.mk (below_step HB.out hb); have HG0 := Aside0.mk (HG.out.below hb); clear hb))
            obtain ⟨x1, hx1⟩ : ∃ x, (parseS (T1 s)).1 = x := ⟨_, rfl⟩
            obtain ⟨c1, hc1⟩ : ∃ c, (parseS (T1 s)).2 = c := ⟨_, rfl⟩
            have HX1 := Aside0.mk hx1
            have E1 := Aside0.mk hc1
            have PC1 : Aside0 (∀ v : World, GV v → Calls Tryz.prog 46 #[.string (T1 s)] v fun e w' => ∃ a : Ads, e = .returned (.tuple #[.agg (celA x1 a), .int .i64 c1]) ∧ StA (fun q => v.heap.size ≤ q) w' x1 a ∧ Below v.heap.size v w') := ⟨by
              intro v hv
              refine (parse_calls (T1 s) hv).mono ?_
              rintro e w' ⟨u, rfl, ⟨a, rfl, hF⟩, hb⟩
              exact ⟨a, by rw [HX1.out, E1.out], by rw [← HX1.out]; exact hF, hb⟩⟩
            clear hx1 hc1
            go_upto_region 13 with (first | (go_at_call 46; refine (PC1.out _ HG0.out).mono ?_; rintro e v1 ⟨a1, rfl, hF, hb⟩; have HF1 := Aside0.mk hF; have HV1 := Aside0.mk (below_step HB0.out hb); have HW1 := Aside0.mk hb; clear hF hb))
            have HD1 := Aside0.mk (Held.new HF1.out HW1.out.size)
            have HA1 := Aside0.mk (below_alloc HV1.out (.cells (celA x1 a1) 60 (0, 0)))
            have HU1 := Aside0.mk (below_alloc HW1.out (.cells (celA x1 a1) 60 (0, 0)))
            have HG1 := Aside0.mk (HG0.out.below HU1.out)
            generalize hb1 : v1.heap.size = b1 at HD1 ⊢
            generalize hW1 : v1.alloc (.cells (celA x1 a1) 60 (0, 0)) = W1 at HD1 HA1 HG1  ⊢
            clear hb1 hW1 HF1 HV1 HW1 HU1 PC1
            obtain ⟨x2, hx2⟩ : ∃ x, (parseS (T2 s)).1 = x := ⟨_, rfl⟩
            obtain ⟨c2, hc2⟩ : ∃ c, (parseS (T2 s)).2 = c := ⟨_, rfl⟩
            have HX2 := Aside0.mk hx2
            have E2 := Aside0.mk hc2
            have PC2 : Aside0 (∀ v : World, GV v → Calls Tryz.prog 46 #[.string (T2 s)] v fun e w' => ∃ a : Ads, e = .returned (.tuple #[.agg (celA x2 a), .int .i64 c2]) ∧ StA (fun q => v.heap.size ≤ q) w' x2 a ∧ Below v.heap.size v w') := ⟨by
              intro v hv
              refine (parse_calls (T2 s) hv).mono ?_
              rintro e w' ⟨u, rfl, ⟨a, rfl, hF⟩, hb⟩
              exact ⟨a, by rw [HX2.out, E2.out], by rw [← HX2.out]; exact hF, hb⟩⟩
            clear hx2 hc2
            go_upto_region 14 with (first | (go_at_call 46; refine (PC2.out _ HG1.out).mono ?_; rintro e v2 ⟨a2, rfl, hF, hb⟩; have HF2 := Aside0.mk hF; have HV2 := Aside0.mk (below_step HA1.out hb); have HW2 := Aside0.mk hb; clear hF hb))
            have HD2 := Aside0.mk (Held.new HF2.out HW2.out.size)
            have HA2 := Aside0.mk (below_alloc HV2.out (.cells (celA x2 a2) 60 (0, 0)))
            have HU2 := Aside0.mk (below_alloc HW2.out (.cells (celA x2 a2) 60 (0, 0)))
            have HG2 := Aside0.mk (HG1.out.below HU2.out)
            generalize hb2 : v2.heap.size = b2 at HD2 ⊢
            generalize hW2 : v2.alloc (.cells (celA x2 a2) 60 (0, 0)) = W2 at HD2 HA2 HG2  ⊢
            clear hb2 hW2 HF2 HV2 HW2 HU2 PC2
            obtain ⟨x3, hx3⟩ : ∃ x, (parseS (T3 s)).1 = x := ⟨_, rfl⟩
            obtain ⟨c3, hc3⟩ : ∃ c, (parseS (T3 s)).2 = c := ⟨_, rfl⟩
            have HX3 := Aside0.mk hx3
            have E3 := Aside0.mk hc3
            have PC3 : Aside0 (∀ v : World, GV v → Calls Tryz.prog 46 #[.string (T3 s)] v fun e w' => ∃ a : Ads, e = .returned (.tuple #[.agg (celA x3 a), .int .i64 c3]) ∧ StA (fun q => v.heap.size ≤ q) w' x3 a ∧ Below v.heap.size v w') := ⟨by
              intro v hv
              refine (parse_calls (T3 s) hv).mono ?_
              rintro e w' ⟨u, rfl, ⟨a, rfl, hF⟩, hb⟩
              exact ⟨a, by rw [HX3.out, E3.out], by rw [← HX3.out]; exact hF, hb⟩⟩
            clear hx3 hc3
            go_upto_region 15 with (first | (go_at_call 46; refine (PC3.out _ HG2.out).mono ?_; rintro e v3 ⟨a3, rfl, hF, hb⟩; have HF3 := Aside0.mk hF; have HV3 := Aside0.mk (below_step HA2.out hb); have HW3 := Aside0.mk hb; clear hF hb))
            have HD3 := Aside0.mk (Held.new HF3.out HW3.out.size)
            have HA3 := Aside0.mk (below_alloc HV3.out (.cells (celA x3 a3) 60 (0, 0)))
            have HU3 := Aside0.mk (below_alloc HW3.out (.cells (celA x3 a3) 60 (0, 0)))
            have HG3 := Aside0.mk (HG2.out.below HU3.out)
            generalize hb3 : v3.heap.size = b3 at HD3 ⊢
            generalize hW3 : v3.alloc (.cells (celA x3 a3) 60 (0, 0)) = W3 at HD3 HA3 HG3  ⊢
            clear hb3 hW3 HF3 HV3 HW3 HU3 PC3
            obtain ⟨x4, hx4⟩ : ∃ x, (parseS (T4 s)).1 = x := ⟨_, rfl⟩
            obtain ⟨c4, hc4⟩ : ∃ c, (parseS (T4 s)).2 = c := ⟨_, rfl⟩
            have HX4 := Aside0.mk hx4
            have E4 := Aside0.mk hc4
            have PC4 : Aside0 (∀ v : World, GV v → Calls Tryz.prog 46 #[.string (T4 s)] v fun e w' => ∃ a : Ads, e = .returned (.tuple #[.agg (celA x4 a), .int .i64 c4]) ∧ StA (fun q => v.heap.size ≤ q) w' x4 a ∧ Below v.heap.size v w') := ⟨by
              intro v hv
              refine (parse_calls (T4 s) hv).mono ?_
              rintro e w' ⟨u, rfl, ⟨a, rfl, hF⟩, hb⟩
              exact ⟨a, by rw [HX4.out, E4.out], by rw [← HX4.out]; exact hF, hb⟩⟩
            clear hx4 hc4
            go_upto_region 16 with (first | (go_at_call 46; refine (PC4.out _ HG3.out).mono ?_; rintro e v4 ⟨a4, rfl, hF, hb⟩; have HF4 := Aside0.mk hF; have HV4 := Aside0.mk (below_step HA3.out hb); have HW4 := Aside0.mk hb; clear hF hb))
            have HD4 := Aside0.mk (Held.new HF4.out HW4.out.size)
            have HA4 := Aside0.mk (below_alloc HV4.out (.cells (celA x4 a4) 60 (0, 0)))
            have HU4 := Aside0.mk (below_alloc HW4.out (.cells (celA x4 a4) 60 (0, 0)))
            have HG4 := Aside0.mk (HG3.out.below HU4.out)
            generalize hb4 : v4.heap.size = b4 at HD4 ⊢
            generalize hW4 : v4.alloc (.cells (celA x4 a4) 60 (0, 0)) = W4 at HD4 HA4 HG4  ⊢
            clear hb4 hW4 HF4 HV4 HW4 HU4 PC4
            obtain ⟨g1, g2, g3, g4⟩ := names_res HF.out
            have y1 : (c1 == 0) = false := by rw [← E1.out]; exact beq_eq_false_iff_ne.mpr g1
            have y2 : (c2 == 0) = false := by rw [← E2.out]; exact beq_eq_false_iff_ne.mpr g2
            have y3 : (c3 == 0) = false := by rw [← E3.out]; exact beq_eq_false_iff_ne.mpr g3
            by_cases hz : s.toList = [110, 117, 108, 108]
            · have z1 : (s.toList == [110, 117, 108, 108]) = true := beq_iff_eq.mpr hz
              have y4 : (c4 == 0) = true := by rw [← E4.out]; exact beq_iff_eq.mpr (g4.2 hz)
              clear hz g1 g2 g3 g4
              go_wp2
              go_ret
              exact ⟨rfl, HA4.out⟩
            · have z1 : (s.toList == [110, 117, 108, 108]) = false := beq_eq_false_iff_ne.mpr hz
              have y4 : (c4 == 0) = false := by rw [← E4.out]; exact beq_eq_false_iff_ne.mpr (fun h => hz (g4.1 h))
              clear hz g1 g2 g3 g4
              go_wp2
              go_ret
              exact ⟨rfl, HA4.out⟩

        | succ k1 =>
          have hjl : j < s.size := by have := HJ.out; omega
          have d0 : decide ((j : Int) < (s.size : Int)) = true := decide_eq_true (by omega)
          have d1 : decide (j < s.size) = true := decide_eq_true (by omega)
          have p1 : (0 ≤ (j : Int)) = True := eq_true (by omega)
          have q1 : ((j : Int) < (s.size : Int)) = True := eq_true (by omega)
          have p2 : ((j : Int) < 0) = False := eq_false (by omega)
          have HJ1 := Aside0.mk (show j + 1 + k1 = s.size by have := HJ.out; omega)
          have hw1 : wrap64 ((j : Int) + 1) = ((j + 1 : Nat) : Int) := by unfold wrap64; omega
          have hbt := bt_get s j hjl
          by_cases ha : ((s[j]'hjl).toNat : Int) < 97
          · have b0 : decide (((s[j]'hjl).toNat : Int) < 97) = true := decide_eq_true ha
            clear ha hbt
            go_wp2
            go_ret
            exact ⟨rfl, HB.out⟩
          · have b0 : decide (((s[j]'hjl).toNat : Int) < 97) = false := decide_eq_false ha
            by_cases hb : 122 < ((s[j]'hjl).toNat : Int)
            · have b1 : decide (122 < ((s[j]'hjl).toNat : Int)) = true := decide_eq_true hb
              clear ha hb hbt
              go_wp2
              go_ret
              exact ⟨rfl, HB.out⟩
            · have b1 : decide (122 < ((s[j]'hjl).toNat : Int)) = false := decide_eq_false hb
              have HN := Aside0.mk (show ∀ i, i < j + 1 → 97 ≤ bt s (i : Int) ∧ bt s (i : Int) ≤ 122 from fun i hi => by
                by_cases e : i = j
                · subst e; rw [hbt]; omega
                · exact HI.out i (by omega))
              clear ha hb hbt
              go_wp2
              go_roundg k1
              case measure => first | exact Nat.lt_succ_self _ | omega
              case rel => exact ⟨j + 1, by first | rfl | rw [hw1] | (rw [Int.natCast_add]; rfl), HJ1, HN, ⟨rfl⟩⟩
end Go.Proofs.YtcgdncpioafbdaaGreatDoor.Q

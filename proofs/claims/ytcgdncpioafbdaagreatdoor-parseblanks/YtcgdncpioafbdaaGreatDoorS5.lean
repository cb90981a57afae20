/- Lemmas for the law: Px2 Pz Pa Sm Qlaw16D PlU PlTexts Tx TxA TxB Aw Glue Nm BlD Plaw17D Plaw17. -/
import Derived.Test.YtcgdncpioafbdaaGreatDoorRows
import Derived.Test.YtcgdncpioafbdaaGreatDoorTie
import Derived.Test.YtcgdncpioafbdaaGreatDoorCards
import Derived.Test.YtcgdncpioafbdaaGreatDoorS1
import Derived.Test.YtcgdncpioafbdaaGreatDoorS2
import Derived.Test.YtcgdncpioafbdaaGreatDoorS3
import Derived.Test.YtcgdncpioafbdaaGreatDoorS4
set_option linter.unusedVariables false
set_option linter.unusedSimpArgs false
/- The parser: Parse. -/
namespace Go.Proofs.YtcgdncpioafbdaaGreatDoor.Q
open Go Go.RowKit Go.Proofs.YtcgdncpioafbdaaGreatDoorW.PrintWords
/-- The rounds that are enough. -/
def KP : Nat := 8100
/-- What Parse answers. -/
def parseA (ts : List S32) : S60 × Int := match Ps.read KP ts with
  | none => (z60, 20)
  | some x => if longB x then (z60, 28) else if twiceB x then (z60, 21) else (x, 0)
def parseP (p : List S32 × Int) : S60 × Int := if p.2 = 0 then parseA p.1 else (z60, p.2)
/-- Tokens as the lexer gives them. -/
structure Toks (ts : List S32) : Prop where
  ends : Ends ts
  len : ts.length ≤ 4001
  short : TK 100000 ts
theorem StF.below {ok : Nat → Prop} {x : S60} {A2 A4 A5 A6 A7 : Option Addr} {c2 c4 c5 c6 c7 : Nat} {wc wd : World} (hF : StF ok wc x A2 c2 A4 c4 A5 c5 A6 c6 A7 c7) (hb : Below wc.heap.size wc wd) : StF ok wd x A2 c2 A4 c4 A5 c5 A6 c6 A7 c7 :=
  ⟨hF.l2, Kd.F_below hF.f2 hb, hF.l4, Kd.F_below hF.f4 hb, hF.l5, Kd.F_below hF.f5 hb, hF.l6, Kd.F_below hF.f6 hb, hF.l7, Kd.F_below hF.f7 hb⟩
abbrev fillR (W : World) (rb : Nat) (v0 v1 v2 v3 v4 v5 v6 v7 v8 v9 v10 : Value) : World := (((((((((((W.setCell ⟨rb, 0, none⟩ v0).setCell ⟨rb, 1, none⟩ v1).setCell ⟨rb, 2, none⟩ v2).setCell ⟨rb, 3, none⟩ v3).setCell ⟨rb, 4, none⟩ v4).setCell ⟨rb, 5, none⟩ v5).setCell ⟨rb, 6, none⟩ v6).setCell ⟨rb, 7, none⟩ v7).setCell ⟨rb, 8, none⟩ v8).setCell ⟨rb, 9, none⟩ v9).setCell ⟨rb, 10, none⟩ v10)
theorem fillR_s {W : World} {rb : Nat} (hs : W.heap[rb]? = some (.cells (celA z60 {}) 60 (0, 0))) (v0 v1 v2 v3 v4 v5 v6 v7 v8 v9 v10 : Value) : (fillR W rb v0 v1 v2 v3 v4 v5 v6 v7 v8 v9 v10).heap[rb]? = some (.cells #[v0, v1, v2, v3, v4, v5, v6, v7, v8, v9, v10] 60 (0, 0)) :=
  blk_put11 (a0 := .int .i64 0) (a1 := .string ⟨#[]⟩) (a2 := .slice none 0 0) (a3 := .string ⟨#[]⟩) (a4 := .slice none 0 0) (a5 := .slice none 0 0) (a6 := .slice none 0 0) (a7 := .slice none 0 0) (a8 := .string ⟨#[]⟩) (a9 := .bool false) (a10 := .int .i64 0) hs
theorem fillR_b {w W : World} {B rb : Nat} (h : Below B w W) (hs : B ≤ rb) (v0 v1 v2 v3 v4 v5 v6 v7 v8 v9 v10 : Value) : Below B w (fillR W rb v0 v1 v2 v3 v4 v5 v6 v7 v8 v9 v10) := by
  unfold fillR
  with_reducible (repeat (first | exact h | refine Below.setCell (p := ⟨rb, _, none⟩) ?_ hs _))
theorem fillR_f {W : World} {B rb : Nat} {x : S60} {a : Ads} (h : StA (fun q => B ≤ q) W x a) (hs : rb < B) (v0 v1 v2 v3 v4 v5 v6 v7 v8 v9 v10 : Value) : StA (fun q => B ≤ q) (fillR W rb v0 v1 v2 v3 v4 v5 v6 v7 v8 v9 v10) x a := by
  unfold fillR
  have h1 : ∀ q, B ≤ q → q ≠ rb := fun q hq => by omega
  with_reducible (repeat (first | exact h | refine StF.far ?_ h1 _ _))
set_option maxRecDepth 100000 in
theorem res46 {W : World} {rb : Nat} {x : S60} {a : Ads} {v : Value} {tmps : Array Value} (hs : W.heap[rb]? = some (.cells (celA x a) 60 (0, 0))) (h2 : tmps[2]?.getD undef = .pointer (some ⟨rb, 0, none⟩)) (h3 : tmps[3]?.getD undef = v) : (results Tryz.f46 tmps).run Tryz.prog W = .ok (.tuple #[.agg (celA x a), v]) W := by
  have HS := Aside0.mk hs
  have hsl := blk_lt hs
  have rc0 : W.cell? ⟨rb, 0, none⟩ = some (.int .i64 x.f0) := (blk_cell HS.out 0).trans rfl
  have rc1 : W.cell? ⟨rb, 1, none⟩ = some (.string x.f1) := (blk_cell HS.out 1).trans rfl
  have rc2 : W.cell? ⟨rb, 2, none⟩ = some (.slice a.a2 x.f2.length a.c2) := (blk_cell HS.out 2).trans rfl
  have rc3 : W.cell? ⟨rb, 3, none⟩ = some (.string x.f3) := (blk_cell HS.out 3).trans rfl
  have rc4 : W.cell? ⟨rb, 4, none⟩ = some (.slice a.a4 x.f4.length a.c4) := (blk_cell HS.out 4).trans rfl
  have rc5 : W.cell? ⟨rb, 5, none⟩ = some (.slice a.a5 x.f5.length a.c5) := (blk_cell HS.out 5).trans rfl
  have rc6 : W.cell? ⟨rb, 6, none⟩ = some (.slice a.a6 x.f6.length a.c6) := (blk_cell HS.out 6).trans rfl
  have rc7 : W.cell? ⟨rb, 7, none⟩ = some (.slice a.a7 x.f7.length a.c7) := (blk_cell HS.out 7).trans rfl
  have rc8 : W.cell? ⟨rb, 8, none⟩ = some (.string x.f8) := (blk_cell HS.out 8).trans rfl
  have rc9 : W.cell? ⟨rb, 9, none⟩ = some (.bool x.f9) := (blk_cell HS.out 9).trans rfl
  have rc10 : W.cell? ⟨rb, 10, none⟩ = some (.int .i64 x.f10) := (blk_cell HS.out 10).trans rfl
  clear hs
  simp [results, Tryz.results46, go_sem, h2, h3, celA, cells60, rc0, rc1, rc2, rc3, rc4, rc5, rc6, rc7, rc8, rc9, rc10, hsl]
set_option maxHeartbeats 4000000 in
set_option maxRecDepth 100000 in
theorem parse_out {w : World} {s : ByteArray} {ts : List S32} {c : Int} (hG : GV w) (h : lex_Tokens.f s = some (ts, c)) (ht : c = 0 → Toks ts) : Calls Tryz.prog 46 #[.string s] w fun e w' => ∃ v, e = .returned (.tuple #[v, .int .i64 (parseP (ts, c)).2]) ∧ Vst w.heap.size w' (parseP (ts, c)).1 v ∧ Below w.heap.size w w' := by
  have HT := Aside0.mk ht
  have HG := Aside0.mk hG
  have HL := Aside0.mk h
  clear ht hG h
  go_enter Tryz.func46, Tryz.ntmps46
  go_upto_region 1 with (fail)
  have BR0 := Aside0.mk (new_blk (W := w) (.cells (celA z60 {}) 60 (0, 0)) rfl)
  have HB0 := Aside0.mk (below_alloc (Below.refl w.heap.size w) (.cells (celA z60 {}) 60 (0, 0)))
  have HGW := Aside0.mk (HG.out.below HB0.out)
  change Code.wp _ _ _ _ (w.alloc (.cells (celA z60 {}) 60 (0, 0)))
  generalize hrb : w.heap.size = rb at BR0 ⊢
  generalize hW : w.alloc (.cells (celA z60 {}) 60 (0, 0)) = W at BR0 HB0 HGW ⊢
  clear hW
  have hrW := blk_lt BR0.out
  have hwr : w.heap.size ≤ rb := by omega
  by_cases c0 : c = 0
  · subst c0
    have HTK := HT.out rfl
    have HTS := Aside0.mk HTK
    go_upto_region 4 with (first | (go_at_call 16; refine (lex_Tokens.calls s ts 0 W HL.out HGW.out).mono ?_; rintro e1 w1 ⟨v1, rfl, ho, hb⟩; have HO1 := Aside0.mk (Kd.N_reads (Kd.R_N ho)); have HB1 := Aside0.mk hb; clear ho hb))
    obtain ⟨A, cp, rfl, hcp, hC⟩ := HO1.out
    have HC := Aside0.mk hC
    clear hC HO1
    have BR1 := Aside0.mk ((HB1.out.block rb hrW).trans BR0.out)
    cases hrd : Ps.read KP ts with
    | none =>
      have HRD := Aside0.mk hrd
      clear hrd
      go_upto_block 0 with (first | (go_at_call 105; refine (read_out HC.out hcp HTS.out.ends (k := KP) (by have := HTS.out.len; unfold KP; omega) HTS.out.len).mono ?_; intro e2 w2 ho; rw [HRD.out] at ho; obtain ⟨hb, v2, rfl, a, rfl, hf⟩ := ho; have HB2 := Aside0.mk hb; have HF2 := Aside0.mk hf; clear hb hf; unfold celA cells60))
      have HB3 := Aside0.mk (below_step HB1.out (below_step HB2.out (below_alloc (Below.refl _ _) (.cells (celA z60 a) 60 (0, 0)))))
      change Code.wp _ _ _ _ (w2.alloc (.cells (celA z60 a) 60 (0, 0)))
      generalize hW3 : w2.alloc (.cells (celA z60 a) 60 (0, 0)) = w3 at HB3 ⊢
      clear hW3
      have BR3 := Aside0.mk ((HB3.out.block rb hrW).trans BR0.out)
      have hr3 := blk_lt BR3.out
      have rc0 : w3.cell? ⟨rb, 0, none⟩ = some (.int .i64 0) := (blk_cell BR3.out 0).trans rfl
      have rc1 : w3.cell? ⟨rb, 1, none⟩ = some (.string ⟨#[]⟩) := (blk_cell BR3.out 1).trans rfl
      have rc2 : w3.cell? ⟨rb, 2, none⟩ = some (.slice none 0 0) := (blk_cell BR3.out 2).trans rfl
      have rc3 : w3.cell? ⟨rb, 3, none⟩ = some (.string ⟨#[]⟩) := (blk_cell BR3.out 3).trans rfl
      have rc4 : w3.cell? ⟨rb, 4, none⟩ = some (.slice none 0 0) := (blk_cell BR3.out 4).trans rfl
      have rc5 : w3.cell? ⟨rb, 5, none⟩ = some (.slice none 0 0) := (blk_cell BR3.out 5).trans rfl
      have rc6 : w3.cell? ⟨rb, 6, none⟩ = some (.slice none 0 0) := (blk_cell BR3.out 6).trans rfl
      have rc7 : w3.cell? ⟨rb, 7, none⟩ = some (.slice none 0 0) := (blk_cell BR3.out 7).trans rfl
      have rc8 : w3.cell? ⟨rb, 8, none⟩ = some (.string ⟨#[]⟩) := (blk_cell BR3.out 8).trans rfl
      have rc9 : w3.cell? ⟨rb, 9, none⟩ = some (.bool false) := (blk_cell BR3.out 9).trans rfl
      have rc10 : w3.cell? ⟨rb, 10, none⟩ = some (.int .i64 0) := (blk_cell BR3.out 10).trans rfl
      have rz0 := blk_frozen BR3.out 0
      have rz1 := blk_frozen BR3.out 1
      have rz2 := blk_frozen BR3.out 2
      have rz3 := blk_frozen BR3.out 3
      have rz4 := blk_frozen BR3.out 4
      have rz5 := blk_frozen BR3.out 5
      have rz6 := blk_frozen BR3.out 6
      have rz7 := blk_frozen BR3.out 7
      have rz8 := blk_frozen BR3.out 8
      have rz9 := blk_frozen BR3.out 9
      have rz10 := blk_frozen BR3.out 10
      go_wp2
      refine bodyPost_ret (res46 (x := z60) (a := {}) (fillR_s BR3.out _ _ _ _ _ _ _ _ _ _ _) rfl rfl) rfl ?_
      have hp : parseP (ts, 0) = (z60, 20) := by unfold parseP parseA; rw [if_pos rfl, HRD.out]
      rw [hp]
      exact ⟨_, rfl, vst_zero _ _, fillR_b (below_step HB0.out HB3.out) hwr _ _ _ _ _ _ _ _ _ _ _⟩
    | some x =>
      have HGD := Aside0.mk (read_good hrd HTS.out.short)
      have HMD := Aside0.mk (HGD.out.mod (by unfold KP; omega))
      have HNM := Aside0.mk HGD.out.names
      have HRD := Aside0.mk hrd
      clear hrd
      go_upto_block 0 with (first | (go_at_call 105; refine (read_out HC.out hcp HTS.out.ends (k := KP) (by have := HTS.out.len; unfold KP; omega) HTS.out.len).mono ?_; intro e2 w2 ho; rw [HRD.out] at ho; obtain ⟨hb, v2, rfl, a, rfl, hf⟩ := ho; have HB2 := Aside0.mk hb; have HF2 := Aside0.mk hf; clear hb hf; unfold celA cells60))
      have HB3 := Aside0.mk (below_step HB1.out (below_step HB2.out (below_alloc (Below.refl _ _) (.cells (celA x a) 60 (0, 0)))))
      have BS3 := Aside0.mk (new_blk (W := w2) (.cells (celA x a) 60 (0, 0)) rfl)
      have hw1 := HB1.out.size
      have HF3 : Aside0 (StA (fun q => rb < q) (w2.alloc (.cells (celA x a) 60 (0, 0))) x a) := ⟨StF.mono (ok := fun q => w1.heap.size ≤ q) ⟨HF2.out.l2, Kd.F_alloc HF2.out.f2 _, HF2.out.l4, Kd.F_alloc HF2.out.f4 _, HF2.out.l5, Kd.F_alloc HF2.out.f5 _, HF2.out.l6, Kd.F_alloc HF2.out.f6 _, HF2.out.l7, Kd.F_alloc HF2.out.f7 _⟩ (fun q hq => by have h1 : w1.heap.size ≤ q := hq; omega)⟩
      change Code.wp _ _ _ _ (w2.alloc (.cells (celA x a) 60 (0, 0)))
      generalize hsb : w2.heap.size = sb at BS3 ⊢
      generalize hW3 : w2.alloc (.cells (celA x a) 60 (0, 0)) = w3 at HB3 BS3 HF3 ⊢
      clear hW3 hw1
      have BR3 := Aside0.mk ((HB3.out.block rb hrW).trans BR0.out)
      have hr3 := blk_lt BR3.out
      have hs3 := blk_lt BS3.out
      have hsr : rb < sb := by have := HB1.out.size; have := HB2.out.size; omega
      clear hsb
      have hne : rb ≠ sb := by omega
      have hne' : sb ≠ rb := by omega
      have HFT := Aside0.mk (StF.mono HF3.out (fun _ _ => trivial) : StA (fun _ => True) w3 x a)
      have sc0 : w3.cell? ⟨sb, 0, none⟩ = some (.int .i64 x.f0) := (blk_cell BS3.out 0).trans rfl
      have sc1 : w3.cell? ⟨sb, 1, none⟩ = some (.string x.f1) := (blk_cell BS3.out 1).trans rfl
      have sc2 : w3.cell? ⟨sb, 2, none⟩ = some (.slice a.a2 x.f2.length a.c2) := (blk_cell BS3.out 2).trans rfl
      have sc3 : w3.cell? ⟨sb, 3, none⟩ = some (.string x.f3) := (blk_cell BS3.out 3).trans rfl
      have sc4 : w3.cell? ⟨sb, 4, none⟩ = some (.slice a.a4 x.f4.length a.c4) := (blk_cell BS3.out 4).trans rfl
      have sc5 : w3.cell? ⟨sb, 5, none⟩ = some (.slice a.a5 x.f5.length a.c5) := (blk_cell BS3.out 5).trans rfl
      have sc6 : w3.cell? ⟨sb, 6, none⟩ = some (.slice a.a6 x.f6.length a.c6) := (blk_cell BS3.out 6).trans rfl
      have sc7 : w3.cell? ⟨sb, 7, none⟩ = some (.slice a.a7 x.f7.length a.c7) := (blk_cell BS3.out 7).trans rfl
      have sc8 : w3.cell? ⟨sb, 8, none⟩ = some (.string x.f8) := (blk_cell BS3.out 8).trans rfl
      have sc9 : w3.cell? ⟨sb, 9, none⟩ = some (.bool x.f9) := (blk_cell BS3.out 9).trans rfl
      have sc10 : w3.cell? ⟨sb, 10, none⟩ = some (.int .i64 x.f10) := (blk_cell BS3.out 10).trans rfl
      have hcel : celA x a = #[.int .i64 x.f0, .string x.f1, .slice a.a2 x.f2.length a.c2, .string x.f3, .slice a.a4 x.f4.length a.c4, .slice a.a5 x.f5.length a.c5, .slice a.a6 x.f6.length a.c6, .slice a.a7 x.f7.length a.c7, .string x.f8, .bool x.f9, .int .i64 x.f10] := rfl
      cases hlg : longB x with
      | true =>
        have HLG := Aside0.mk hlg
        clear hlg
        go_wp2_with (first | (go_at_call 106; refine (long_out (x := x) (a := a) HFT.out HMD.out).mono ?_; rintro e4 w4 ⟨rfl, hb⟩; have HB4 := Aside0.mk hb; clear hb; rw [HLG.out]; have BR4 := Aside0.mk ((HB4.out.block rb hr3).trans BR3.out); have hr4 := blk_lt BR4.out; have rc0 : w4.cell? ⟨rb, 0, none⟩ = some (.int .i64 0) := (blk_cell BR4.out 0).trans rfl; have rc1 : w4.cell? ⟨rb, 1, none⟩ = some (.string ⟨#[]⟩) := (blk_cell BR4.out 1).trans rfl; have rc2 : w4.cell? ⟨rb, 2, none⟩ = some (.slice none 0 0) := (blk_cell BR4.out 2).trans rfl; have rc3 : w4.cell? ⟨rb, 3, none⟩ = some (.string ⟨#[]⟩) := (blk_cell BR4.out 3).trans rfl; have rc4 : w4.cell? ⟨rb, 4, none⟩ = some (.slice none 0 0) := (blk_cell BR4.out 4).trans rfl; have rc5 : w4.cell? ⟨rb, 5, none⟩ = some (.slice none 0 0) := (blk_cell BR4.out 5).trans rfl; have rc6 : w4.cell? ⟨rb, 6, none⟩ = some (.slice none 0 0) := (blk_cell BR4.out 6).trans rfl; have rc7 : w4.cell? ⟨rb, 7, none⟩ = some (.slice none 0 0) := (blk_cell BR4.out 7).trans rfl; have rc8 : w4.cell? ⟨rb, 8, none⟩ = some (.string ⟨#[]⟩) := (blk_cell BR4.out 8).trans rfl; have rc9 : w4.cell? ⟨rb, 9, none⟩ = some (.bool false) := (blk_cell BR4.out 9).trans rfl; have rc10 : w4.cell? ⟨rb, 10, none⟩ = some (.int .i64 0) := (blk_cell BR4.out 10).trans rfl; have rz0 := blk_frozen BR4.out 0; have rz1 := blk_frozen BR4.out 1; have rz2 := blk_frozen BR4.out 2; have rz3 := blk_frozen BR4.out 3; have rz4 := blk_frozen BR4.out 4; have rz5 := blk_frozen BR4.out 5; have rz6 := blk_frozen BR4.out 6; have rz7 := blk_frozen BR4.out 7; have rz8 := blk_frozen BR4.out 8; have rz9 := blk_frozen BR4.out 9; have rz10 := blk_frozen BR4.out 10))
        refine bodyPost_ret (res46 (x := z60) (a := {}) (fillR_s BR4.out _ _ _ _ _ _ _ _ _ _ _) rfl rfl) rfl ?_
        have hp : parseP (ts, 0) = (z60, 28) := by unfold parseP parseA; rw [if_pos rfl, HRD.out]; simp only; rw [if_pos HLG.out]
        rw [hp]
        exact ⟨_, rfl, vst_zero _ _, fillR_b (below_step HB0.out (below_step HB3.out HB4.out)) hwr _ _ _ _ _ _ _ _ _ _ _⟩
      | false =>
        have HLG := Aside0.mk hlg
        clear hlg
        cases htw : twiceB x with
        | true =>
          have HTW := Aside0.mk htw
          clear htw
          go_wp2_with (first | (go_at_call 106; refine (long_out (x := x) (a := a) HFT.out HMD.out).mono ?_; rintro e4 w4 ⟨rfl, hb⟩; have HB4 := Aside0.mk hb; clear hb; rw [HLG.out]; have BR4 := Aside0.mk ((HB4.out.block rb hr3).trans BR3.out); have hr4 := blk_lt BR4.out; have BS4 := Aside0.mk ((HB4.out.block sb hs3).trans BS3.out); have hs4 := blk_lt BS4.out; have HFT4 := Aside0.mk (StF.below HFT.out HB4.out); have pc0 : w4.cell? ⟨sb, 0, none⟩ = some (.int .i64 x.f0) := (blk_cell BS4.out 0).trans rfl; have pc1 : w4.cell? ⟨sb, 1, none⟩ = some (.string x.f1) := (blk_cell BS4.out 1).trans rfl; have pc2 : w4.cell? ⟨sb, 2, none⟩ = some (.slice a.a2 x.f2.length a.c2) := (blk_cell BS4.out 2).trans rfl; have pc3 : w4.cell? ⟨sb, 3, none⟩ = some (.string x.f3) := (blk_cell BS4.out 3).trans rfl; have pc4 : w4.cell? ⟨sb, 4, none⟩ = some (.slice a.a4 x.f4.length a.c4) := (blk_cell BS4.out 4).trans rfl; have pc5 : w4.cell? ⟨sb, 5, none⟩ = some (.slice a.a5 x.f5.length a.c5) := (blk_cell BS4.out 5).trans rfl; have pc6 : w4.cell? ⟨sb, 6, none⟩ = some (.slice a.a6 x.f6.length a.c6) := (blk_cell BS4.out 6).trans rfl; have pc7 : w4.cell? ⟨sb, 7, none⟩ = some (.slice a.a7 x.f7.length a.c7) := (blk_cell BS4.out 7).trans rfl; have pc8 : w4.cell? ⟨sb, 8, none⟩ = some (.string x.f8) := (blk_cell BS4.out 8).trans rfl; have pc9 : w4.cell? ⟨sb, 9, none⟩ = some (.bool x.f9) := (blk_cell BS4.out 9).trans rfl; have pc10 : w4.cell? ⟨sb, 10, none⟩ = some (.int .i64 x.f10) := (blk_cell BS4.out 10).trans rfl) | (go_at_call 107; refine (twice_out (x := x) (a := a) HFT4.out HMD.out HNM.out).mono ?_; rintro e5 w5 ⟨rfl, hb⟩; have HB5 := Aside0.mk hb; clear hb; rw [HTW.out]; have BR5 := Aside0.mk ((HB5.out.block rb hr4).trans BR4.out); have hr5 := blk_lt BR5.out; have BS5 := Aside0.mk ((HB5.out.block sb hs4).trans BS4.out); have hs5 := blk_lt BS5.out; have rc0 : w5.cell? ⟨rb, 0, none⟩ = some (.int .i64 0) := (blk_cell BR5.out 0).trans rfl; have rc1 : w5.cell? ⟨rb, 1, none⟩ = some (.string ⟨#[]⟩) := (blk_cell BR5.out 1).trans rfl; have rc2 : w5.cell? ⟨rb, 2, none⟩ = some (.slice none 0 0) := (blk_cell BR5.out 2).trans rfl; have rc3 : w5.cell? ⟨rb, 3, none⟩ = some (.string ⟨#[]⟩) := (blk_cell BR5.out 3).trans rfl; have rc4 : w5.cell? ⟨rb, 4, none⟩ = some (.slice none 0 0) := (blk_cell BR5.out 4).trans rfl; have rc5 : w5.cell? ⟨rb, 5, none⟩ = some (.slice none 0 0) := (blk_cell BR5.out 5).trans rfl; have rc6 : w5.cell? ⟨rb, 6, none⟩ = some (.slice none 0 0) := (blk_cell BR5.out 6).trans rfl; have rc7 : w5.cell? ⟨rb, 7, none⟩ = some (.slice none 0 0) := (blk_cell BR5.out 7).trans rfl; have rc8 : w5.cell? ⟨rb, 8, none⟩ = some (.string ⟨#[]⟩) := (blk_cell BR5.out 8).trans rfl; have rc9 : w5.cell? ⟨rb, 9, none⟩ = some (.bool false) := (blk_cell BR5.out 9).trans rfl; have rc10 : w5.cell? ⟨rb, 10, none⟩ = some (.int .i64 0) := (blk_cell BR5.out 10).trans rfl; have rz0 := blk_frozen BR5.out 0; have rz1 := blk_frozen BR5.out 1; have rz2 := blk_frozen BR5.out 2; have rz3 := blk_frozen BR5.out 3; have rz4 := blk_frozen BR5.out 4; have rz5 := blk_frozen BR5.out 5; have rz6 := blk_frozen BR5.out 6; have rz7 := blk_frozen BR5.out 7; have rz8 := blk_frozen BR5.out 8; have rz9 := blk_frozen BR5.out 9; have rz10 := blk_frozen BR5.out 10; have uc0 : w5.cell? ⟨sb, 0, none⟩ = some (.int .i64 x.f0) := (blk_cell BS5.out 0).trans rfl; have uc1 : w5.cell? ⟨sb, 1, none⟩ = some (.string x.f1) := (blk_cell BS5.out 1).trans rfl; have uc2 : w5.cell? ⟨sb, 2, none⟩ = some (.slice a.a2 x.f2.length a.c2) := (blk_cell BS5.out 2).trans rfl; have uc3 : w5.cell? ⟨sb, 3, none⟩ = some (.string x.f3) := (blk_cell BS5.out 3).trans rfl; have uc4 : w5.cell? ⟨sb, 4, none⟩ = some (.slice a.a4 x.f4.length a.c4) := (blk_cell BS5.out 4).trans rfl; have uc5 : w5.cell? ⟨sb, 5, none⟩ = some (.slice a.a5 x.f5.length a.c5) := (blk_cell BS5.out 5).trans rfl; have uc6 : w5.cell? ⟨sb, 6, none⟩ = some (.slice a.a6 x.f6.length a.c6) := (blk_cell BS5.out 6).trans rfl; have uc7 : w5.cell? ⟨sb, 7, none⟩ = some (.slice a.a7 x.f7.length a.c7) := (blk_cell BS5.out 7).trans rfl; have uc8 : w5.cell? ⟨sb, 8, none⟩ = some (.string x.f8) := (blk_cell BS5.out 8).trans rfl; have uc9 : w5.cell? ⟨sb, 9, none⟩ = some (.bool x.f9) := (blk_cell BS5.out 9).trans rfl; have uc10 : w5.cell? ⟨sb, 10, none⟩ = some (.int .i64 x.f10) := (blk_cell BS5.out 10).trans rfl))
          refine bodyPost_ret (res46 (x := z60) (a := {}) (fillR_s BR5.out _ _ _ _ _ _ _ _ _ _ _) rfl rfl) rfl ?_
          have hp : parseP (ts, 0) = (z60, 21) := by unfold parseP parseA; rw [if_pos rfl, HRD.out]; simp only; rw [if_neg (by rw [HLG.out]; decide), if_pos HTW.out]
          rw [hp]
          exact ⟨_, rfl, vst_zero _ _, fillR_b (below_step HB0.out (below_step HB3.out (below_step HB4.out HB5.out))) hwr _ _ _ _ _ _ _ _ _ _ _⟩
        | false =>
          have HTW := Aside0.mk htw
          clear htw
          go_wp2_with (first | (go_at_call 106; refine (long_out (x := x) (a := a) HFT.out HMD.out).mono ?_; rintro e4 w4 ⟨rfl, hb⟩; have HB4 := Aside0.mk hb; clear hb; rw [HLG.out]; have BR4 := Aside0.mk ((HB4.out.block rb hr3).trans BR3.out); have hr4 := blk_lt BR4.out; have BS4 := Aside0.mk ((HB4.out.block sb hs3).trans BS3.out); have hs4 := blk_lt BS4.out; have HFT4 := Aside0.mk (StF.below HFT.out HB4.out); have pc0 : w4.cell? ⟨sb, 0, none⟩ = some (.int .i64 x.f0) := (blk_cell BS4.out 0).trans rfl; have pc1 : w4.cell? ⟨sb, 1, none⟩ = some (.string x.f1) := (blk_cell BS4.out 1).trans rfl; have pc2 : w4.cell? ⟨sb, 2, none⟩ = some (.slice a.a2 x.f2.length a.c2) := (blk_cell BS4.out 2).trans rfl; have pc3 : w4.cell? ⟨sb, 3, none⟩ = some (.string x.f3) := (blk_cell BS4.out 3).trans rfl; have pc4 : w4.cell? ⟨sb, 4, none⟩ = some (.slice a.a4 x.f4.length a.c4) := (blk_cell BS4.out 4).trans rfl; have pc5 : w4.cell? ⟨sb, 5, none⟩ = some (.slice a.a5 x.f5.length a.c5) := (blk_cell BS4.out 5).trans rfl; have pc6 : w4.cell? ⟨sb, 6, none⟩ = some (.slice a.a6 x.f6.length a.c6) := (blk_cell BS4.out 6).trans rfl; have pc7 : w4.cell? ⟨sb, 7, none⟩ = some (.slice a.a7 x.f7.length a.c7) := (blk_cell BS4.out 7).trans rfl; have pc8 : w4.cell? ⟨sb, 8, none⟩ = some (.string x.f8) := (blk_cell BS4.out 8).trans rfl; have pc9 : w4.cell? ⟨sb, 9, none⟩ = some (.bool x.f9) := (blk_cell BS4.out 9).trans rfl; have pc10 : w4.cell? ⟨sb, 10, none⟩ = some (.int .i64 x.f10) := (blk_cell BS4.out 10).trans rfl) | (go_at_call 107; refine (twice_out (x := x) (a := a) HFT4.out HMD.out HNM.out).mono ?_; rintro e5 w5 ⟨rfl, hb⟩; have HB5 := Aside0.mk hb; clear hb; rw [HTW.out]; have BR5 := Aside0.mk ((HB5.out.block rb hr4).trans BR4.out); have hr5 := blk_lt BR5.out; have BS5 := Aside0.mk ((HB5.out.block sb hs4).trans BS4.out); have hs5 := blk_lt BS5.out; have rc0 : w5.cell? ⟨rb, 0, none⟩ = some (.int .i64 0) := (blk_cell BR5.out 0).trans rfl; have rc1 : w5.cell? ⟨rb, 1, none⟩ = some (.string ⟨#[]⟩) := (blk_cell BR5.out 1).trans rfl; have rc2 : w5.cell? ⟨rb, 2, none⟩ = some (.slice none 0 0) := (blk_cell BR5.out 2).trans rfl; have rc3 : w5.cell? ⟨rb, 3, none⟩ = some (.string ⟨#[]⟩) := (blk_cell BR5.out 3).trans rfl; have rc4 : w5.cell? ⟨rb, 4, none⟩ = some (.slice none 0 0) := (blk_cell BR5.out 4).trans rfl; have rc5 : w5.cell? ⟨rb, 5, none⟩ = some (.slice none 0 0) := (blk_cell BR5.out 5).trans rfl; have rc6 : w5.cell? ⟨rb, 6, none⟩ = some (.slice none 0 0) := (blk_cell BR5.out 6).trans rfl; have rc7 : w5.cell? ⟨rb, 7, none⟩ = some (.slice none 0 0) := (blk_cell BR5.out 7).trans rfl; have rc8 : w5.cell? ⟨rb, 8, none⟩ = some (.string ⟨#[]⟩) := (blk_cell BR5.out 8).trans rfl; have rc9 : w5.cell? ⟨rb, 9, none⟩ = some (.bool false) := (blk_cell BR5.out 9).trans rfl; have rc10 : w5.cell? ⟨rb, 10, none⟩ = some (.int .i64 0) := (blk_cell BR5.out 10).trans rfl; have rz0 := blk_frozen BR5.out 0; have rz1 := blk_frozen BR5.out 1; have rz2 := blk_frozen BR5.out 2; have rz3 := blk_frozen BR5.out 3; have rz4 := blk_frozen BR5.out 4; have rz5 := blk_frozen BR5.out 5; have rz6 := blk_frozen BR5.out 6; have rz7 := blk_frozen BR5.out 7; have rz8 := blk_frozen BR5.out 8; have rz9 := blk_frozen BR5.out 9; have rz10 := blk_frozen BR5.out 10; have uc0 : w5.cell? ⟨sb, 0, none⟩ = some (.int .i64 x.f0) := (blk_cell BS5.out 0).trans rfl; have uc1 : w5.cell? ⟨sb, 1, none⟩ = some (.string x.f1) := (blk_cell BS5.out 1).trans rfl; have uc2 : w5.cell? ⟨sb, 2, none⟩ = some (.slice a.a2 x.f2.length a.c2) := (blk_cell BS5.out 2).trans rfl; have uc3 : w5.cell? ⟨sb, 3, none⟩ = some (.string x.f3) := (blk_cell BS5.out 3).trans rfl; have uc4 : w5.cell? ⟨sb, 4, none⟩ = some (.slice a.a4 x.f4.length a.c4) := (blk_cell BS5.out 4).trans rfl; have uc5 : w5.cell? ⟨sb, 5, none⟩ = some (.slice a.a5 x.f5.length a.c5) := (blk_cell BS5.out 5).trans rfl; have uc6 : w5.cell? ⟨sb, 6, none⟩ = some (.slice a.a6 x.f6.length a.c6) := (blk_cell BS5.out 6).trans rfl; have uc7 : w5.cell? ⟨sb, 7, none⟩ = some (.slice a.a7 x.f7.length a.c7) := (blk_cell BS5.out 7).trans rfl; have uc8 : w5.cell? ⟨sb, 8, none⟩ = some (.string x.f8) := (blk_cell BS5.out 8).trans rfl; have uc9 : w5.cell? ⟨sb, 9, none⟩ = some (.bool x.f9) := (blk_cell BS5.out 9).trans rfl; have uc10 : w5.cell? ⟨sb, 10, none⟩ = some (.int .i64 x.f10) := (blk_cell BS5.out 10).trans rfl))
          refine bodyPost_ret (res46 (x := x) (a := a) (fillR_s BR5.out _ _ _ _ _ _ _ _ _ _ _) rfl rfl) rfl ?_
          have hp : parseP (ts, 0) = (x, 0) := by unfold parseP parseA; rw [if_pos rfl, HRD.out]; simp only; rw [if_neg (by rw [HLG.out]; decide), if_neg (by rw [HTW.out]; decide)]
          rw [hp]
          refine ⟨_, rfl, ⟨a, rfl, ?_⟩, fillR_b (below_step HB0.out (below_step HB3.out (below_step HB4.out HB5.out))) hwr _ _ _ _ _ _ _ _ _ _ _⟩
          have hf5 : StA (fun q => rb + 1 ≤ q) w5 x a := StF.below (StF.below (StF.mono HF3.out (fun q hq => by have h1 : rb < q := hq; omega)) HB4.out) HB5.out
          exact StF.mono (fillR_f hf5 (Nat.lt_succ_self _) _ _ _ _ _ _ _ _ _ _ _) (fun q hq => by have h1 : rb + 1 ≤ q := hq; omega)
  · have b0 : (c != 0) = true := bne_iff_ne.mpr c0
    go_wp2_with (first | (go_at_call 16; refine (lex_Tokens.calls s ts c W HL.out HGW.out).mono ?_; rintro e1 w1 ⟨v1, rfl, ho, hb⟩; have HB1 := Aside0.mk hb; clear ho hb; have BR1 := Aside0.mk ((HB1.out.block rb hrW).trans BR0.out); have hr1 := blk_lt BR1.out; have rc0 : w1.cell? ⟨rb, 0, none⟩ = some (.int .i64 0) := (blk_cell BR1.out 0).trans rfl; have rc1 : w1.cell? ⟨rb, 1, none⟩ = some (.string ⟨#[]⟩) := (blk_cell BR1.out 1).trans rfl; have rc2 : w1.cell? ⟨rb, 2, none⟩ = some (.slice none 0 0) := (blk_cell BR1.out 2).trans rfl; have rc3 : w1.cell? ⟨rb, 3, none⟩ = some (.string ⟨#[]⟩) := (blk_cell BR1.out 3).trans rfl; have rc4 : w1.cell? ⟨rb, 4, none⟩ = some (.slice none 0 0) := (blk_cell BR1.out 4).trans rfl; have rc5 : w1.cell? ⟨rb, 5, none⟩ = some (.slice none 0 0) := (blk_cell BR1.out 5).trans rfl; have rc6 : w1.cell? ⟨rb, 6, none⟩ = some (.slice none 0 0) := (blk_cell BR1.out 6).trans rfl; have rc7 : w1.cell? ⟨rb, 7, none⟩ = some (.slice none 0 0) := (blk_cell BR1.out 7).trans rfl; have rc8 : w1.cell? ⟨rb, 8, none⟩ = some (.string ⟨#[]⟩) := (blk_cell BR1.out 8).trans rfl; have rc9 : w1.cell? ⟨rb, 9, none⟩ = some (.bool false) := (blk_cell BR1.out 9).trans rfl; have rc10 : w1.cell? ⟨rb, 10, none⟩ = some (.int .i64 0) := (blk_cell BR1.out 10).trans rfl; have rz0 := blk_frozen BR1.out 0; have rz1 := blk_frozen BR1.out 1; have rz2 := blk_frozen BR1.out 2; have rz3 := blk_frozen BR1.out 3; have rz4 := blk_frozen BR1.out 4; have rz5 := blk_frozen BR1.out 5; have rz6 := blk_frozen BR1.out 6; have rz7 := blk_frozen BR1.out 7; have rz8 := blk_frozen BR1.out 8; have rz9 := blk_frozen BR1.out 9; have rz10 := blk_frozen BR1.out 10))
    refine bodyPost_ret (res46 (x := z60) (a := {}) (fillR_s BR1.out _ _ _ _ _ _ _ _ _ _ _) rfl rfl) rfl ?_
    have hp : parseP (ts, c) = (z60, c) := by unfold parseP; rw [if_neg c0]
    rw [hp]
    exact ⟨_, rfl, vst_zero _ _, fillR_b (below_step HB0.out HB1.out) hwr _ _ _ _ _ _ _ _ _ _ _⟩
end Go.Proofs.YtcgdncpioafbdaaGreatDoor.Q
/- The lexer's tokens are as the parser wants them: an End stands last, they are few, their texts are short. -/
namespace Go.Proofs.YtcgdncpioafbdaaGreatDoor.Q
open Go Go.RowKit Go.Proofs.YtcgdncpioafbdaaGreatDoorW.PrintWords
theorem good_short {t : Lx.Tk} (h : Lx.Good t) : t.s.length ≤ 1000 := by
  rcases h with h | h | h | h
  · have := h.len; omega
  · have := h.s; rw [this]; simp
  · have := h.len; omega
  · rcases h.s with h | ⟨c, _, h⟩
    · have : ∀ x ∈ Lx.twos, x.length ≤ 1000 := by decide +kernel
      exact this _ h
    · rw [h]; simp
theorem toks_few : ∀ (n : Nat) (l : List UInt8) (ts : List Lx.Tk), l.length ≤ n → Lx.toks l = .ok ts → ts.length ≤ l.length ∧ ∀ t ∈ ts, Lx.Good t := by
  intro n
  induction n with
  | zero =>
    intro l ts hl h
    have h0 : l = [] := List.length_eq_zero_iff.1 (by omega)
    subst h0
    rw [Lx.toks_nil (by rfl)] at h
    cases h
    exact ⟨Nat.le_refl _, by simp⟩
  | succ n ih =>
    intro l ts hl h
    cases hs : Lx.skipA false l with
    | nil =>
      rw [Lx.toks_nil hs] at h
      cases h
      exact ⟨Nat.zero_le _, by simp⟩
    | cons c r =>
      have hle := Lx.skipA_le false l
      rw [hs] at hle
      cases ht : Lx.tokA (c :: r) with
      | error e => rw [Lx.toks_err hs ht] at h; cases h
      | ok p =>
        obtain ⟨t, m⟩ := p
        rw [Lx.toks_ok hs ht] at h
        have h1 := Lx.tokA_le ht
        cases hr : Lx.toks ((c :: r).drop m) with
        | error e => rw [hr] at h; cases h
        | ok us =>
          rw [hr] at h
          cases h
          obtain ⟨g1, g2⟩ := ih _ us (by rw [List.length_drop]; omega) hr
          rw [List.length_drop] at g1
          refine ⟨by simp only [List.length_cons] at *; omega, fun u hu => ?_⟩
          rcases List.mem_cons.1 hu with rfl | hu
          · exact (Lx.tokA_good ht).1
          · exact g2 u hu
theorem toks_ne0 : ∀ (n : Nat) (l : List UInt8), l.length ≤ n → Lx.toks l ≠ .error 0 := by
  intro n
  induction n with
  | zero =>
    intro l hl h
    have h0 : l = [] := List.length_eq_zero_iff.1 (by omega)
    subst h0
    rw [Lx.toks_nil (by rfl)] at h
    cases h
  | succ n ih =>
    intro l hl h
    cases hs : Lx.skipA false l with
    | nil => rw [Lx.toks_nil hs] at h; cases h
    | cons c r =>
      have hle := Lx.skipA_le false l
      rw [hs] at hle
      cases ht : Lx.tokA (c :: r) with
      | error e => rw [Lx.toks_err hs ht] at h; cases h; exact tokA_err ht rfl
      | ok p =>
        obtain ⟨t, m⟩ := p
        rw [Lx.toks_ok hs ht] at h
        have h1 := Lx.tokA_le ht
        cases hr : Lx.toks ((c :: r).drop m) with
        | error e => rw [hr] at h; cases h; exact ih _ (by rw [List.length_drop]; omega) hr
        | ok us => rw [hr] at h; cases h
theorem tok_toks {s : ByteArray} {ts : List S32} {c : Int} (h : lex_Tokens.f s = some (ts, c)) (hc : c = 0) : Toks ts := by
  subst hc
  unfold lex_Tokens.f tokF at h
  cases hl : Lx.lexA s.data.toList with
  | error e =>
    rw [hl] at h
    simp only [Option.some.injEq, Prod.mk.injEq] at h
    obtain ⟨rfl, h⟩ := h
    have he : e = 0 := by omega
    subst he
    rw [Lx.lexA_toks] at hl
    split at hl
    · cases hl
    · exact absurd hl (toks_ne0 _ _ (Nat.le_refl _))
  | ok us =>
    rw [hl] at h
    simp only [Option.some.injEq, Prod.mk.injEq] at h
    obtain ⟨rfl, _⟩ := h
    rw [Lx.lexA_toks] at hl
    split at hl
    · cases hl
    · rename_i hlen
      obtain ⟨g1, g2⟩ := toks_few _ _ us (Nat.le_refl _) hl
      refine ⟨⟨us.map tk32, z32, rfl, rfl⟩, by simp; omega, fun t ht => ?_⟩
      rcases List.mem_append.1 ht with ht | ht
      · obtain ⟨u, hu, rfl⟩ := List.mem_map.1 ht
        show (ba u.s).size ≤ 100000
        rw [ba_size]
        have := good_short (g2 u hu)
        omega
      · rw [List.mem_singleton.1 ht]
        show (0 : Nat) ≤ 100000
        omega
/-- What Parse answers, of a text. -/
def parseS (s : ByteArray) : S60 × Int := match tokF s with
  | none => (z60, 0)
  | some p => parseP p
/-- Parse, of any text. -/
theorem parse_calls {w : World} (s : ByteArray) (hG : GV w) : Calls Tryz.prog 46 #[.string s] w fun e w' => ∃ v, e = .returned (.tuple #[v, .int .i64 (parseS s).2]) ∧ Vst w.heap.size w' (parseS s).1 v ∧ Below w.heap.size w w' := by
  cases h : tokF s with
  | none =>
    unfold tokF at h
    cases hl : Lx.lexA s.data.toList with
    | error e => rw [hl] at h; cases h
    | ok us => rw [hl] at h; cases h
  | some p =>
    obtain ⟨ts, c⟩ := p
    have e : parseS s = parseP (ts, c) := by unfold parseS; rw [h]
    rw [e]
    exact parse_out hG h (fun hc => tok_toks h hc)
end Go.Proofs.YtcgdncpioafbdaaGreatDoor.Q
/- The document's comparison of expressions, at two that read alike. -/
namespace Go.Proofs.YtcgdncpioafbdaaGreatDoor.Q
open Go Go.RowKit Go.Proofs.YtcgdncpioafbdaaGreatDoorW.PrintWords Go.Proofs.YtcgdncpioafbdaaGreatDoorW.PrintLast Go.Proofs.YtcgdncpioafbdaaGreatDoorW.PrintMore
theorem eqA40 (d : Nat) (w : World) (x0 y0 x1 y1 : Int) (x2 y2 : ByteArray) :
    (Op.equalIn (d + 2) 40 (.agg #[.int .i64 x0, .int .i64 x1, .string x2]) (.agg #[.int .i64 y0, .int .i64 y1, .string y2])).run Tryz.prog w = .ok (x0 == y0 && (x1 == y1 && (x2.toList == y2.toList))) w := by
  refine eqA_of Tryz.underlying40 (by kernel_rfl) ?_
  refine eqf_cons (by rfl) (by go_simp; rfl) (by go_simp; rfl) (by go_simp) ?_
  refine eqf_cons (by rfl) (by go_simp; rfl) (by go_simp; rfl) (by go_simp) ?_
  exact eqf_last (by rfl) (by go_simp; rfl) (by go_simp; rfl) (by go_simp)
theorem eqA128 (d : Nat) (w : World) (x0 y0 : ByteArray) (x1 y1 : Int) (x2 y2 : Int) :
    (Op.equalIn (d + 2) 128 (.agg #[.string x0, .int .i64 x1, .int .i64 x2]) (.agg #[.string y0, .int .i64 y1, .int .i64 y2])).run Tryz.prog w = .ok (x0.toList == y0.toList && (x1 == y1 && (x2 == y2))) w := by
  refine eqA_of Tryz.underlying128 (by kernel_rfl) ?_
  refine eqf_cons (by rfl) (by go_simp; rfl) (by go_simp; rfl) (by go_simp) ?_
  refine eqf_cons (by rfl) (by go_simp; rfl) (by go_simp; rfl) (by go_simp) ?_
  exact eqf_last (by rfl) (by go_simp; rfl) (by go_simp; rfl) (by go_simp)
attribute [local go_sem high] eqA40 eqA128
def SameListAt (n : Nat) : Prop := ∀ (l : List S43) (w : World) (A A' : Option Addr) (c c' : Nat), fus l ≤ n → l.length ≤ c → l.length ≤ c' → Kd.C k43 w A l.length l → Kd.C k43 w A' l.length l → Calls Tryz.prog 108 #[.slice A l.length c, .slice A' l.length c'] w fun e w' => e = .returned (.bool true) ∧ Below w.heap.size w w'
def SameExprAt (n : Nat) : Prop := ∀ (x : S43) (w : World) (A A' : Option Addr) (c c' : Nat), fu x ≤ n → x.f3.length ≤ c → x.f3.length ≤ c' → Kd.C k43 w A x.f3.length x.f3 → Kd.C k43 w A' x.f3.length x.f3 → Calls Tryz.prog 47 #[.agg (cells43 x A c).toArray, .agg (cells43 x A' c').toArray] w fun e w' => e = .returned (.bool true) ∧ Below w.heap.size w w'
set_option maxHeartbeats 2000000 in
set_option maxRecDepth 100000 in
theorem sameExpr_step (n : Nat) (ih : SameListAt n) : SameExprAt (n + 1) := by
  intro x w A A' c c' hx hc hc' hC hC'
  have HC := Aside0.mk hC
  have HC' := Aside0.mk hC'
  have hx2 : fus x.f3 ≤ n := by have := fu_eq x; omega
  clear hC hC'
  unfold cells43
  go_enter Tryz.func47, Tryz.ntmps47
  go_upto_region 1 with (fail)
  have hB := below_alloc (below_alloc (Below.refl w.heap.size w) (.cells #[.string x.f0, .int .i64 x.f1.f0, .int .i64 x.f1.f1, .string x.f1.f2, .string x.f2, .slice A x.f3.length c] 43 (0, 0))) (.cells #[.string x.f0, .int .i64 x.f1.f0, .int .i64 x.f1.f1, .string x.f1.f2, .string x.f2, .slice A' x.f3.length c'] 43 (0, 0))
  have B1 := Aside0.mk (blk_alloc (new_blk (W := w) (.cells #[.string x.f0, .int .i64 x.f1.f0, .int .i64 x.f1.f1, .string x.f1.f2, .string x.f2, .slice A x.f3.length c] 43 (0, 0)) rfl) (.cells #[.string x.f0, .int .i64 x.f1.f0, .int .i64 x.f1.f1, .string x.f1.f2, .string x.f2, .slice A' x.f3.length c'] 43 (0, 0)))
  have B2 := Aside0.mk (new_blk (W := w.alloc (.cells #[.string x.f0, .int .i64 x.f1.f0, .int .i64 x.f1.f1, .string x.f1.f2, .string x.f2, .slice A x.f3.length c] 43 (0, 0))) (b := w.heap.size + 1) (.cells #[.string x.f0, .int .i64 x.f1.f0, .int .i64 x.f1.f1, .string x.f1.f2, .string x.f2, .slice A' x.f3.length c'] 43 (0, 0)) (by simp))
  have HB := Aside0.mk hB
  clear hB
  generalize hb2 : w.heap.size + 1 = b2 at B2 ⊢
  generalize hb1 : w.heap.size = b1 at B1 ⊢
  generalize hW : (w.alloc (.cells #[.string x.f0, .int .i64 x.f1.f0, .int .i64 x.f1.f1, .string x.f1.f2, .string x.f2, .slice A x.f3.length c] 43 (0, 0))).alloc (.cells #[.string x.f0, .int .i64 x.f1.f0, .int .i64 x.f1.f1, .string x.f1.f2, .string x.f2, .slice A' x.f3.length c'] 43 (0, 0)) = W at B1 B2 HB ⊢
  clear hW hb1 hb2
  have ac0 : W.cell? ⟨b1, 0, none⟩ = some (.string x.f0) := (blk_cell B1.out 0).trans rfl
  have ac1 : W.cell? ⟨b1, 1, none⟩ = some (.int .i64 x.f1.f0) := (blk_cell B1.out 1).trans rfl
  have ac2 : W.cell? ⟨b1, 2, none⟩ = some (.int .i64 x.f1.f1) := (blk_cell B1.out 2).trans rfl
  have ac3 : W.cell? ⟨b1, 3, none⟩ = some (.string x.f1.f2) := (blk_cell B1.out 3).trans rfl
  have ac4 : W.cell? ⟨b1, 4, none⟩ = some (.string x.f2) := (blk_cell B1.out 4).trans rfl
  have ac5 : W.cell? ⟨b1, 5, none⟩ = some (.slice A x.f3.length c) := (blk_cell B1.out 5).trans rfl
  have bc0 : W.cell? ⟨b2, 0, none⟩ = some (.string x.f0) := (blk_cell B2.out 0).trans rfl
  have bc1 : W.cell? ⟨b2, 1, none⟩ = some (.int .i64 x.f1.f0) := (blk_cell B2.out 1).trans rfl
  have bc2 : W.cell? ⟨b2, 2, none⟩ = some (.int .i64 x.f1.f1) := (blk_cell B2.out 2).trans rfl
  have bc3 : W.cell? ⟨b2, 3, none⟩ = some (.string x.f1.f2) := (blk_cell B2.out 3).trans rfl
  have bc4 : W.cell? ⟨b2, 4, none⟩ = some (.string x.f2) := (blk_cell B2.out 4).trans rfl
  have bc5 : W.cell? ⟨b2, 5, none⟩ = some (.slice A' x.f3.length c') := (blk_cell B2.out 5).trans rfl
  have hl1 := blk_lt B1.out
  have hl2 := blk_lt B2.out
  go_wp2_with (first | (go_at_call 108; refine (ih x.f3 W A A' c c' hx2 hc hc' (Kd.C_below HC.out HB.out) (Kd.C_below HC'.out HB.out)).mono ?_; rintro e1 w1 ⟨rfl, hb⟩; have HB1 := Aside0.mk hb; clear hb))
  go_ret
  exact ⟨rfl, below_step HB.out HB1.out⟩
theorem fus_mem2 {x : S43} : ∀ {l : List S43}, x ∈ l → fu x + 1 ≤ fus l
  | y :: l, h => by
    unfold fus
    rcases List.mem_cons.1 h with rfl | h
    · omega
    · have := fus_mem2 h
      omega
set_option maxHeartbeats 2000000 in
set_option maxRecDepth 100000 in
theorem sameList_step (n : Nat) (hn : n ≤ 4611686018427387904) (ih : SameExprAt n) : SameListAt (n + 1) := by
  intro l w A A' c c' hl hc hc' hC hC'
  have HC := Aside0.mk hC
  have HC' := Aside0.mk hC'
  have HL := Aside0.mk hl
  have HLB := Aside0.mk (Nat.le_trans (len_fus l) hl)
  clear hC hC' hl
  go_enter Tryz.func108, Tryz.ntmps108
  go_wp2
  go_loopg [5] l.length (fun kq v5 w' => ∃ j : Nat, v5 = .int .i64 (j : Int) ∧ Aside0 (j + kq = l.length) ∧ Aside0 (Below w.heap.size w w'))
  case atStart => exact ⟨0, rfl, ⟨by omega⟩, ⟨Below.refl _ _⟩⟩
  case round =>
    obtain ⟨j, rfl, HJ, HB⟩ := hrel
    have hjl := HJ.out
    cases gk with
    | zero =>
      have d0 : decide ((j : Int) < (l.length : Int)) = false := decide_eq_false (by omega)
      have d1 : decide (j < l.length) = false := decide_eq_false (by omega)
      clear hjl
      go_wp2
      go_ret
      exact ⟨rfl, HB.out⟩
    | succ k1 =>
      have d0 : decide ((j : Int) < (l.length : Int)) = true := decide_eq_true (by omega)
      have d1 : decide (j < l.length) = true := decide_eq_true (by omega)
      have p1 : 0 ≤ (j : Int) := by omega
      have q1 : (j : Int) < (l.length : Int) := by omega
      obtain ⟨ad, A5, c5, e5, x0, x1, x2, x3, x4, x5, hl5, hi5⟩ := at_T43 (Kd.C_below HC.out HB.out) (j : Int) p1 q1
      obtain ⟨ae, A6, c6, e6, y0, y1, y2, y3, y4, y5, hl6, hi6⟩ := at_T43 (Kd.C_below HC'.out HB.out) (j : Int) p1 q1
      cases e5
      cases e6
      have hjn : j < l.length := by omega
      have hrd : rd_T43 l (j : Int) = l[j] := by
        unfold rd_T43
        rw [Int.toNat_natCast, List.getD_eq_getElem?_getD, List.getElem?_eq_getElem hjn]
        rfl
      obtain ⟨x, hx⟩ : ∃ x, rd_T43 l (j : Int) = x := ⟨_, rfl⟩
      rw [hx] at x0 x1 x2 x3 x4 x5 hl5 hi5 y0 y1 y2 y3 y4 y5 hl6 hi6
      simp only [Int.toNat_natCast] at x0 x1 x2 x3 x4 x5 y0 y1 y2 y3 y4 y5
      have hxm : x ∈ l := by rw [← hx, hrd]; exact List.getElem_mem _
      have HFX := Aside0.mk (show fu x ≤ n by have h1 := fus_mem2 hxm; have := HL.out; omega)
      have HI := Aside0.mk hi5
      have HI6 := Aside0.mk hi6
      have HJ1 := Aside0.mk (show j + 1 + k1 = l.length by omega)
      have hw1 : wrap64 ((j : Int) + 1) = ((j + 1 : Nat) : Int) := by unfold wrap64; have := HLB.out; omega
      have p2 : ((j : Int) < 0) = False := eq_false (by omega)
      replace p1 := eq_true p1
      replace q1 := eq_true q1
      clear hi5 hi6 hx hrd hjl hxm
      go_wp2
      refine start_ (n := 10) (S := fun w' => w'.cell? (ad.add (j * 6)) = some (.string x.f0) ∧ w'.cell? ⟨(ad.add (j * 6)).block, (ad.add (j * 6)).off + 1, none⟩ = some (.int .i64 x.f1.f0) ∧ w'.cell? ⟨(ad.add (j * 6)).block, (ad.add (j * 6)).off + 2, none⟩ = some (.int .i64 x.f1.f1) ∧ w'.cell? ⟨(ad.add (j * 6)).block, (ad.add (j * 6)).off + 3, none⟩ = some (.string x.f1.f2) ∧ w'.cell? ⟨(ad.add (j * 6)).block, (ad.add (j * 6)).off + 4, none⟩ = some (.string x.f2) ∧ w'.cell? ⟨(ad.add (j * 6)).block, (ad.add (j * 6)).off + 5, none⟩ = some (.slice A5 x.f3.length c5) ∧ w'.cell? (ae.add (j * 6)) = some (.string x.f0) ∧ w'.cell? ⟨(ae.add (j * 6)).block, (ae.add (j * 6)).off + 1, none⟩ = some (.int .i64 x.f1.f0) ∧ w'.cell? ⟨(ae.add (j * 6)).block, (ae.add (j * 6)).off + 2, none⟩ = some (.int .i64 x.f1.f1) ∧ w'.cell? ⟨(ae.add (j * 6)).block, (ae.add (j * 6)).off + 3, none⟩ = some (.string x.f1.f2) ∧ w'.cell? ⟨(ae.add (j * 6)).block, (ae.add (j * 6)).off + 4, none⟩ = some (.string x.f2) ∧ w'.cell? ⟨(ae.add (j * 6)).block, (ae.add (j * 6)).off + 5, none⟩ = some (.slice A6 x.f3.length c6)) (ds := []) #[false, false, false, false, false, false, false, false, false, false] (by kernel_rfl) rfl rfl ⟨x0, x1, x2, x3, x4, x5, y0, y1, y2, y3, y4, y5⟩ (fun hHeld => ?_)
      refine pure_ (i := 0) (N := some 17) (v := ?_) (a' := ?_) #[true, false, false, false, false, false, false, false, false, false] rfl rfl (by kernel_rfl) (fun _ _ _ h => h) (Or.inl ⟨by rfl, ?_⟩) ?_ ?_
      rotate_left
      · intro w'
        go_simp
        with_reducible rfl
      rotate_left
      · simp only [Act.put, List.setIfInBounds_toArray, List.set_cons_zero, List.set_cons_succ, i64_w, i32_w]
        rfl
      refine pure_ (i := 1) (N := some 18) (v := ?_) (a' := ?_) #[true, true, false, false, false, false, false, false, false, false] rfl rfl (by kernel_rfl) (fun _ _ _ h => h) (Or.inl ⟨by rfl, ?_⟩) ?_ ?_
      rotate_left
      · intro w'
        go_simp
        with_reducible rfl
      rotate_left
      · simp only [Act.put, List.setIfInBounds_toArray, List.set_cons_zero, List.set_cons_succ, i64_w, i32_w]
        rfl
      refine pure_ (i := 2) (N := some 19) (v := ?_) (a' := ?_) #[true, true, true, false, false, false, false, false, false, false] rfl rfl (by kernel_rfl) (fun _ _ _ h => h) (Or.inl ⟨by rfl, ?_⟩) ?_ ?_
      rotate_left
      · intro w'
        go_simp
        with_reducible rfl
      rotate_left
      · simp only [Act.put, List.setIfInBounds_toArray, List.set_cons_zero, List.set_cons_succ, i64_w, i32_w]
        rfl
      refine take_ (i := 3) (N := some 20) (v := ?_) (a' := ?_) #[true, true, true, true, false, false, false, false, false, false] rfl rfl (by kernel_rfl) (fun _ _ _ h => h) (Or.inl ⟨by rfl, ?_⟩) hHeld ?_ ?_
      rotate_left
      · rintro w' ⟨s0, s1, s2, s3, s4, s5, s6, s7, s8, s9, s10, s11⟩
        go_simp
        with_reducible rfl
      rotate_left
      · simp only [Act.put, List.setIfInBounds_toArray, List.set_cons_zero, List.set_cons_succ, i64_w, i32_w]
        rfl
      refine pure_ (i := 4) (N := some 21) (v := ?_) (a' := ?_) #[true, true, true, true, true, false, false, false, false, false] rfl rfl (by kernel_rfl) (fun _ _ _ h => h) (Or.inl ⟨by rfl, ?_⟩) ?_ ?_
      rotate_left
      · intro w'
        go_simp
        with_reducible rfl
      rotate_left
      · simp only [Act.put, List.setIfInBounds_toArray, List.set_cons_zero, List.set_cons_succ, i64_w, i32_w]
        rfl
      refine pure_ (i := 5) (N := some 22) (v := ?_) (a' := ?_) #[true, true, true, true, true, true, false, false, false, false] rfl rfl (by kernel_rfl) (fun _ _ _ h => h) (Or.inl ⟨by rfl, ?_⟩) ?_ ?_
      rotate_left
      · intro w'
        go_simp
        with_reducible rfl
      rotate_left
      · simp only [Act.put, List.setIfInBounds_toArray, List.set_cons_zero, List.set_cons_succ, i64_w, i32_w]
        rfl
      refine pure_ (i := 6) (N := some 23) (v := ?_) (a' := ?_) #[true, true, true, true, true, true, true, false, false, false] rfl rfl (by kernel_rfl) (fun _ _ _ h => h) (Or.inl ⟨by rfl, ?_⟩) ?_ ?_
      rotate_left
      · intro w'
        go_simp
        with_reducible rfl
      rotate_left
      · simp only [Act.put, List.setIfInBounds_toArray, List.set_cons_zero, List.set_cons_succ, i64_w, i32_w]
        rfl
      refine take_ (i := 7) (N := some 24) (v := ?_) (a' := ?_) #[true, true, true, true, true, true, true, true, false, false] rfl rfl (by kernel_rfl) (fun _ _ _ h => h) (Or.inl ⟨by rfl, ?_⟩) hHeld ?_ ?_
      rotate_left
      · rintro w' ⟨s0, s1, s2, s3, s4, s5, s6, s7, s8, s9, s10, s11⟩
        go_simp
        with_reducible rfl
      rotate_left
      · simp only [Act.put, List.setIfInBounds_toArray, List.set_cons_zero, List.set_cons_succ, i64_w, i32_w]
        rfl
      refine one_ (i := 8) (N := some 25) #[true, true, true, true, true, true, true, true, true, false] rfl rfl (by kernel_rfl) (by decide) (fun K hK => ?_)
      refine goes_ Tryz.func47 (by kernel_rfl) rfl #[.agg (cells43 x A5 c5).toArray, .agg (cells43 x A6 c6).toArray] (by rfl) rfl rfl (by (try simp only [List.map_toArray, List.map_cons, List.map_nil]); first | done | rfl) ?_
      refine (ih x wr.drew A5 A6 c5 c6 HFX.out hl5 hl6 (Kd.C_below HI.out (below_drew1 (Below.refl _ _))) (Kd.C_below HI6.out (below_drew1 (Below.refl _ _)))).mono ?_
      rintro e1 w1 ⟨rfl, hb⟩
      have HB1 := Aside0.mk (below_step (below_drew1 (Below.refl wr.heap.size wr)) hb)
      refine ⟨_, rfl, ?_⟩
      clear hb
      have z0 := pw_cell_below HB1.out x0
      have z1 := pw_cell_below HB1.out x1
      have z2 := pw_cell_below HB1.out x2
      have z3 := pw_cell_below HB1.out x3
      have z4 := pw_cell_below HB1.out x4
      have z5 := pw_cell_below HB1.out x5
      have z6 := pw_cell_below HB1.out y0
      have z7 := pw_cell_below HB1.out y1
      have z8 := pw_cell_below HB1.out y2
      have z9 := pw_cell_below HB1.out y3
      have z10 := pw_cell_below HB1.out y4
      have z11 := pw_cell_below HB1.out y5
      refine hK.out _ _ ⟨z0, z1, z2, z3, z4, z5, z6, z7, z8, z9, z10, z11⟩ (fun hHeld => ?_)
      clear hK K
      refine norm_ (a' := ?_) ?_ ?_
      rotate_left
      · show Act.put _ (some 25) _ = _
        simp only [Act.put, List.setIfInBounds_toArray, List.set_cons_zero, List.set_cons_succ, i64_w, i32_w]
        rfl
      refine pure_ (i := 9) (N := some 26) (v := ?_) (a' := ?_) #[true, true, true, true, true, true, true, true, true, true] rfl rfl (by kernel_rfl) (fun _ _ _ h => h) (Or.inl ⟨by rfl, ?_⟩) ?_ ?_
      rotate_left
      · intro w'
        go_simp
        with_reducible rfl
      rotate_left
      · simp only [Act.put, List.setIfInBounds_toArray, List.set_cons_zero, List.set_cons_succ, i64_w, i32_w]
        rfl
      refine done_ (by kernel_rfl) ?_
      go_wp2
      go_roundg k1
      case measure => first | exact Nat.lt_succ_self _ | omega
      case rel => exact ⟨j + 1, by rw [hw1], HJ1, ⟨below_step HB.out HB1.out⟩⟩
theorem fus_pos (l : List S43) : 1 ≤ fus l := by
  cases l with
  | nil => simp [fus]
  | cons x l => unfold fus; omega
theorem same_all : ∀ n, n ≤ 4611686018427387904 → SameListAt n ∧ SameExprAt n := by
  intro n
  induction n with
  | zero =>
    intro _
    refine ⟨fun l w A A' c c' h => ?_, fun x w A A' c c' h => ?_⟩
    · have := fus_pos l; omega
    · have := fu_eq x; omega
  | succ n ih =>
    intro hn
    obtain ⟨h1, h2⟩ := ih (by omega)
    exact ⟨sameList_step n (by omega) h2, sameExpr_step n h1⟩
/-- SameExpr at one expression, wherever it lies: true. -/
theorem sameExpr_out {x : S43} {w : World} {A A' : Option Addr} {c c' : Nat} (hx : fu x ≤ 4611686018427387904) (hc : x.f3.length ≤ c) (hc' : x.f3.length ≤ c') (hC : Kd.C k43 w A x.f3.length x.f3) (hC' : Kd.C k43 w A' x.f3.length x.f3) : Calls Tryz.prog 47 #[.agg (cells43 x A c).toArray, .agg (cells43 x A' c').toArray] w fun e w' => e = .returned (.bool true) ∧ Below w.heap.size w w' :=
  (same_all _ (Nat.le_refl _)).2 x w A A' c c' hx hc hc' hC hC'
theorem sameList_out {l : List S43} {w : World} {A A' : Option Addr} {c c' : Nat} (hx : fus l ≤ 4611686018427387904) (hc : l.length ≤ c) (hc' : l.length ≤ c') (hC : Kd.C k43 w A l.length l) (hC' : Kd.C k43 w A' l.length l) : Calls Tryz.prog 108 #[.slice A l.length c, .slice A' l.length c'] w fun e w' => e = .returned (.bool true) ∧ Below w.heap.size w w' :=
  (same_all _ (Nat.le_refl _)).1 l w A A' c c' hx hc hc' hC hC'
end Go.Proofs.YtcgdncpioafbdaaGreatDoor.Q
/- The document's comparison of statements, at one that lies at two places: true. -/
namespace Go.Proofs.YtcgdncpioafbdaaGreatDoor.Q
open Go Go.RowKit Go.Proofs.YtcgdncpioafbdaaGreatDoorW.PrintWords Go.Proofs.YtcgdncpioafbdaaGreatDoorW.PrintLast Go.Proofs.YtcgdncpioafbdaaGreatDoorW.PrintMore
attribute [local go_sem high] eqA40 eqA128
structure SameOk (x : S60) : Prop where
  n2 : x.f2.length ≤ 100000
  n4 : x.f4.length ≤ 100000
  n6 : x.f6.length ≤ 100000
  r4 : ∀ r ∈ x.f4, fus r ≤ 4611686018427387904
  r5 : fus x.f5 ≤ 4611686018427387904
  r7 : fus x.f7 ≤ 4611686018427387904
  s6 : ∀ s ∈ x.f6, fu s.f1 ≤ 4611686018427387904
set_option maxHeartbeats 4000000 in
set_option maxRecDepth 100000 in
theorem same_out {x : S60} {w : World} {a a' : Ads} {ok ok' : Nat → Prop} (hk : SameOk x) (hF : StA ok w x a) (hF' : StA ok' w x a') : Calls Tryz.prog 48 #[.agg (celA x a), .agg (celA x a')] w fun e w' => e = .returned (.bool true) ∧ Below w.heap.size w w' := by
  have HK := Aside0.mk hk
  have HN2 := Aside0.mk hk.n2
  have HN4 := Aside0.mk hk.n4
  have HN6 := Aside0.mk hk.n6
  have HF := Aside0.mk hF
  have HF' := Aside0.mk hF'
  clear hk hF hF'
  unfold celA cells60
  go_enter Tryz.func48, Tryz.ntmps48
  go_upto_region 1 with (fail)
  have HB0 := Aside0.mk (below_alloc (below_alloc (Below.refl w.heap.size w) (.cells #[.int .i64 x.f0, .string x.f1, .slice a.a2 x.f2.length a.c2, .string x.f3, .slice a.a4 x.f4.length a.c4, .slice a.a5 x.f5.length a.c5, .slice a.a6 x.f6.length a.c6, .slice a.a7 x.f7.length a.c7, .string x.f8, .bool x.f9, .int .i64 x.f10] 60 (0, 0))) (.cells #[.int .i64 x.f0, .string x.f1, .slice a'.a2 x.f2.length a'.c2, .string x.f3, .slice a'.a4 x.f4.length a'.c4, .slice a'.a5 x.f5.length a'.c5, .slice a'.a6 x.f6.length a'.c6, .slice a'.a7 x.f7.length a'.c7, .string x.f8, .bool x.f9, .int .i64 x.f10] 60 (0, 0)))
  have B1 := Aside0.mk (blk_alloc (new_blk (W := w) (.cells #[.int .i64 x.f0, .string x.f1, .slice a.a2 x.f2.length a.c2, .string x.f3, .slice a.a4 x.f4.length a.c4, .slice a.a5 x.f5.length a.c5, .slice a.a6 x.f6.length a.c6, .slice a.a7 x.f7.length a.c7, .string x.f8, .bool x.f9, .int .i64 x.f10] 60 (0, 0)) rfl) (.cells #[.int .i64 x.f0, .string x.f1, .slice a'.a2 x.f2.length a'.c2, .string x.f3, .slice a'.a4 x.f4.length a'.c4, .slice a'.a5 x.f5.length a'.c5, .slice a'.a6 x.f6.length a'.c6, .slice a'.a7 x.f7.length a'.c7, .string x.f8, .bool x.f9, .int .i64 x.f10] 60 (0, 0)))
  have B2 := Aside0.mk (new_blk (W := w.alloc (.cells #[.int .i64 x.f0, .string x.f1, .slice a.a2 x.f2.length a.c2, .string x.f3, .slice a.a4 x.f4.length a.c4, .slice a.a5 x.f5.length a.c5, .slice a.a6 x.f6.length a.c6, .slice a.a7 x.f7.length a.c7, .string x.f8, .bool x.f9, .int .i64 x.f10] 60 (0, 0))) (b := w.heap.size + 1) (.cells #[.int .i64 x.f0, .string x.f1, .slice a'.a2 x.f2.length a'.c2, .string x.f3, .slice a'.a4 x.f4.length a'.c4, .slice a'.a5 x.f5.length a'.c5, .slice a'.a6 x.f6.length a'.c6, .slice a'.a7 x.f7.length a'.c7, .string x.f8, .bool x.f9, .int .i64 x.f10] 60 (0, 0)) (by simp))
  generalize hb2 : w.heap.size + 1 = b2 at B2 ⊢
  generalize hb1 : w.heap.size = b1 at B1 ⊢
  generalize hW : (w.alloc (.cells #[.int .i64 x.f0, .string x.f1, .slice a.a2 x.f2.length a.c2, .string x.f3, .slice a.a4 x.f4.length a.c4, .slice a.a5 x.f5.length a.c5, .slice a.a6 x.f6.length a.c6, .slice a.a7 x.f7.length a.c7, .string x.f8, .bool x.f9, .int .i64 x.f10] 60 (0, 0))).alloc (.cells #[.int .i64 x.f0, .string x.f1, .slice a'.a2 x.f2.length a'.c2, .string x.f3, .slice a'.a4 x.f4.length a'.c4, .slice a'.a5 x.f5.length a'.c5, .slice a'.a6 x.f6.length a'.c6, .slice a'.a7 x.f7.length a'.c7, .string x.f8, .bool x.f9, .int .i64 x.f10] 60 (0, 0)) = W at B1 B2 HB0 ⊢
  clear hW hb1 hb2
  have ca0 : W.cell? ⟨b1, 0, none⟩ = some (.int .i64 x.f0) := (blk_cell B1.out 0).trans rfl
  have ca1 : W.cell? ⟨b1, 1, none⟩ = some (.string x.f1) := (blk_cell B1.out 1).trans rfl
  have ca2 : W.cell? ⟨b1, 2, none⟩ = some (.slice a.a2 x.f2.length a.c2) := (blk_cell B1.out 2).trans rfl
  have ca3 : W.cell? ⟨b1, 3, none⟩ = some (.string x.f3) := (blk_cell B1.out 3).trans rfl
  have ca4 : W.cell? ⟨b1, 4, none⟩ = some (.slice a.a4 x.f4.length a.c4) := (blk_cell B1.out 4).trans rfl
  have ca5 : W.cell? ⟨b1, 5, none⟩ = some (.slice a.a5 x.f5.length a.c5) := (blk_cell B1.out 5).trans rfl
  have ca6 : W.cell? ⟨b1, 6, none⟩ = some (.slice a.a6 x.f6.length a.c6) := (blk_cell B1.out 6).trans rfl
  have ca7 : W.cell? ⟨b1, 7, none⟩ = some (.slice a.a7 x.f7.length a.c7) := (blk_cell B1.out 7).trans rfl
  have ca8 : W.cell? ⟨b1, 8, none⟩ = some (.string x.f8) := (blk_cell B1.out 8).trans rfl
  have ca9 : W.cell? ⟨b1, 9, none⟩ = some (.bool x.f9) := (blk_cell B1.out 9).trans rfl
  have ca10 : W.cell? ⟨b1, 10, none⟩ = some (.int .i64 x.f10) := (blk_cell B1.out 10).trans rfl
  have cb0 : W.cell? ⟨b2, 0, none⟩ = some (.int .i64 x.f0) := (blk_cell B2.out 0).trans rfl
  have cb1 : W.cell? ⟨b2, 1, none⟩ = some (.string x.f1) := (blk_cell B2.out 1).trans rfl
  have cb2 : W.cell? ⟨b2, 2, none⟩ = some (.slice a'.a2 x.f2.length a'.c2) := (blk_cell B2.out 2).trans rfl
  have cb3 : W.cell? ⟨b2, 3, none⟩ = some (.string x.f3) := (blk_cell B2.out 3).trans rfl
  have cb4 : W.cell? ⟨b2, 4, none⟩ = some (.slice a'.a4 x.f4.length a'.c4) := (blk_cell B2.out 4).trans rfl
  have cb5 : W.cell? ⟨b2, 5, none⟩ = some (.slice a'.a5 x.f5.length a'.c5) := (blk_cell B2.out 5).trans rfl
  have cb6 : W.cell? ⟨b2, 6, none⟩ = some (.slice a'.a6 x.f6.length a'.c6) := (blk_cell B2.out 6).trans rfl
  have cb7 : W.cell? ⟨b2, 7, none⟩ = some (.slice a'.a7 x.f7.length a'.c7) := (blk_cell B2.out 7).trans rfl
  have cb8 : W.cell? ⟨b2, 8, none⟩ = some (.string x.f8) := (blk_cell B2.out 8).trans rfl
  have cb9 : W.cell? ⟨b2, 9, none⟩ = some (.bool x.f9) := (blk_cell B2.out 9).trans rfl
  have cb10 : W.cell? ⟨b2, 10, none⟩ = some (.int .i64 x.f10) := (blk_cell B2.out 10).trans rfl
  have hl1 := blk_lt B1.out
  have hl2 := blk_lt B2.out
  have C2 := Aside0.mk (Kd.C_below (Kd.F_now HF.out.f2) HB0.out)
  have D2 := Aside0.mk (Kd.C_below (Kd.F_now HF'.out.f2) HB0.out)
  have L2 := Aside0.mk HF.out.l2
  have M2 := Aside0.mk HF'.out.l2
  have C4 := Aside0.mk (Kd.C_below (Kd.F_now HF.out.f4) HB0.out)
  have D4 := Aside0.mk (Kd.C_below (Kd.F_now HF'.out.f4) HB0.out)
  have L4 := Aside0.mk HF.out.l4
  have M4 := Aside0.mk HF'.out.l4
  have C5 := Aside0.mk (Kd.C_below (Kd.F_now HF.out.f5) HB0.out)
  have D5 := Aside0.mk (Kd.C_below (Kd.F_now HF'.out.f5) HB0.out)
  have L5 := Aside0.mk HF.out.l5
  have M5 := Aside0.mk HF'.out.l5
  have C6 := Aside0.mk (Kd.C_below (Kd.F_now HF.out.f6) HB0.out)
  have D6 := Aside0.mk (Kd.C_below (Kd.F_now HF'.out.f6) HB0.out)
  have L6 := Aside0.mk HF.out.l6
  have M6 := Aside0.mk HF'.out.l6
  have C7 := Aside0.mk (Kd.C_below (Kd.F_now HF.out.f7) HB0.out)
  have D7 := Aside0.mk (Kd.C_below (Kd.F_now HF'.out.f7) HB0.out)
  have L7 := Aside0.mk HF.out.l7
  have M7 := Aside0.mk HF'.out.l7
  clear HF HF'
  go_upto_region 4 with (fail)
  go_loopg [5] x.f2.length (fun kq v5 w' => ∃ j : Nat, v5 = .int .i64 (j : Int) ∧ Aside0 (j + kq = x.f2.length) ∧ Aside0 (Below W.heap.size W w'))
  case atStart => exact ⟨0, rfl, ⟨by omega⟩, ⟨Below.refl _ _⟩⟩
  case round =>
    obtain ⟨j, rfl, HJ, HB⟩ := hrel
    have hjl := HJ.out
    have ha2 := pw_cell_below HB.out ca2
    have hb2 := pw_cell_below HB.out cb2
    cases gk with
    | zero =>
      have d0 : decide ((j : Int) < (x.f2.length : Int)) = false := decide_eq_false (by omega)
      have d1 : decide (j < x.f2.length) = false := decide_eq_false (by omega)
      clear hjl
      go_upto_region 9 with (fail)
      go_loopg [6] x.f4.length (fun kq v6 w' => ∃ j : Nat, v6 = .int .i64 (j : Int) ∧ Aside0 (j + kq = x.f4.length) ∧ Aside0 (Below W.heap.size W w'))
      case atStart => exact ⟨0, rfl, ⟨by omega⟩, ⟨HB.out⟩⟩
      case round =>
        obtain ⟨j, rfl, HJ, HB⟩ := hrel
        have hjl := HJ.out
        have ha4 := pw_cell_below HB.out ca4
        have hb4 := pw_cell_below HB.out cb4
        cases gk with
        | zero =>
          have d0 : decide ((j : Int) < (x.f4.length : Int)) = false := decide_eq_false (by omega)
          have d1 : decide (j < x.f4.length) = false := decide_eq_false (by omega)
          clear hjl
          go_upto_region 14 with (fail)
          go_loopg [7] x.f6.length (fun kq v7 w' => ∃ j : Nat, v7 = .int .i64 (j : Int) ∧ Aside0 (j + kq = x.f6.length) ∧ Aside0 (Below W.heap.size W w'))
          case atStart => exact ⟨0, rfl, ⟨by omega⟩, ⟨HB.out⟩⟩
          case round =>
            obtain ⟨j, rfl, HJ, HB⟩ := hrel
            have hjl := HJ.out
            have ha6 := pw_cell_below HB.out ca6
            have hb6 := pw_cell_below HB.out cb6
            cases gk with
            | zero =>
              have d0 : decide ((j : Int) < (x.f6.length : Int)) = false := decide_eq_false (by omega)
              have d1 : decide (j < x.f6.length) = false := decide_eq_false (by omega)
              clear hjl
              have ca5_ := pw_cell_below HB.out ca5
              have cb5_ := pw_cell_below HB.out cb5
              have ca7_ := pw_cell_below HB.out ca7
              have cb7_ := pw_cell_below HB.out cb7
              go_wp2_with (first | (go_at_call 108; first | (refine (sameList_out (l := x.f7) HK.out.r7 L7.out M7.out (Kd.C_below C7.out HX2.out) (Kd.C_below D7.out HX2.out)).mono ?_; rintro e3 w3 ⟨rfl, hb⟩; have HX3 := Aside0.mk (below_step HX2.out hb); clear hb) | (refine (sameList_out (l := x.f5) HK.out.r5 L5.out M5.out (Kd.C_below C5.out HB.out) (Kd.C_below D5.out HB.out)).mono ?_; rintro e2 w2 ⟨rfl, hb⟩; have HB2 := Aside0.mk hb; have HX2 := Aside0.mk (below_step HB.out hb); have ca7_2 := pw_cell_below HX2.out ca7; have cb7_2 := pw_cell_below HX2.out cb7; clear hb)))
              go_ret
              exact ⟨rfl, below_step HB0.out HX3.out⟩

            | succ k1 =>
              have d0 : decide ((j : Int) < (x.f6.length : Int)) = true := decide_eq_true (by omega)
              have d1 : decide (j < x.f6.length) = true := decide_eq_true (by omega)
              have p1 : 0 ≤ (j : Int) := by omega
              have q1 : (j : Int) < (x.f6.length : Int) := by omega
              have hjn : j < x.f6.length := by omega
              have HJ1 := Aside0.mk (show j + 1 + k1 = x.f6.length by omega)
              have hw1 : wrap64 ((j : Int) + 1) = ((j + 1 : Nat) : Int) := by unfold wrap64; have := HN6.out; omega
              have p2 : ((j : Int) < 0) = False := eq_false (by omega)
              obtain ⟨ad, A6, c6, e5, x0, x1, x2, x3, x4, x5, x6, lx, gx⟩ := at_T90 (Kd.C_below C6.out HB.out) (j : Int) p1 q1
              obtain ⟨ae, A7, c7, e6, y0, y1, y2, y3, y4, y5, y6, ly, gy⟩ := at_T90 (Kd.C_below D6.out HB.out) (j : Int) p1 q1
              have hr : fu (rd_T90 x.f6 (j : Int)).f1 ≤ 4611686018427387904 := HK.out.s6 _ (by
                unfold rd_T90
                rw [Int.toNat_natCast, List.getD_eq_getElem?_getD, List.getElem?_eq_getElem hjn]
                exact List.getElem_mem _)
              generalize rd_T90 x.f6 (j : Int) = t at x0 x1 x2 x3 x4 x5 x6 y0 y1 y2 y3 y4 y5 y6 lx ly gx gy hr
              simp only [Int.toNat_natCast] at x0 x1 x2 x3 x4 x5 x6 y0 y1 y2 y3 y4 y5 y6
              rw [e5] at ha6
              rw [e6] at hb6
              have LX := Aside0.mk lx
              have LY := Aside0.mk ly
              have GX := Aside0.mk gx
              have GY := Aside0.mk gy
              have HR := Aside0.mk hr
              replace p1 := eq_true p1
              replace q1 := eq_true q1
              clear hjl lx ly gx gy hr
              go_upto_region 16 with (fail)
              refine start_ (n := 29) (S := fun w' => w'.cell? ⟨b1, 6, none⟩ = some (.slice (some ad) x.f6.length a.c6) ∧ w'.cell? ⟨b2, 6, none⟩ = some (.slice (some ae) x.f6.length a'.c6) ∧ w'.cell? (ad.add (j * 7)) = some (.string t.f0) ∧ w'.cell? ⟨(ad.add (j * 7)).block, (ad.add (j * 7)).off + 1, none⟩ = some (.string t.f1.f0) ∧ w'.cell? ⟨(ad.add (j * 7)).block, (ad.add (j * 7)).off + 2, none⟩ = some (.int .i64 t.f1.f1.f0) ∧ w'.cell? ⟨(ad.add (j * 7)).block, (ad.add (j * 7)).off + 3, none⟩ = some (.int .i64 t.f1.f1.f1) ∧ w'.cell? ⟨(ad.add (j * 7)).block, (ad.add (j * 7)).off + 4, none⟩ = some (.string t.f1.f1.f2) ∧ w'.cell? ⟨(ad.add (j * 7)).block, (ad.add (j * 7)).off + 5, none⟩ = some (.string t.f1.f2) ∧ w'.cell? ⟨(ad.add (j * 7)).block, (ad.add (j * 7)).off + 6, none⟩ = some (.slice A6 t.f1.f3.length c6) ∧ w'.cell? (ae.add (j * 7)) = some (.string t.f0) ∧ w'.cell? ⟨(ae.add (j * 7)).block, (ae.add (j * 7)).off + 1, none⟩ = some (.string t.f1.f0) ∧ w'.cell? ⟨(ae.add (j * 7)).block, (ae.add (j * 7)).off + 2, none⟩ = some (.int .i64 t.f1.f1.f0) ∧ w'.cell? ⟨(ae.add (j * 7)).block, (ae.add (j * 7)).off + 3, none⟩ = some (.int .i64 t.f1.f1.f1) ∧ w'.cell? ⟨(ae.add (j * 7)).block, (ae.add (j * 7)).off + 4, none⟩ = some (.string t.f1.f1.f2) ∧ w'.cell? ⟨(ae.add (j * 7)).block, (ae.add (j * 7)).off + 5, none⟩ = some (.string t.f1.f2) ∧ w'.cell? ⟨(ae.add (j * 7)).block, (ae.add (j * 7)).off + 6, none⟩ = some (.slice A7 t.f1.f3.length c7)) (ds := []) #[false, false, false, false, false, false, false, false, false, false, false, false, false, false, false, false, false, false, false, false, false, false, false, false, false, false, false, false, false] (by kernel_rfl) rfl rfl ⟨ha6, hb6, x0, x1, x2, x3, x4, x5, x6, y0, y1, y2, y3, y4, y5, y6⟩ (fun hHeld => ?_)
              refine pure_ (i := 0) (N := some 119) (v := ?_) (a' := ?_) #[true, false, false, false, false, false, false, false, false, false, false, false, false, false, false, false, false, false, false, false, false, false, false, false, false, false, false, false, false] rfl rfl (by kernel_rfl) (fun _ _ _ h => h) (Or.inl ⟨by rfl, ?_⟩) ?_ ?_
              rotate_left
              · intro w'
                go_simp
                with_reducible rfl
              rotate_left
              · simp only [Act.put, List.setIfInBounds_toArray, List.set_cons_zero, List.set_cons_succ, i64_w, i32_w]
                rfl
              refine take_ (i := 1) (N := some 120) (v := ?_) (a' := ?_) #[true, true, false, false, false, false, false, false, false, false, false, false, false, false, false, false, false, false, false, false, false, false, false, false, false, false, false, false, false] rfl rfl (by kernel_rfl) (fun _ _ _ h => h) (Or.inl ⟨by rfl, ?_⟩) hHeld ?_ ?_
              rotate_left
              · rintro w' ⟨s0, s1, s2, s3, s4, s5, s6, s7, s8, s9, s10, s11, s12, s13, s14, s15⟩
                go_simp
                with_reducible rfl
              rotate_left
              · simp only [Act.put, List.setIfInBounds_toArray, List.set_cons_zero, List.set_cons_succ, i64_w, i32_w]
                rfl
              refine pure_ (i := 2) (N := some 121) (v := ?_) (a' := ?_) #[true, true, true, false, false, false, false, false, false, false, false, false, false, false, false, false, false, false, false, false, false, false, false, false, false, false, false, false, false] rfl rfl (by kernel_rfl) (fun _ _ _ h => h) (Or.inl ⟨by rfl, ?_⟩) ?_ ?_
              rotate_left
              · intro w'
                go_simp
                with_reducible rfl
              rotate_left
              · simp only [Act.put, List.setIfInBounds_toArray, List.set_cons_zero, List.set_cons_succ, i64_w, i32_w]
                rfl
              refine pure_ (i := 3) (N := some 122) (v := ?_) (a' := ?_) #[true, true, true, true, false, false, false, false, false, false, false, false, false, false, false, false, false, false, false, false, false, false, false, false, false, false, false, false, false] rfl rfl (by kernel_rfl) (fun _ _ _ h => h) (Or.inl ⟨by rfl, ?_⟩) ?_ ?_
              rotate_left
              · intro w'
                go_simp
                with_reducible rfl
              rotate_left
              · simp only [Act.put, List.setIfInBounds_toArray, List.set_cons_zero, List.set_cons_succ, i64_w, i32_w]
                rfl
              refine pure_ (i := 4) (N := some 123) (v := ?_) (a' := ?_) #[true, true, true, true, true, false, false, false, false, false, false, false, false, false, false, false, false, false, false, false, false, false, false, false, false, false, false, false, false] rfl rfl (by kernel_rfl) (fun _ _ _ h => h) (Or.inl ⟨by rfl, ?_⟩) ?_ ?_
              rotate_left
              · intro w'
                go_simp
                with_reducible rfl
              rotate_left
              · simp only [Act.put, List.setIfInBounds_toArray, List.set_cons_zero, List.set_cons_succ, i64_w, i32_w]
                rfl
              refine take_ (i := 5) (N := some 124) (v := ?_) (a' := ?_) #[true, true, true, true, true, true, false, false, false, false, false, false, false, false, false, false, false, false, false, false, false, false, false, false, false, false, false, false, false] rfl rfl (by kernel_rfl) (fun _ _ _ h => h) (Or.inl ⟨by rfl, ?_⟩) hHeld ?_ ?_
              rotate_left
              · rintro w' ⟨s0, s1, s2, s3, s4, s5, s6, s7, s8, s9, s10, s11, s12, s13, s14, s15⟩
                go_simp
                with_reducible rfl
              rotate_left
              · simp only [Act.put, List.setIfInBounds_toArray, List.set_cons_zero, List.set_cons_succ, i64_w, i32_w]
                rfl
              refine pure_ (i := 6) (N := some 125) (v := ?_) (a' := ?_) #[true, true, true, true, true, true, true, false, false, false, false, false, false, false, false, false, false, false, false, false, false, false, false, false, false, false, false, false, false] rfl rfl (by kernel_rfl) (fun _ _ _ h => h) (Or.inl ⟨by rfl, ?_⟩) ?_ ?_
              rotate_left
              · intro w'
                go_simp
                with_reducible rfl
              rotate_left
              · simp only [Act.put, List.setIfInBounds_toArray, List.set_cons_zero, List.set_cons_succ, i64_w, i32_w]
                rfl
              refine take_ (i := 7) (N := some 126) (v := ?_) (a' := ?_) #[true, true, true, true, true, true, true, true, false, false, false, false, false, false, false, false, false, false, false, false, false, false, false, false, false, false, false, false, false] rfl rfl (by kernel_rfl) (fun _ _ _ h => h) (Or.inl ⟨by rfl, ?_⟩) hHeld ?_ ?_
              rotate_left
              · rintro w' ⟨s0, s1, s2, s3, s4, s5, s6, s7, s8, s9, s10, s11, s12, s13, s14, s15⟩
                go_simp
                with_reducible rfl
              rotate_left
              · simp only [Act.put, List.setIfInBounds_toArray, List.set_cons_zero, List.set_cons_succ, i64_w, i32_w]
                rfl
              refine pure_ (i := 8) (N := some 127) (v := ?_) (a' := ?_) #[true, true, true, true, true, true, true, true, true, false, false, false, false, false, false, false, false, false, false, false, false, false, false, false, false, false, false, false, false] rfl rfl (by kernel_rfl) (fun _ _ _ h => h) (Or.inl ⟨by rfl, ?_⟩) ?_ ?_
              rotate_left
              · intro w'
                go_simp
                with_reducible rfl
              rotate_left
              · simp only [Act.put, List.setIfInBounds_toArray, List.set_cons_zero, List.set_cons_succ, i64_w, i32_w]
                rfl
              refine pure_ (i := 9) (N := some 128) (v := ?_) (a' := ?_) #[true, true, true, true, true, true, true, true, true, true, false, false, false, false, false, false, false, false, false, false, false, false, false, false, false, false, false, false, false] rfl rfl (by kernel_rfl) (fun _ _ _ h => h) (Or.inl ⟨by rfl, ?_⟩) ?_ ?_
              rotate_left
              · intro w'
                go_simp
                with_reducible rfl
              rotate_left
              · simp only [Act.put, List.setIfInBounds_toArray, List.set_cons_zero, List.set_cons_succ, i64_w, i32_w]
                rfl
              refine pure_ (i := 10) (N := some 129) (v := ?_) (a' := ?_) #[true, true, true, true, true, true, true, true, true, true, true, false, false, false, false, false, false, false, false, false, false, false, false, false, false, false, false, false, false] rfl rfl (by kernel_rfl) (fun _ _ _ h => h) (Or.inl ⟨by rfl, ?_⟩) ?_ ?_
              rotate_left
              · intro w'
                go_simp
                with_reducible rfl
              rotate_left
              · simp only [Act.put, List.setIfInBounds_toArray, List.set_cons_zero, List.set_cons_succ, i64_w, i32_w]
                rfl
              refine take_ (i := 11) (N := some 130) (v := ?_) (a' := ?_) #[true, true, true, true, true, true, true, true, true, true, true, true, false, false, false, false, false, false, false, false, false, false, false, false, false, false, false, false, false] rfl rfl (by kernel_rfl) (fun _ _ _ h => h) (Or.inl ⟨by rfl, ?_⟩) hHeld ?_ ?_
              rotate_left
              · rintro w' ⟨s0, s1, s2, s3, s4, s5, s6, s7, s8, s9, s10, s11, s12, s13, s14, s15⟩
                go_simp
                with_reducible rfl
              rotate_left
              · simp only [Act.put, List.setIfInBounds_toArray, List.set_cons_zero, List.set_cons_succ, i64_w, i32_w]
                rfl
              refine pure_ (i := 12) (N := some 131) (v := ?_) (a' := ?_) #[true, true, true, true, true, true, true, true, true, true, true, true, true, false, false, false, false, false, false, false, false, false, false, false, false, false, false, false, false] rfl rfl (by kernel_rfl) (fun _ _ _ h => h) (Or.inl ⟨by rfl, ?_⟩) ?_ ?_
              rotate_left
              · intro w'
                go_simp
                with_reducible rfl
              rotate_left
              · simp only [Act.put, List.setIfInBounds_toArray, List.set_cons_zero, List.set_cons_succ, i64_w, i32_w]
                rfl
              refine pure_ (i := 13) (N := some 132) (v := ?_) (a' := ?_) #[true, true, true, true, true, true, true, true, true, true, true, true, true, true, false, false, false, false, false, false, false, false, false, false, false, false, false, false, false] rfl rfl (by kernel_rfl) (fun _ _ _ h => h) (Or.inl ⟨by rfl, ?_⟩) ?_ ?_
              rotate_left
              · intro w'
                go_simp
                with_reducible rfl
              rotate_left
              · simp only [Act.put, List.setIfInBounds_toArray, List.set_cons_zero, List.set_cons_succ, i64_w, i32_w]
                rfl
              refine pure_ (i := 14) (N := some 133) (v := ?_) (a' := ?_) #[true, true, true, true, true, true, true, true, true, true, true, true, true, true, true, false, false, false, false, false, false, false, false, false, false, false, false, false, false] rfl rfl (by kernel_rfl) (fun _ _ _ h => h) (Or.inl ⟨by rfl, ?_⟩) ?_ ?_
              rotate_left
              · intro w'
                go_simp
                with_reducible rfl
              rotate_left
              · simp only [Act.put, List.setIfInBounds_toArray, List.set_cons_zero, List.set_cons_succ, i64_w, i32_w]
                rfl
              refine take_ (i := 15) (N := some 134) (v := ?_) (a' := ?_) #[true, true, true, true, true, true, true, true, true, true, true, true, true, true, true, true, false, false, false, false, false, false, false, false, false, false, false, false, false] rfl rfl (by kernel_rfl) (fun _ _ _ h => h) (Or.inl ⟨by rfl, ?_⟩) hHeld ?_ ?_
              rotate_left
              · rintro w' ⟨s0, s1, s2, s3, s4, s5, s6, s7, s8, s9, s10, s11, s12, s13, s14, s15⟩
                go_simp
                with_reducible rfl
              rotate_left
              · simp only [Act.put, List.setIfInBounds_toArray, List.set_cons_zero, List.set_cons_succ, i64_w, i32_w]
                rfl
              refine pure_ (i := 16) (N := some 135) (v := ?_) (a' := ?_) #[true, true, true, true, true, true, true, true, true, true, true, true, true, true, true, true, true, false, false, false, false, false, false, false, false, false, false, false, false] rfl rfl (by kernel_rfl) (fun _ _ _ h => h) (Or.inl ⟨by rfl, ?_⟩) ?_ ?_
              rotate_left
              · intro w'
                go_simp
                with_reducible rfl
              rotate_left
              · simp only [Act.put, List.setIfInBounds_toArray, List.set_cons_zero, List.set_cons_succ, i64_w, i32_w]
                rfl
              refine pure_ (i := 17) (N := some 136) (v := ?_) (a' := ?_) #[true, true, true, true, true, true, true, true, true, true, true, true, true, true, true, true, true, true, false, false, false, false, false, false, false, false, false, false, false] rfl rfl (by kernel_rfl) (fun _ _ _ h => h) (Or.inl ⟨by rfl, ?_⟩) ?_ ?_
              rotate_left
              · intro w'
                go_simp
                with_reducible rfl
              rotate_left
              · simp only [Act.put, List.setIfInBounds_toArray, List.set_cons_zero, List.set_cons_succ, i64_w, i32_w]
                rfl
              refine pure_ (i := 18) (N := some 137) (v := ?_) (a' := ?_) #[true, true, true, true, true, true, true, true, true, true, true, true, true, true, true, true, true, true, true, false, false, false, false, false, false, false, false, false, false] rfl rfl (by kernel_rfl) (fun _ _ _ h => h) (Or.inl ⟨by rfl, ?_⟩) ?_ ?_
              rotate_left
              · intro w'
                go_simp
                with_reducible rfl
              rotate_left
              · simp only [Act.put, List.setIfInBounds_toArray, List.set_cons_zero, List.set_cons_succ, i64_w, i32_w]
                rfl
              refine take_ (i := 19) (N := some 138) (v := ?_) (a' := ?_) #[true, true, true, true, true, true, true, true, true, true, true, true, true, true, true, true, true, true, true, true, false, false, false, false, false, false, false, false, false] rfl rfl (by kernel_rfl) (fun _ _ _ h => h) (Or.inl ⟨by rfl, ?_⟩) hHeld ?_ ?_
              rotate_left
              · rintro w' ⟨s0, s1, s2, s3, s4, s5, s6, s7, s8, s9, s10, s11, s12, s13, s14, s15⟩
                go_simp
                with_reducible rfl
              rotate_left
              · simp only [Act.put, List.setIfInBounds_toArray, List.set_cons_zero, List.set_cons_succ, i64_w, i32_w]
                rfl
              refine pure_ (i := 20) (N := some 139) (v := ?_) (a' := ?_) #[true, true, true, true, true, true, true, true, true, true, true, true, true, true, true, true, true, true, true, true, true, false, false, false, false, false, false, false, false] rfl rfl (by kernel_rfl) (fun _ _ _ h => h) (Or.inl ⟨by rfl, ?_⟩) ?_ ?_
              rotate_left
              · intro w'
                go_simp
                with_reducible rfl
              rotate_left
              · simp only [Act.put, List.setIfInBounds_toArray, List.set_cons_zero, List.set_cons_succ, i64_w, i32_w]
                rfl
              refine take_ (i := 21) (N := some 140) (v := ?_) (a' := ?_) #[true, true, true, true, true, true, true, true, true, true, true, true, true, true, true, true, true, true, true, true, true, true, false, false, false, false, false, false, false] rfl rfl (by kernel_rfl) (fun _ _ _ h => h) (Or.inl ⟨by rfl, ?_⟩) hHeld ?_ ?_
              rotate_left
              · rintro w' ⟨s0, s1, s2, s3, s4, s5, s6, s7, s8, s9, s10, s11, s12, s13, s14, s15⟩
                go_simp
                with_reducible rfl
              rotate_left
              · simp only [Act.put, List.setIfInBounds_toArray, List.set_cons_zero, List.set_cons_succ, i64_w, i32_w]
                rfl
              refine pure_ (i := 22) (N := some 141) (v := ?_) (a' := ?_) #[true, true, true, true, true, true, true, true, true, true, true, true, true, true, true, true, true, true, true, true, true, true, true, false, false, false, false, false, false] rfl rfl (by kernel_rfl) (fun _ _ _ h => h) (Or.inl ⟨by rfl, ?_⟩) ?_ ?_
              rotate_left
              · intro w'
                go_simp
                with_reducible rfl
              rotate_left
              · simp only [Act.put, List.setIfInBounds_toArray, List.set_cons_zero, List.set_cons_succ, i64_w, i32_w]
                rfl
              refine pure_ (i := 23) (N := some 142) (v := ?_) (a' := ?_) #[true, true, true, true, true, true, true, true, true, true, true, true, true, true, true, true, true, true, true, true, true, true, true, true, false, false, false, false, false] rfl rfl (by kernel_rfl) (fun _ _ _ h => h) (Or.inl ⟨by rfl, ?_⟩) ?_ ?_
              rotate_left
              · intro w'
                go_simp
                with_reducible rfl
              rotate_left
              · simp only [Act.put, List.setIfInBounds_toArray, List.set_cons_zero, List.set_cons_succ, i64_w, i32_w]
                rfl
              refine pure_ (i := 24) (N := some 143) (v := ?_) (a' := ?_) #[true, true, true, true, true, true, true, true, true, true, true, true, true, true, true, true, true, true, true, true, true, true, true, true, true, false, false, false, false] rfl rfl (by kernel_rfl) (fun _ _ _ h => h) (Or.inl ⟨by rfl, ?_⟩) ?_ ?_
              rotate_left
              · intro w'
                go_simp
                with_reducible rfl
              rotate_left
              · simp only [Act.put, List.setIfInBounds_toArray, List.set_cons_zero, List.set_cons_succ, i64_w, i32_w]
                rfl
              refine take_ (i := 25) (N := some 144) (v := ?_) (a' := ?_) #[true, true, true, true, true, true, true, true, true, true, true, true, true, true, true, true, true, true, true, true, true, true, true, true, true, true, false, false, false] rfl rfl (by kernel_rfl) (fun _ _ _ h => h) (Or.inl ⟨by rfl, ?_⟩) hHeld ?_ ?_
              rotate_left
              · rintro w' ⟨s0, s1, s2, s3, s4, s5, s6, s7, s8, s9, s10, s11, s12, s13, s14, s15⟩
                go_simp
                with_reducible rfl
              rotate_left
              · simp only [Act.put, List.setIfInBounds_toArray, List.set_cons_zero, List.set_cons_succ, i64_w, i32_w]
                rfl
              refine one_ (i := 26) (N := some 145) #[true, true, true, true, true, true, true, true, true, true, true, true, true, true, true, true, true, true, true, true, true, true, true, true, true, true, true, false, false] rfl rfl (by kernel_rfl) (by decide) (fun K hK => ?_)
              refine goes_ Tryz.func47 (by kernel_rfl) rfl #[.agg (cells43 t.f1 A6 c6).toArray, .agg (cells43 t.f1 A7 c7).toArray] (by rfl) rfl rfl (by (try simp only [List.map_toArray, List.map_cons, List.map_nil]); first | done | rfl) ?_
              refine (sameExpr_out (x := t.f1) HR.out LX.out LY.out (Kd.C_below GX.out (below_drew1 (Below.refl _ _))) (Kd.C_below GY.out (below_drew1 (Below.refl _ _)))).mono ?_
              rintro e1 w1 ⟨rfl, hb⟩
              have HB1 := Aside0.mk (below_step (below_drew1 (Below.refl wr.heap.size wr)) hb)
              refine ⟨_, rfl, ?_⟩
              clear hb
              have z0 := pw_cell_below HB1.out ha6
              have z1 := pw_cell_below HB1.out hb6
              have z2 := pw_cell_below HB1.out x0
              have z3 := pw_cell_below HB1.out x1
              have z4 := pw_cell_below HB1.out x2
              have z5 := pw_cell_below HB1.out x3
              have z6 := pw_cell_below HB1.out x4
              have z7 := pw_cell_below HB1.out x5
              have z8 := pw_cell_below HB1.out x6
              have z9 := pw_cell_below HB1.out y0
              have z10 := pw_cell_below HB1.out y1
              have z11 := pw_cell_below HB1.out y2
              have z12 := pw_cell_below HB1.out y3
              have z13 := pw_cell_below HB1.out y4
              have z14 := pw_cell_below HB1.out y5
              have z15 := pw_cell_below HB1.out y6
              refine hK.out _ _ ⟨z0, z1, z2, z3, z4, z5, z6, z7, z8, z9, z10, z11, z12, z13, z14, z15⟩ (fun hHeld => ?_)
              clear hK K z0 z1 z2 z3 z4 z5 z6 z7 z8 z9 z10 z11 z12 z13 z14 z15
              refine norm_ (a' := ?_) ?_ ?_
              rotate_left
              · show Act.put _ (some 145) _ = _
                simp only [Act.put, List.setIfInBounds_toArray, List.set_cons_zero, List.set_cons_succ, i64_w, i32_w]
                rfl
              refine pure_ (i := 27) (N := some 146) (v := ?_) (a' := ?_) #[true, true, true, true, true, true, true, true, true, true, true, true, true, true, true, true, true, true, true, true, true, true, true, true, true, true, true, true, false] rfl rfl (by kernel_rfl) (fun _ _ _ h => h) (Or.inl ⟨by rfl, ?_⟩) ?_ ?_
              rotate_left
              · intro w'
                go_simp
                with_reducible rfl
              rotate_left
              · simp only [Act.put, List.setIfInBounds_toArray, List.set_cons_zero, List.set_cons_succ, i64_w, i32_w]
                rfl
              refine pure_ (i := 28) (N := some 147) (v := ?_) (a' := ?_) #[true, true, true, true, true, true, true, true, true, true, true, true, true, true, true, true, true, true, true, true, true, true, true, true, true, true, true, true, true] rfl rfl (by kernel_rfl) (fun _ _ _ h => h) (Or.inl ⟨by rfl, ?_⟩) ?_ ?_
              rotate_left
              · intro w'
                go_simp
                with_reducible rfl
              rotate_left
              · simp only [Act.put, List.setIfInBounds_toArray, List.set_cons_zero, List.set_cons_succ, i64_w, i32_w]
                rfl
              refine done_ (by kernel_rfl) ?_
              go_wp2
              go_roundg k1
              case measure => first | exact Nat.lt_succ_self _ | omega
              case rel => exact ⟨j + 1, by first | rfl | rw [hw1] | (rw [Int.natCast_add]; rfl), HJ1, ⟨below_step HB.out HB1.out⟩⟩


        | succ k1 =>
          have d0 : decide ((j : Int) < (x.f4.length : Int)) = true := decide_eq_true (by omega)
          have d1 : decide (j < x.f4.length) = true := decide_eq_true (by omega)
          have p1 : 0 ≤ (j : Int) := by omega
          have q1 : (j : Int) < (x.f4.length : Int) := by omega
          have hjn : j < x.f4.length := by omega
          have HJ1 := Aside0.mk (show j + 1 + k1 = x.f4.length by omega)
          have hw1 : wrap64 ((j : Int) + 1) = ((j + 1 : Nat) : Int) := by unfold wrap64; have := HN4.out; omega
          have p2 : ((j : Int) < 0) = False := eq_false (by omega)
          obtain ⟨ad, A0, c0, e5, x0, lx, gx⟩ := at_P8 (Kd.C_below C4.out HB.out) (j : Int) p1 q1
          obtain ⟨ae, A1, c1, e6, y0, ly, gy⟩ := at_P8 (Kd.C_below D4.out HB.out) (j : Int) p1 q1
          have hr : fus (rd_P8 x.f4 (j : Int)) ≤ 4611686018427387904 := HK.out.r4 _ (by
            unfold rd_P8
            rw [Int.toNat_natCast, List.getD_eq_getElem?_getD, List.getElem?_eq_getElem hjn]
            exact List.getElem_mem _)
          generalize rd_P8 x.f4 (j : Int) = r at x0 y0 lx ly gx gy hr
          simp only [Int.toNat_natCast] at x0 y0
          rw [e5] at ha4
          rw [e6] at hb4
          have LX := Aside0.mk lx
          have LY := Aside0.mk ly
          have GX := Aside0.mk gx
          have GY := Aside0.mk gy
          have HR := Aside0.mk hr
          replace p1 := eq_true p1
          replace q1 := eq_true q1
          clear hjl lx ly gx gy hr
          go_upto_region 11 with (fail)
          refine start_ (n := 12) (S := fun w' => w'.cell? ⟨b1, 4, none⟩ = some (.slice (some ad) x.f4.length a.c4) ∧ w'.cell? ⟨b2, 4, none⟩ = some (.slice (some ae) x.f4.length a'.c4) ∧ w'.cell? (ad.add j) = some (.slice A0 r.length c0) ∧ w'.cell? (ae.add j) = some (.slice A1 r.length c1)) (ds := []) #[false, false, false, false, false, false, false, false, false, false, false, false] (by kernel_rfl) rfl rfl ⟨ha4, hb4, x0, y0⟩ (fun hHeld => ?_)
          refine pure_ (i := 0) (N := some 100) (v := ?_) (a' := ?_) #[true, false, false, false, false, false, false, false, false, false, false, false] rfl rfl (by kernel_rfl) (fun _ _ _ h => h) (Or.inl ⟨by rfl, ?_⟩) ?_ ?_
          rotate_left
          · intro w'
            go_simp
            with_reducible rfl
          rotate_left
          · simp only [Act.put, List.setIfInBounds_toArray, List.set_cons_zero, List.set_cons_succ, i64_w, i32_w]
            rfl
          refine take_ (i := 1) (N := some 101) (v := ?_) (a' := ?_) #[true, true, false, false, false, false, false, false, false, false, false, false] rfl rfl (by kernel_rfl) (fun _ _ _ h => h) (Or.inl ⟨by rfl, ?_⟩) hHeld ?_ ?_
          rotate_left
          · rintro w' ⟨s0, s1, s2, s3⟩
            go_simp
            with_reducible rfl
          rotate_left
          · simp only [Act.put, List.setIfInBounds_toArray, List.set_cons_zero, List.set_cons_succ, i64_w, i32_w]
            rfl
          refine pure_ (i := 2) (N := some 102) (v := ?_) (a' := ?_) #[true, true, true, false, false, false, false, false, false, false, false, false] rfl rfl (by kernel_rfl) (fun _ _ _ h => h) (Or.inl ⟨by rfl, ?_⟩) ?_ ?_
          rotate_left
          · intro w'
            go_simp
            with_reducible rfl
          rotate_left
          · simp only [Act.put, List.setIfInBounds_toArray, List.set_cons_zero, List.set_cons_succ, i64_w, i32_w]
            rfl
          refine pure_ (i := 3) (N := some 103) (v := ?_) (a' := ?_) #[true, true, true, true, false, false, false, false, false, false, false, false] rfl rfl (by kernel_rfl) (fun _ _ _ h => h) (Or.inl ⟨by rfl, ?_⟩) ?_ ?_
          rotate_left
          · intro w'
            go_simp
            with_reducible rfl
          rotate_left
          · simp only [Act.put, List.setIfInBounds_toArray, List.set_cons_zero, List.set_cons_succ, i64_w, i32_w]
            rfl
          refine take_ (i := 4) (N := some 104) (v := ?_) (a' := ?_) #[true, true, true, true, true, false, false, false, false, false, false, false] rfl rfl (by kernel_rfl) (fun _ _ _ h => h) (Or.inl ⟨by rfl, ?_⟩) hHeld ?_ ?_
          rotate_left
          · rintro w' ⟨s0, s1, s2, s3⟩
            go_simp
            with_reducible rfl
          rotate_left
          · simp only [Act.put, List.setIfInBounds_toArray, List.set_cons_zero, List.set_cons_succ, i64_w, i32_w]
            rfl
          refine pure_ (i := 5) (N := some 105) (v := ?_) (a' := ?_) #[true, true, true, true, true, true, false, false, false, false, false, false] rfl rfl (by kernel_rfl) (fun _ _ _ h => h) (Or.inl ⟨by rfl, ?_⟩) ?_ ?_
          rotate_left
          · intro w'
            go_simp
            with_reducible rfl
          rotate_left
          · simp only [Act.put, List.setIfInBounds_toArray, List.set_cons_zero, List.set_cons_succ, i64_w, i32_w]
            rfl
          refine take_ (i := 6) (N := some 106) (v := ?_) (a' := ?_) #[true, true, true, true, true, true, true, false, false, false, false, false] rfl rfl (by kernel_rfl) (fun _ _ _ h => h) (Or.inl ⟨by rfl, ?_⟩) hHeld ?_ ?_
          rotate_left
          · rintro w' ⟨s0, s1, s2, s3⟩
            go_simp
            with_reducible rfl
          rotate_left
          · simp only [Act.put, List.setIfInBounds_toArray, List.set_cons_zero, List.set_cons_succ, i64_w, i32_w]
            rfl
          refine pure_ (i := 7) (N := some 107) (v := ?_) (a' := ?_) #[true, true, true, true, true, true, true, true, false, false, false, false] rfl rfl (by kernel_rfl) (fun _ _ _ h => h) (Or.inl ⟨by rfl, ?_⟩) ?_ ?_
          rotate_left
          · intro w'
            go_simp
            with_reducible rfl
          rotate_left
          · simp only [Act.put, List.setIfInBounds_toArray, List.set_cons_zero, List.set_cons_succ, i64_w, i32_w]
            rfl
          refine pure_ (i := 8) (N := some 108) (v := ?_) (a' := ?_) #[true, true, true, true, true, true, true, true, true, false, false, false] rfl rfl (by kernel_rfl) (fun _ _ _ h => h) (Or.inl ⟨by rfl, ?_⟩) ?_ ?_
          rotate_left
          · intro w'
            go_simp
            with_reducible rfl
          rotate_left
          · simp only [Act.put, List.setIfInBounds_toArray, List.set_cons_zero, List.set_cons_succ, i64_w, i32_w]
            rfl
          refine take_ (i := 9) (N := some 109) (v := ?_) (a' := ?_) #[true, true, true, true, true, true, true, true, true, true, false, false] rfl rfl (by kernel_rfl) (fun _ _ _ h => h) (Or.inl ⟨by rfl, ?_⟩) hHeld ?_ ?_
          rotate_left
          · rintro w' ⟨s0, s1, s2, s3⟩
            go_simp
            with_reducible rfl
          rotate_left
          · simp only [Act.put, List.setIfInBounds_toArray, List.set_cons_zero, List.set_cons_succ, i64_w, i32_w]
            rfl
          refine one_ (i := 10) (N := some 110) #[true, true, true, true, true, true, true, true, true, true, true, false] rfl rfl (by kernel_rfl) (by decide) (fun K hK => ?_)
          refine goes_ Tryz.func108 (by kernel_rfl) rfl #[.slice A0 r.length c0, .slice A1 r.length c1] (by rfl) rfl rfl (by (try simp only [List.map_toArray, List.map_cons, List.map_nil]); first | done | rfl) ?_
          refine (sameList_out (l := r) HR.out LX.out LY.out (Kd.C_below GX.out (below_drew1 (Below.refl _ _))) (Kd.C_below GY.out (below_drew1 (Below.refl _ _)))).mono ?_
          rintro e1 w1 ⟨rfl, hb⟩
          have HB1 := Aside0.mk (below_step (below_drew1 (Below.refl wr.heap.size wr)) hb)
          refine ⟨_, rfl, ?_⟩
          clear hb
          have z0 := pw_cell_below HB1.out ha4
          have z1 := pw_cell_below HB1.out hb4
          have z2 := pw_cell_below HB1.out x0
          have z3 := pw_cell_below HB1.out y0
          refine hK.out _ _ ⟨z0, z1, z2, z3⟩ (fun hHeld => ?_)
          clear hK K z0 z1 z2 z3
          refine norm_ (a' := ?_) ?_ ?_
          rotate_left
          · show Act.put _ (some 110) _ = _
            simp only [Act.put, List.setIfInBounds_toArray, List.set_cons_zero, List.set_cons_succ, i64_w, i32_w]
            rfl
          refine pure_ (i := 11) (N := some 111) (v := ?_) (a' := ?_) #[true, true, true, true, true, true, true, true, true, true, true, true] rfl rfl (by kernel_rfl) (fun _ _ _ h => h) (Or.inl ⟨by rfl, ?_⟩) ?_ ?_
          rotate_left
          · intro w'
            go_simp
            with_reducible rfl
          rotate_left
          · simp only [Act.put, List.setIfInBounds_toArray, List.set_cons_zero, List.set_cons_succ, i64_w, i32_w]
            rfl
          refine done_ (by kernel_rfl) ?_
          go_wp2
          go_roundg k1
          case measure => first | exact Nat.lt_succ_self _ | omega
          case rel => exact ⟨j + 1, by first | rfl | rw [hw1] | (rw [Int.natCast_add]; rfl), HJ1, ⟨below_step HB.out HB1.out⟩⟩


    | succ k1 =>
      have d0 : decide ((j : Int) < (x.f2.length : Int)) = true := decide_eq_true (by omega)
      have d1 : decide (j < x.f2.length) = true := decide_eq_true (by omega)
      have p1 : 0 ≤ (j : Int) := by omega
      have q1 : (j : Int) < (x.f2.length : Int) := by omega
      have hjn : j < x.f2.length := by omega
      have HJ1 := Aside0.mk (show j + 1 + k1 = x.f2.length by omega)
      have hw1 : wrap64 ((j : Int) + 1) = ((j + 1 : Nat) : Int) := by unfold wrap64; have := HN2.out; omega
      have p2 : ((j : Int) < 0) = False := eq_false (by omega)
      obtain ⟨ad, e5, x0, x1, x2⟩ := at_T128 (Kd.C_below C2.out HB.out) (j : Int) p1 q1
      obtain ⟨ae, e6, y0, y1, y2⟩ := at_T128 (Kd.C_below D2.out HB.out) (j : Int) p1 q1
      generalize rd_T128 x.f2 (j : Int) = c at x0 x1 x2 y0 y1 y2
      simp only [Int.toNat_natCast] at x0 x1 x2 y0 y1 y2
      rw [e5] at ha2
      rw [e6] at hb2
      replace p1 := eq_true p1
      replace q1 := eq_true q1
      clear hjl
      go_upto_region 6 with (fail)
      refine start_ (n := 11) (S := fun w' => w'.cell? ⟨b1, 2, none⟩ = some (.slice (some ad) x.f2.length a.c2) ∧ w'.cell? ⟨b2, 2, none⟩ = some (.slice (some ae) x.f2.length a'.c2) ∧ w'.cell? (ad.add (j * 3)) = some (.string c.f0) ∧ w'.cell? ⟨(ad.add (j * 3)).block, (ad.add (j * 3)).off + 1, none⟩ = some (.int .i64 c.f1) ∧ w'.cell? ⟨(ad.add (j * 3)).block, (ad.add (j * 3)).off + 2, none⟩ = some (.int .i64 c.f2) ∧ w'.cell? (ae.add (j * 3)) = some (.string c.f0) ∧ w'.cell? ⟨(ae.add (j * 3)).block, (ae.add (j * 3)).off + 1, none⟩ = some (.int .i64 c.f1) ∧ w'.cell? ⟨(ae.add (j * 3)).block, (ae.add (j * 3)).off + 2, none⟩ = some (.int .i64 c.f2)) (ds := []) #[false, false, false, false, false, false, false, false, false, false, false] (by kernel_rfl) rfl rfl ⟨ha2, hb2, x0, x1, x2, y0, y1, y2⟩ (fun hHeld => ?_)
      refine pure_ (i := 0) (N := some 82) (v := ?_) (a' := ?_) #[true, false, false, false, false, false, false, false, false, false, false] rfl rfl (by kernel_rfl) (fun _ _ _ h => h) (Or.inl ⟨by rfl, ?_⟩) ?_ ?_
      rotate_left
      · intro w'
        go_simp
        with_reducible rfl
      rotate_left
      · simp only [Act.put, List.setIfInBounds_toArray, List.set_cons_zero, List.set_cons_succ, i64_w, i32_w]
        rfl
      refine take_ (i := 1) (N := some 83) (v := ?_) (a' := ?_) #[true, true, false, false, false, false, false, false, false, false, false] rfl rfl (by kernel_rfl) (fun _ _ _ h => h) (Or.inl ⟨by rfl, ?_⟩) hHeld ?_ ?_
      rotate_left
      · rintro w' ⟨s0, s1, s2, s3, s4, s5, s6, s7⟩
        go_simp
        with_reducible rfl
      rotate_left
      · simp only [Act.put, List.setIfInBounds_toArray, List.set_cons_zero, List.set_cons_succ, i64_w, i32_w]
        rfl
      refine pure_ (i := 2) (N := some 84) (v := ?_) (a' := ?_) #[true, true, true, false, false, false, false, false, false, false, false] rfl rfl (by kernel_rfl) (fun _ _ _ h => h) (Or.inl ⟨by rfl, ?_⟩) ?_ ?_
      rotate_left
      · intro w'
        go_simp
        with_reducible rfl
      rotate_left
      · simp only [Act.put, List.setIfInBounds_toArray, List.set_cons_zero, List.set_cons_succ, i64_w, i32_w]
        rfl
      refine pure_ (i := 3) (N := some 85) (v := ?_) (a' := ?_) #[true, true, true, true, false, false, false, false, false, false, false] rfl rfl (by kernel_rfl) (fun _ _ _ h => h) (Or.inl ⟨by rfl, ?_⟩) ?_ ?_
      rotate_left
      · intro w'
        go_simp
        with_reducible rfl
      rotate_left
      · simp only [Act.put, List.setIfInBounds_toArray, List.set_cons_zero, List.set_cons_succ, i64_w, i32_w]
        rfl
      refine take_ (i := 4) (N := some 86) (v := ?_) (a' := ?_) #[true, true, true, true, true, false, false, false, false, false, false] rfl rfl (by kernel_rfl) (fun _ _ _ h => h) (Or.inl ⟨by rfl, ?_⟩) hHeld ?_ ?_
      rotate_left
      · rintro w' ⟨s0, s1, s2, s3, s4, s5, s6, s7⟩
        go_simp
        with_reducible rfl
      rotate_left
      · simp only [Act.put, List.setIfInBounds_toArray, List.set_cons_zero, List.set_cons_succ, i64_w, i32_w]
        rfl
      refine pure_ (i := 5) (N := some 87) (v := ?_) (a' := ?_) #[true, true, true, true, true, true, false, false, false, false, false] rfl rfl (by kernel_rfl) (fun _ _ _ h => h) (Or.inl ⟨by rfl, ?_⟩) ?_ ?_
      rotate_left
      · intro w'
        go_simp
        with_reducible rfl
      rotate_left
      · simp only [Act.put, List.setIfInBounds_toArray, List.set_cons_zero, List.set_cons_succ, i64_w, i32_w]
        rfl
      refine take_ (i := 6) (N := some 88) (v := ?_) (a' := ?_) #[true, true, true, true, true, true, true, false, false, false, false] rfl rfl (by kernel_rfl) (fun _ _ _ h => h) (Or.inl ⟨by rfl, ?_⟩) hHeld ?_ ?_
      rotate_left
      · rintro w' ⟨s0, s1, s2, s3, s4, s5, s6, s7⟩
        go_simp
        with_reducible rfl
      rotate_left
      · simp only [Act.put, List.setIfInBounds_toArray, List.set_cons_zero, List.set_cons_succ, i64_w, i32_w]
        rfl
      refine pure_ (i := 7) (N := some 89) (v := ?_) (a' := ?_) #[true, true, true, true, true, true, true, true, false, false, false] rfl rfl (by kernel_rfl) (fun _ _ _ h => h) (Or.inl ⟨by rfl, ?_⟩) ?_ ?_
      rotate_left
      · intro w'
        go_simp
        with_reducible rfl
      rotate_left
      · simp only [Act.put, List.setIfInBounds_toArray, List.set_cons_zero, List.set_cons_succ, i64_w, i32_w]
        rfl
      refine pure_ (i := 8) (N := some 90) (v := ?_) (a' := ?_) #[true, true, true, true, true, true, true, true, true, false, false] rfl rfl (by kernel_rfl) (fun _ _ _ h => h) (Or.inl ⟨by rfl, ?_⟩) ?_ ?_
      rotate_left
      · intro w'
        go_simp
        with_reducible rfl
      rotate_left
      · simp only [Act.put, List.setIfInBounds_toArray, List.set_cons_zero, List.set_cons_succ, i64_w, i32_w]
        rfl
      refine take_ (i := 9) (N := some 91) (v := ?_) (a' := ?_) #[true, true, true, true, true, true, true, true, true, true, false] rfl rfl (by kernel_rfl) (fun _ _ _ h => h) (Or.inl ⟨by rfl, ?_⟩) hHeld ?_ ?_
      rotate_left
      · rintro w' ⟨s0, s1, s2, s3, s4, s5, s6, s7⟩
        go_simp
        with_reducible rfl
      rotate_left
      · simp only [Act.put, List.setIfInBounds_toArray, List.set_cons_zero, List.set_cons_succ, i64_w, i32_w]
        rfl
      refine pure_ (i := 10) (N := some 92) (v := ?_) (a' := ?_) #[true, true, true, true, true, true, true, true, true, true, true] rfl rfl (by kernel_rfl) (fun _ _ _ h => h) (Or.inl ⟨by rfl, ?_⟩) ?_ ?_
      rotate_left
      · intro w'
        go_simp
        with_reducible rfl
      rotate_left
      · simp only [Act.put, List.setIfInBounds_toArray, List.set_cons_zero, List.set_cons_succ, i64_w, i32_w]
        rfl
      refine done_ (by kernel_rfl) ?_
      go_wp2
      go_roundg k1
      case measure => first | exact Nat.lt_succ_self _ | omega
      case rel => exact ⟨j + 1, by first | rfl | rw [hw1] | (rw [Int.natCast_add]; rfl), HJ1, ⟨below_drew1 HB.out⟩⟩
end Go.Proofs.YtcgdncpioafbdaaGreatDoor.Q
-- Written by a program of this seat (wip/pr.py, by way of the kit's print) out of the translation; Lean checks it.
namespace Go.Proofs.YtcgdncpioafbdaaGreatDoor.Q
open Go.RowKit Go.Proofs.YtcgdncpioafbdaaGreatDoorW.PrintWords Go.Proofs.YtcgdncpioafbdaaGreatDoorW.PrintLast Go.Proofs.YtcgdncpioafbdaaGreatDoorW.PrintMore
attribute [local go_sem] max2_int min2_int max_two min_two max_three min_three max_four min_four   -- for this text's walks alone
set_option linter.unusedVariables false
set_option linter.unusedSimpArgs false
/-! ### vidimuslaw16_awake: function 15 -/
def vidimuslaw16_awake.f (k : Nat)  : Option (Bool) := (lex_Tokens.f (⟨#[65, 60, 61, 49, 32, 45, 45, 32, 120]⟩ : ByteArray)).bind fun bt129 => ((lex_Tokens.f (⟨#[39, 97]⟩ : ByteArray)).bind fun bt133 => (if bt129.2 = 0 then (if bt133.2 = 20 then (if (bt129.1.length : Int) = 4 then (if 0 < (bt129.1.length : Int) then (if ((rd_T32 bt129.1 0).f1).toList = ([97] : List UInt8) then (if 1 < (bt129.1.length : Int) then (if ((rd_T32 bt129.1 1).f1).toList = ([60, 61] : List UInt8) then (if 2 < (bt129.1.length : Int) then (if ((rd_T32 bt129.1 2).f2) = 1 then ((lex_Text.f k bt129.1).bind fun t140 => (some (t140.toList == ([97, 32, 60, 61, 32, 49] : List UInt8)))) else (some false)) else (none)) else (some false)) else (none)) else (some false)) else (none)) else (some false)) else (some false)) else (some false)))
/-! ### vidimuslaw16_LexTells: function 3 -/
def vidimuslaw16_LexTells.j0 : Nat → ByteArray → Bool → Option (Bool)
  | 0, _, _ => none
  | k + 1, x0, x16 => if x16 = true then (some true) else ((lex_Tokens.f x0).bind fun bt144 => ((vidimusref16_Tokens.f x0).bind fun bt148 => (if bt144.2 = bt148.2 then ((vidimusref16_Same.f k bt144.1 bt148.1).bind fun t152 => (some t152)) else (some false))))
def vidimuslaw16_LexTells.f (k : Nat) (a0 : ByteArray) : Option (Bool) := (vidimuslaw16_awake.f k).bind fun t143 => (if t143 = true then (if (a0.size : Int) > 1000 then (vidimuslaw16_LexTells.j0 k a0 (decide ((a0.size : Int) ≤ 4000))) else (vidimuslaw16_LexTells.j0 k a0 false)) else (some false))
/-! ### vidimuslaw16_LexTexts: function 4 -/
mutual
def vidimuslaw16_LexTexts.j0 : Nat → ByteArray → List (S32) → Bool → Option (Bool)
  | 0, _, _, _ => none
  | k + 1, x0, x1, x20 => if x20 = true then (some true) else (vidimuslaw16_LexTexts.l0 k x0 x1 x1 (x1.length : Int) 0)
def vidimuslaw16_LexTexts.l0 : Nat → ByteArray → List (S32) → List (S32) → Int → Int → Option (Bool)
  | 0, _, _, _, _, _ => none
  | k + 1, x0, x1, x21, x22, x23 => if x23 < x22 then (if 0 ≤ x23 then (if x23 < (x21.length : Int) then (if (((rd_T32 x21 x23).f1).size : Int) > 100 then (some true) else (vidimuslaw16_LexTexts.l0 k x0 x1 x21 x22 (wrap64 (x23 + 1)))) else (none)) else (none)) else ((lex_Text.f k x1).bind fun t170 => ((vidimusref16_Text.f k x1).bind fun t171 => (if t170.toList = t171.toList then ((lex_Tokens.f x0).bind fun bt172 => (if bt172.2 = 0 then ((lex_Text.f k bt172.1).bind fun t176 => ((lex_Tokens.f t176).bind fun bt177 => (if bt177.2 = 0 then ((vidimusref16_Same.f k bt172.1 bt177.1).bind fun t181 => (some t181)) else (some false)))) else (some ((bt172.1.length : Int) == 0)))) else (some false))))
end
def vidimuslaw16_LexTexts.f (k : Nat) (a0 : ByteArray) (l1 : List (S32)) : Option (Bool) := (vidimuslaw16_awake.f k).bind fun t167 => (if t167 = true then (if (a0.size : Int) > 500 then (vidimuslaw16_LexTexts.j0 k a0 l1 true) else (vidimuslaw16_LexTexts.j0 k a0 l1 (decide ((l1.length : Int) > 30)))) else (some false))
/-! ### vidimuslaw16_remark: function 21 -/
def vidimuslaw16_remark.l0 : Nat → ByteArray → Int → Option (Bool)
  | 0, _, _ => none
  | k + 1, x0, x3 => if x3 < (x0.size : Int) then (if 0 ≤ x3 then (if (bt x0 x3) = 45 then (if 0 ≤ (wrap64 (x3 - 1)) then (if (wrap64 (x3 - 1)) < (x0.size : Int) then (if (bt x0 (wrap64 (x3 - 1))) = 45 then (some true) else (vidimuslaw16_remark.l0 k x0 (wrap64 (x3 + 1)))) else (none)) else (none)) else (vidimuslaw16_remark.l0 k x0 (wrap64 (x3 + 1)))) else (none)) else (some false)
def vidimuslaw16_remark.f (k : Nat) (a0 : ByteArray) : Option (Bool) := vidimuslaw16_remark.l0 k a0 1
/-! ### vidimuslaw16_LexBlanks: function 5 -/
mutual
def vidimuslaw16_LexBlanks.j0 : Nat → List ByteArray → List Int → Bool → Option (Bool)
  | 0, _, _, _ => none
  | k + 1, x0, x1, x27 => if x27 = true then (some true) else (vidimuslaw16_LexBlanks.l0 k x0 x1 (⟨#[]⟩ : ByteArray) (⟨#[]⟩ : ByteArray) x0 (x0.length : Int) 0)
def vidimuslaw16_LexBlanks.l0 : Nat → List ByteArray → List Int → ByteArray → ByteArray → List ByteArray → Int → Int → Option (Bool)
  | 0, _, _, _, _, _, _, _ => none
  | k + 1, x0, x1, x5, x6, x28, x29, x30 => if x30 < x29 then (if 0 ≤ x30 then (if x30 < (x28.length : Int) then (if ((rdOf ByteArray.empty x28 x30).size : Int) > 40 then (some true) else ((lex_Tokens.f (rdOf ByteArray.empty x28 x30)).bind fun bt193 => ((vidimusref16_Tokens.f (rdOf ByteArray.empty x28 x30)).bind fun bt197 => (if bt193.2 = 0 then (if (bt193.1.length : Int) = 2 then ((vidimuslaw16_remark.f k (rdOf ByteArray.empty x28 x30)).bind fun t201 => (if t201 = true then (vidimuslaw16_LexBlanks.j2 k x0 x1 x5 x6 x30 (rdOf ByteArray.empty x28 x30) x28 x29 x30 true) else (vidimuslaw16_LexBlanks.j2 k x0 x1 x5 x6 x30 (rdOf ByteArray.empty x28 x30) x28 x29 x30 ((bt197.1.length : Int) != 2)))) else (vidimuslaw16_LexBlanks.j2 k x0 x1 x5 x6 x30 (rdOf ByteArray.empty x28 x30) x28 x29 x30 true)) else (vidimuslaw16_LexBlanks.j2 k x0 x1 x5 x6 x30 (rdOf ByteArray.empty x28 x30) x28 x29 x30 true))))) else (none)) else (none)) else ((lex_Tokens.f x5).bind fun bt183 => ((lex_Tokens.f x6).bind fun bt187 => (if bt183.2 = 0 then (if bt187.2 = 0 then (if (bt183.1.length : Int) = (wrap64 ((x0.length : Int) + 1)) then ((vidimusref16_Same.f k bt183.1 bt187.1).bind fun t191 => (some t191)) else (some false)) else (some false)) else (some false))))
def vidimuslaw16_LexBlanks.j2 : Nat → List ByteArray → List Int → ByteArray → ByteArray → Int → ByteArray → List ByteArray → Int → Int → Bool → Option (Bool)
  | 0, _, _, _, _, _, _, _, _, _, _ => none
  | k + 1, x0, x1, x5, x6, x7, x8, x28, x29, x30, x63 => if x63 = true then (some true) else (if x7 < (x1.length : Int) then (if 0 ≤ x7 then (if (Int.tmod (rd x1 x7) 4) = 1 then (if x8.size + 1 ≤ 9223372036854775807 then (if x5.size + (x8 ++ (⟨#[32]⟩ : ByteArray)).size ≤ 9223372036854775807 then (if x8.size + 5 ≤ 9223372036854775807 then (if x6.size + (x8 ++ (⟨#[9, 10, 13, 32, 32]⟩ : ByteArray)).size ≤ 9223372036854775807 then (vidimuslaw16_LexBlanks.l0 k x0 x1 (x5 ++ (x8 ++ (⟨#[32]⟩ : ByteArray))) (x6 ++ (x8 ++ (⟨#[9, 10, 13, 32, 32]⟩ : ByteArray))) x28 x29 (wrap64 (x30 + 1))) else (none)) else (none)) else (none)) else (none)) else (if (Int.tmod (rd x1 x7) 4) = 2 then (if x8.size + 1 ≤ 9223372036854775807 then (if x5.size + (x8 ++ (⟨#[32]⟩ : ByteArray)).size ≤ 9223372036854775807 then (if x8.size + 19 ≤ 9223372036854775807 then (if x6.size + (x8 ++ (⟨#[32, 45, 45, 105, 116, 39, 115, 32, 97, 32, 114, 101, 109, 97, 114, 107, 32, 40, 10]⟩ : ByteArray)).size ≤ 9223372036854775807 then (vidimuslaw16_LexBlanks.l0 k x0 x1 (x5 ++ (x8 ++ (⟨#[32]⟩ : ByteArray))) (x6 ++ (x8 ++ (⟨#[32, 45, 45, 105, 116, 39, 115, 32, 97, 32, 114, 101, 109, 97, 114, 107, 32, 40, 10]⟩ : ByteArray))) x28 x29 (wrap64 (x30 + 1))) else (none)) else (none)) else (none)) else (none)) else (if (Int.tmod (rd x1 x7) 4) = 3 then (if x8.size + 1 ≤ 9223372036854775807 then (if x5.size + (x8 ++ (⟨#[32]⟩ : ByteArray)).size ≤ 9223372036854775807 then (if x8.size + 8 ≤ 9223372036854775807 then (if x6.size + (x8 ++ (⟨#[10, 45, 45, 10, 45, 45, 120, 10]⟩ : ByteArray)).size ≤ 9223372036854775807 then (vidimuslaw16_LexBlanks.l0 k x0 x1 (x5 ++ (x8 ++ (⟨#[32]⟩ : ByteArray))) (x6 ++ (x8 ++ (⟨#[10, 45, 45, 10, 45, 45, 120, 10]⟩ : ByteArray))) x28 x29 (wrap64 (x30 + 1))) else (none)) else (none)) else (none)) else (none)) else (if x8.size + 1 ≤ 9223372036854775807 then (if x5.size + (x8 ++ (⟨#[32]⟩ : ByteArray)).size ≤ 9223372036854775807 then (if x6.size + (x8 ++ (⟨#[32]⟩ : ByteArray)).size ≤ 9223372036854775807 then (vidimuslaw16_LexBlanks.l0 k x0 x1 (x5 ++ (x8 ++ (⟨#[32]⟩ : ByteArray))) (x6 ++ (x8 ++ (⟨#[32]⟩ : ByteArray))) x28 x29 (wrap64 (x30 + 1))) else (none)) else (none)) else (none))))) else (none)) else (if x8.size + 1 ≤ 9223372036854775807 then (if x5.size + (x8 ++ (⟨#[32]⟩ : ByteArray)).size ≤ 9223372036854775807 then (if x6.size + (x8 ++ (⟨#[32]⟩ : ByteArray)).size ≤ 9223372036854775807 then (vidimuslaw16_LexBlanks.l0 k x0 x1 (x5 ++ (x8 ++ (⟨#[32]⟩ : ByteArray))) (x6 ++ (x8 ++ (⟨#[32]⟩ : ByteArray))) x28 x29 (wrap64 (x30 + 1))) else (none)) else (none)) else (none)))
end
def vidimuslaw16_LexBlanks.f (k : Nat) (l0 : List ByteArray) (l1 : List Int) : Option (Bool) := (vidimuslaw16_awake.f k).bind fun t182 => (if t182 = true then (if (l0.length : Int) > 20 then (vidimuslaw16_LexBlanks.j0 k l0 l1 true) else (vidimuslaw16_LexBlanks.j0 k l0 l1 (decide ((l1.length : Int) > 20)))) else (some false))
/-! ### vidimuslaw16_odd: function 39 -/
def vidimuslaw16_odd.l0 : Nat → ByteArray → Int → Int → Option (Bool)
  | 0, _, _, _ => none
  | k + 1, x0, x5, x6 => if x6 < x5 then (if 0 ≤ x6 then (if x6 < (x0.size : Int) then (if (bt x0 x6) = 39 then (some true) else (vidimuslaw16_odd.l0 k x0 x5 (wrap64 (x6 + 1)))) else (none)) else (none)) else (some false)
def vidimuslaw16_odd.f (k : Nat) (a0 : ByteArray) : Option (Bool) := vidimuslaw16_odd.l0 k a0 (a0.size : Int) 0
/-! ### vidimuslaw16_LexJoins: function 8 -/
mutual
def vidimuslaw16_LexJoins.j0 : Nat → ByteArray → ByteArray → Bool → Option (Bool)
  | 0, _, _, _ => none
  | k + 1, x0, x1, x20 => if x20 = true then (some true) else ((lex_Tokens.f x0).bind fun bt204 => ((lex_Tokens.f x1).bind fun bt208 => (if x0.size + 1 ≤ 9223372036854775807 then (if (x0 ++ (⟨#[10]⟩ : ByteArray)).size + x1.size ≤ 9223372036854775807 then ((lex_Tokens.f ((x0 ++ (⟨#[10]⟩ : ByteArray)) ++ x1)).bind fun bt212 => (if bt204.2 = 20 then ((vidimuslaw16_odd.f k x0).bind fun t216 => (vidimuslaw16_LexJoins.j1 k bt204.1 bt204.2 bt208.1 bt208.2 bt212.1 bt212.2 t216)) else (vidimuslaw16_LexJoins.j1 k bt204.1 bt204.2 bt208.1 bt208.2 bt212.1 bt212.2 false))) else (none)) else (none))))
def vidimuslaw16_LexJoins.j1 : Nat → List (S32) → Int → List (S32) → Int → List (S32) → Int → Bool → Option (Bool)
  | 0, _, _, _, _, _, _, _ => none
  | k + 1, x5, x6, x7, x8, x9, x10, x39 => if x39 = true then (some true) else (if x6 = 0 then (if x8 = 0 then (if x10 = 0 then ((some (([] : List (S32)) : List (S32))).bind fun y217 => (if 0 ≤ (wrap64 ((x5.length : Int) - 1)) then (if (wrap64 ((x5.length : Int) - 1)) ≤ (x5.length : Int) then ((some (x5.take ((wrap64 ((x5.length : Int) - 1)) : Int).toNat : List (S32))).bind fun y220 => (if y217.length + y220.length < 4398046511104 then ((some (y217 ++ y220 : List (S32))).bind fun y224 => (if y224.length + x7.length < 4398046511104 then ((vidimusref16_Same.f k x9 (y224 ++ x7)).bind fun t230 => (some t230)) else (none))) else (none))) else (none)) else (none))) else (some false)) else (some (x10 == x8))) else (some (x10 == x6)))
end
def vidimuslaw16_LexJoins.f (k : Nat) (a0 : ByteArray) (a1 : ByteArray) : Option (Bool) := (vidimuslaw16_awake.f k).bind fun t203 => (if t203 = true then (if (a0.size : Int) > 500 then (vidimuslaw16_LexJoins.j0 k a0 a1 true) else (vidimuslaw16_LexJoins.j0 k a0 a1 (decide ((a1.size : Int) > 500)))) else (some false))
end Go.Proofs.YtcgdncpioafbdaaGreatDoor.Q
/- Plain laws: what several of layer 16's laws use. -/
namespace Go.Proofs.YtcgdncpioafbdaaGreatDoor.Q
open Go Go.RowKit Go.Proofs.YtcgdncpioafbdaaGreatDoorW.PrintWords
theorem more {α : Type} {f : Nat → Option α} (hf : ∀ k, LeO (f k) (f (k + 1))) {k : Nat} {r : α} (h : f k = some r) : ∀ j, f (k + j) = some r
  | 0 => h
  | j + 1 => hf (k + j) r (more hf h j)
theorem w64 {x : Int} (h1 : -9223372036854775808 ≤ x) (h2 : x ≤ 9223372036854775807) : wrap64 x = x := by unfold wrap64; omega
theorem bt_get (s : ByteArray) (i : Nat) (h : i < s.size) : bt s (i : Int) = ((s[i]'h).toNat : Int) := by
  unfold bt
  rw [dif_pos (by simpa using h)]
  rfl
theorem drop_get (s : ByteArray) (k : Nat) (h : k < s.size) : s.data.toList.drop k = s[k]'h :: s.data.toList.drop (k + 1) := by
  have hl : s.data.toList.length = s.size := by rw [Array.length_toList]; rfl
  rw [List.drop_eq_getElem_cons (by omega)]
  rfl
theorem len_data (s : ByteArray) : s.data.toList.length = s.size := by rw [Array.length_toList]; rfl
theorem u8_nat {c : UInt8} {n : Nat} (h : (c.toNat : Int) = (n : Int)) (hn : n < 256) : c = UInt8.ofNat n := by
  apply UInt8.toNat_inj.1
  have : (UInt8.ofNat n).toNat = n := by simp; omega
  omega
theorem tokA_err0 {l : List UInt8} {e : Nat} (h : Lx.tokA l = .error e) : e ≠ 0 := by
  unfold Lx.tokA Lx.wordA Lx.numA Lx.textA Lx.signT at h
  repeat' (split at h)
  all_goals first | (cases h; decide) | (simp at h; omega) | (simp at h)
theorem tok_err0' : ∀ (n : Nat) (l : List UInt8) (e : Nat), l.length ≤ n → Lx.toks l = .error e → e ≠ 0 := by
  intro n
  induction n with
  | zero =>
    intro l e hl h
    obtain rfl := List.eq_nil_of_length_eq_zero (Nat.le_zero.1 hl)
    rw [Lx.toks_nil rfl] at h
    cases h
  | succ n ih =>
    intro l e hl h
    have h2 := Lx.skipA_le false l
    cases hs : Lx.skipA false l with
    | nil => rw [Lx.toks_nil hs] at h; cases h
    | cons c r =>
      rw [hs] at h2
      cases hk : Lx.tokA (c :: r) with
      | error f => rw [Lx.toks_err hs hk] at h; cases h; exact tokA_err0 hk
      | ok p =>
        obtain ⟨t, m⟩ := p
        have hle := Lx.tokA_le hk
        rw [Lx.toks_ok hs hk] at h
        cases hx : Lx.toks ((c :: r).drop m) with
        | ok us => rw [hx] at h; cases h
        | error f =>
          rw [hx] at h
          cases h
          exact ih _ _ (by rw [List.length_drop]; simp only [List.length_cons] at h2 hle ⊢; omega) hx
theorem tok_err0 {l : List UInt8} {e : Nat} (h : Lx.toks l = .error e) : e ≠ 0 := tok_err0' l.length l e (Nat.le_refl _) h
end Go.Proofs.YtcgdncpioafbdaaGreatDoor.Q
/- Plain law: LexTexts. -/
namespace Go.Proofs.YtcgdncpioafbdaaGreatDoor.Q
open Go Go.RowKit Go.Proofs.YtcgdncpioafbdaaGreatDoorW.PrintWords
theorem dupQ_le : ∀ l : List UInt8, (dupQ l).length ≤ 2 * l.length
  | [] => by simp [dupQ]
  | c :: r => by
    have := dupQ_le r
    simp only [dupQ]
    split <;> simp <;> omega
theorem ba_app (a b : List UInt8) : ba a ++ ba b = ba (a ++ b) := ba_ext' (by simp [ba])
/-! ### The document's text -/
/-! ### A text's tokens as a text -/
/-! ### The law -/
end Go.Proofs.YtcgdncpioafbdaaGreatDoor.Q
/- An expression's text, plain; a literal's text as the printed functions reckon it. -/
namespace Go.Proofs.YtcgdncpioafbdaaGreatDoor.Q
open Go Go.RowKit Go.Proofs.YtcgdncpioafbdaaGreatDoorW.PrintWords
def lit (v : S40) : ByteArray :=
  if v.f0 = 0 then ⟨#[110, 117, 108, 108]⟩
  else if v.f0 = 1 then (if v.f1 < 0 then (⟨#[45]⟩ : ByteArray) ++ ba (digA 20 (-v.f1).toNat) else ba (digA 20 v.f1.toNat))
  else ba (39 :: (dupQ v.f2.data.toList ++ [39]))
def innT (l : List ByteArray) (i : Nat) : ByteArray := match l[i]? with
  | some t => ((⟨#[40]⟩ : ByteArray) ++ t) ++ (⟨#[41]⟩ : ByteArray)
  | none => ⟨#[40, 41]⟩
def bigB (s : ByteArray) : Bool := decide (Ps.binds s > 3) && !(s.toList == [105, 115])
def txtB (op : ByteArray) (v : S40) (name : ByteArray) (l : List ByteArray) : ByteArray :=
  if op.toList = [118, 97, 108] then lit v
  else if op.toList = [99, 111, 108] then name
  else if op.toList = [111, 114] then (((innT l 0 ++ (⟨#[32]⟩ : ByteArray)) ++ op) ++ (⟨#[32]⟩ : ByteArray)) ++ innT l 1
  else if op.toList = [97, 110, 100] then (((innT l 0 ++ (⟨#[32]⟩ : ByteArray)) ++ op) ++ (⟨#[32]⟩ : ByteArray)) ++ innT l 1
  else if op.toList = [110, 111, 116] then (⟨#[110, 111, 116, 32]⟩ : ByteArray) ++ innT l 0
  else if op.toList = [110, 101, 103] then (⟨#[45]⟩ : ByteArray) ++ innT l 0
  else if op.toList = [105, 115, 110, 117, 108, 108] then innT l 0 ++ (⟨#[32, 105, 115, 32, 110, 117, 108, 108]⟩ : ByteArray)
  else if op.toList = [99, 111, 117, 110, 116] then ⟨#[99, 111, 117, 110, 116, 40, 42, 41]⟩
  else if op.toList = [115, 117, 109] then op ++ innT l 0
  else if op.toList = [109, 105, 110] then op ++ innT l 0
  else if op.toList = [109, 97, 120] then op ++ innT l 0
  else if bigB op = true then (innT l 0 ++ op) ++ innT l 1
  else ⟨#[]⟩
mutual
def txt : S43 → ByteArray
  | ⟨op, v, name, l⟩ => txtB op v name (txts l)
def txts : List S43 → List ByteArray
  | [] => []
  | x :: l => txt x :: txts l
end
theorem txt_eq (x : S43) : txt x = txtB x.f0 x.f1 x.f2 (txts x.f3) := by cases x; rw [txt]
theorem txts_map : ∀ l : List S43, txts l = l.map txt
  | [] => by rw [txts]; rfl
  | x :: l => by rw [txts, txts_map l]; rfl
/-- A kid between parentheses. -/
def inn (l : List S43) (i : Nat) : ByteArray := innT (txts l) i
theorem inn_def (l : List S43) (i : Nat) : inn l i = innT (txts l) i := rfl
theorem inn_some {l : List S43} {i : Nat} (h : i < l.length) : inn l i = ((⟨#[40]⟩ : ByteArray) ++ txt l[i]) ++ (⟨#[41]⟩ : ByteArray) := by
  unfold inn innT
  rw [txts_map, List.getElem?_map, List.getElem?_eq_getElem h]
  rfl
theorem inn_none {l : List S43} {i : Nat} (h : l.length ≤ i) : inn l i = ⟨#[40, 41]⟩ := by
  unfold inn innT
  rw [txts_map, List.getElem?_map, List.getElem?_eq_none h]
  rfl
/-! Numbers are of 64 bits, all through. -/
mutual
def TG : S43 → Prop
  | ⟨_, v, _, l⟩ => (-9223372036854775808 ≤ v.f1 ∧ v.f1 ≤ 9223372036854775807 ∧ v.f2.size ≤ 500) ∧ TGs l
def TGs : List S43 → Prop
  | [] => True
  | x :: l => TG x ∧ TGs l
end
theorem TG_eq (x : S43) : TG x ↔ (-9223372036854775808 ≤ x.f1.f1 ∧ x.f1.f1 ≤ 9223372036854775807 ∧ x.f1.f2.size ≤ 500) ∧ TGs x.f3 := by cases x; rw [TG]
mutual
def tgB : S43 → Bool
  | ⟨_, v, _, l⟩ => decide (-9223372036854775808 ≤ v.f1) && decide (v.f1 ≤ 9223372036854775807) && decide (v.f2.size ≤ 500) && tgsB l
def tgsB : List S43 → Bool
  | [] => true
  | x :: l => tgB x && tgsB l
end
mutual
theorem TG_of : ∀ x : S43, tgB x = true → TG x
  | ⟨_, v, _, l⟩, h => by
    rw [tgB] at h
    simp only [Bool.and_eq_true, decide_eq_true_eq] at h
    rw [TG]
    exact ⟨⟨h.1.1.1, h.1.1.2, h.1.2⟩, TGs_of l h.2⟩
theorem TGs_of : ∀ l : List S43, tgsB l = true → TGs l
  | [], _ => by rw [TGs]; trivial
  | x :: l, h => by
    rw [tgsB] at h
    simp only [Bool.and_eq_true] at h
    rw [TGs]
    exact ⟨TG_of x h.1, TGs_of l h.2⟩
end
theorem TGs_mem {x : S43} : ∀ {l : List S43}, x ∈ l → TGs l → TG x
  | y :: l, h, h2 => by
    rw [TGs] at h2
    rcases List.mem_cons.1 h with rfl | h
    · exact h2.1
    · exact TGs_mem h h2.2
theorem dupQ_ge : ∀ l : List UInt8, l.length ≤ (dupQ l).length
  | [] => by simp
  | c :: r => by
    have := dupQ_ge r
    simp only [dupQ]
    split <;> simp <;> omega
theorem lit_text {v : S40} (h0 : v.f0 ≠ 0) (h1 : v.f0 ≠ 1) : lit v = ba (39 :: (dupQ v.f2.data.toList ++ [39])) := by
  unfold lit; rw [if_neg h0, if_neg h1]
theorem lit_size {v : S40} (h0 : v.f0 ≠ 0) (h1 : v.f0 ≠ 1) : v.f2.size + 2 ≤ (lit v).size := by
  rw [lit_text h0 h1, ba_size]
  have := dupQ_ge v.f2.data.toList
  rw [len_data] at this
  simp; omega
/-! ### The printed literal -/
theorem u64w {x : Int} (h0 : 0 ≤ x) (h1 : x < 18446744073709551616) : IntKind.u64.wrap x = x := by
  simp [IntKind.wrap, IntKind.bits, IntKind.signed]
  omega
theorem one_dig (m : Nat) (hm : m < 10) : strOfNums [(48 + ((m : Int) % 256)) % 256] = ba [UInt8.ofNat (48 + m)] := by
  have e : (48 + ((m : Int) % 256)) % 256 = ((48 + m : Nat) : Int) := by omega
  rw [e]
  show ba [UInt8.ofNat (((48 + m : Nat) : Int)).toNat] = _
  rw [Int.toNat_natCast]
theorem pDigits : ∀ (j k n : Nat), 1 ≤ j → n < 10 ^ j → j ≤ k → j ≤ 100 → n ≤ 9223372036854775808 → parse_digits.f k (n : Int) = some (ba (digA j n))
  | 0, k, n, h, _, _, _, _ => by omega
  | j + 1, k, n, _, h, hk, hj100, hn => by
    obtain ⟨k, rfl⟩ : ∃ m, k = m + 1 := ⟨k - 1, by omega⟩
    rw [parse_digits.f]
    simp only [digA]
    by_cases h10 : n < 10
    · rw [if_pos (by omega), if_pos h10, one_dig n h10]
    · rw [if_neg (by omega), if_neg h10]
      have hj : 1 ≤ j := by
        rcases Nat.eq_zero_or_pos j with rfl | h1
        · simp at h; omega
        · exact h1
      obtain ⟨k, rfl⟩ : ∃ m, k = m + 1 := ⟨k - 1, by omega⟩
      have hq : Int.tdiv (n : Int) 10 = ((n / 10 : Nat) : Int) := by rw [Int.tdiv_eq_ediv_of_nonneg (by omega)]; omega
      have hr : Int.tmod (n : Int) 10 = ((n % 10 : Nat) : Int) := by rw [Int.tmod_eq_emod_of_nonneg (by omega)]; omega
      have h9 : parse_digits.f (k + 1) ((n % 10 : Nat) : Int) = some (ba [UInt8.ofNat (48 + n % 10)]) := by
        rw [parse_digits.f, if_pos (by omega), one_dig (n % 10) (by omega)]
      rw [hq, hr, u64w (by omega) (by omega), pDigits j (k + 1) (n / 10) hj (by rw [Nat.pow_succ] at h; omega) (by omega) (by omega) (by omega)]
      simp only [Option.bind_some]
      rw [h9]
      simp only [Option.bind_some]
      rw [if_pos, ba_app]
      rw [ba_size, ba_size]
      have := Lx.digA_len j (n / 10) hj (by rw [Nat.pow_succ] at h; omega)
      simp
      omega
theorem pow20b {n : Nat} (h : n ≤ 9223372036854775808) : n < 10 ^ 20 := by
  have : (10 : Nat) ^ 20 = 100000000000000000000 := rfl
  omega
theorem pLit {v : S40} {k : Nat} (hk : 30 ≤ k) (h1 : -9223372036854775808 ≤ v.f1) (h2 : v.f1 ≤ 9223372036854775807) (hz : (lit v).size ≤ 1000000000) : parse_literal.f k v.f0 v.f1 v.f2 = some (lit v) := by
  have hs : v.f0 ≠ 0 → v.f0 ≠ 1 → v.f2.size ≤ 1000000000 := fun h0 h1 => by have := lit_size h0 h1; omega
  obtain ⟨k, rfl⟩ : ∃ m, k = m + 1 := ⟨k - 1, by omega⟩
  unfold parse_literal.f lit
  by_cases c0 : v.f0 = 0
  · rw [if_pos c0, if_pos c0]
  · rw [if_neg c0, if_neg c0]
    have T : v.f0 ≠ 1 → parse_literal.j0 (k + 1) true v.f0 v.f1 v.f2 = some (ba (39 :: (dupQ v.f2.data.toList ++ [39]))) := fun hn => by
      have hs := hs c0 hn
      rw [parse_literal.j0, if_pos rfl]
      unfold strings_ReplaceAll.f
      have e1 : (⟨#[39]⟩ : ByteArray).data.toList = [39] := rfl
      have e2 : (⟨#[39, 39]⟩ : ByteArray).data.toList = [39, 39] := rfl
      rw [if_pos e1, if_pos e2, if_pos (by omega)]
      simp only [Option.bind_some]
      have hd := dupQ_le v.f2.data.toList
      rw [len_data] at hd
      have e3 : (⟨#[39]⟩ : ByteArray) = ba [39] := rfl
      rw [if_pos (by rw [ba_size]; omega), if_pos (by rw [ByteArray.size_append, ba_size, e3, ba_size]; simp; omega), e3, ba_app, ba_app]
      simp
    by_cases c2 : v.f0 = 2
    · rw [if_pos c2, if_neg (by omega), T (by omega)]
    · rw [if_neg c2]
      by_cases c1 : v.f0 = 1
      · have : (v.f0 != 1) = false := bne_eq_false_iff_eq.mpr c1
        rw [if_pos c1, this, parse_literal.j0, if_neg (by simp)]
        by_cases cn : v.f1 < 0
        · rw [if_pos cn, if_pos cn]
          have e : IntKind.u64.wrap (wrap64 (-v.f1)) = ((-v.f1).toNat : Int) := by
            by_cases hm : v.f1 = -9223372036854775808
            · rw [hm]; decide +kernel
            · rw [w64 (by omega) (by omega), u64w (by omega) (by omega)]; omega
          rw [e, pDigits 20 k (-v.f1).toNat (by decide) (pow20b (by omega)) (by omega) (by decide) (by omega)]
          simp only [Option.bind_some]
          rw [if_pos]
          rw [ba_size]
          have := Lx.digA_len 20 (-v.f1).toNat (by decide) (pow20b (by omega))
          omega
        · rw [if_neg cn, if_neg cn]
          have e : IntKind.u64.wrap v.f1 = (v.f1.toNat : Int) := by
            rw [u64w (by omega) (by omega)]; omega
          rw [e, pDigits 20 k v.f1.toNat (by decide) (pow20b (by omega)) (by omega) (by decide) (by omega)]
          rfl
      · have : (v.f0 != 1) = true := bne_iff_ne.mpr c1
        rw [this, if_neg c1, T c1]
end Go.Proofs.YtcgdncpioafbdaaGreatDoor.Q
/- Text of an expression: the program's and the document's are the plain one. -/
namespace Go.Proofs.YtcgdncpioafbdaaGreatDoor.Q
open Go Go.RowKit Go.Proofs.YtcgdncpioafbdaaGreatDoorW.PrintWords Go.Proofs.YtcgdncpioafbdaaGreatDoorW.PrintLast Go.Proofs.YtcgdncpioafbdaaGreatDoorW.PrintMore
/-- A call of a closure whose function is known. -/
theorem goesC_ {P : Program} {ops : Array Oper} {Q : Exit → Act → World → Prop} {oi : Oper} {N : Option Tmp} {a : Act} {w : World} {K : Act → World → Prop} {f : FuncId} {fn : Func} {y : Operand} {oa : Array Operand} {ts : Array TypeId} (hf : P.funcs[f]? = some fn) (hname : (fn.name == "runtime.NumGoroutine") = false) (hb : fn.body.isSome = true) (caps args : Array Value)
    (hw : Region.wanted oi (yielded ops a.tmps) = true) (hN : oi.dst = N) (hop : oi.op = .call { callee := .value y, args := oa, argTypes := ts }) (hx : a.eval y = .func (.func f) #[] caps) (hargs : oa.map a.eval ++ caps = args)
    (h : Calls P f args w fun e w' => ∃ v, e = .returned v ∧ K (a.put N v) w') : if Region.wanted oi (yielded ops a.tmps) = true then Oper.wp P oi a w K Q else K (a.put N undef) w := by
  refine call_ f args hw hN ?_ h
  have he := enters_ hf hname hb args w
  unfold execOp
  simp [hop, resolve, Deferred.ofValue, invoke, hx, hargs, he]
def TextAt (n : Nat) : Prop := ∀ (x : S43) (w : World) (A : Option Addr) (c : Nat), fu x ≤ n → TG x → (txt x).size ≤ 1000000000 → GV w → x.f3.length ≤ c → Kd.C k43 w A x.f3.length x.f3 → Calls Tryz.prog 41 #[.agg (cells43 x A c).toArray] w fun e w' => e = .returned (.string (txt x)) ∧ Below w.heap.size w w'
def InAt (n : Nat) : Prop := ∀ (x : S43) (w : World) (A : Option Addr) (c b : Nat) (iv : Int) (i : Nat), iv = (i : Int) → i < 2 → fus x.f3 ≤ n → TGs x.f3 → (inn x.f3 i).size ≤ 1000000000 → GV w → x.f3.length ≤ c → Kd.C k43 w A x.f3.length x.f3 → w.heap[b]? = some (.cells (cells43 x A c).toArray 43 (0, 0)) → Calls Tryz.prog 100 #[.int .i64 iv, .pointer (some ⟨b, 0, none⟩)] w fun e w' => e = .returned (.string (inn x.f3 i)) ∧ Below w.heap.size w w'
set_option maxHeartbeats 1000000 in
set_option maxRecDepth 100000 in
theorem in_step (n : Nat) (ih : TextAt n) : InAt (n + 1) := by
  intro x w A c b iv i hiv hi2 hx hT hz hG hc hC hB
  subst hiv
  have HC := Aside0.mk hC
  have HX := Aside0.mk hx
  have HT := Aside0.mk hT
  have HZ := Aside0.mk hz
  have HG := Aside0.mk hG
  have BK := Aside0.mk (show w.heap[b]? = some (.cells #[.string x.f0, .int .i64 x.f1.f0, .int .i64 x.f1.f1, .string x.f1.f2, .string x.f2, .slice A x.f3.length c] 43 (0, 0)) from hB)
  have cc0 : w.cell? ⟨b, 0, none⟩ = some (.string x.f0) := (blk_cell BK.out 0).trans rfl
  have cc1 : w.cell? ⟨b, 1, none⟩ = some (.int .i64 x.f1.f0) := (blk_cell BK.out 1).trans rfl
  have cc2 : w.cell? ⟨b, 2, none⟩ = some (.int .i64 x.f1.f1) := (blk_cell BK.out 2).trans rfl
  have cc3 : w.cell? ⟨b, 3, none⟩ = some (.string x.f1.f2) := (blk_cell BK.out 3).trans rfl
  have cc4 : w.cell? ⟨b, 4, none⟩ = some (.string x.f2) := (blk_cell BK.out 4).trans rfl
  have cc5 : w.cell? ⟨b, 5, none⟩ = some (.slice A x.f3.length c) := (blk_cell BK.out 5).trans rfl
  have hb := blk_lt BK.out
  clear hC hx hT hz hG hB
  by_cases hi : i < x.f3.length
  · have d0 : decide ((i : Int) < (x.f3.length : Int)) = true := decide_eq_true (by omega)
    have d1 : decide (i < x.f3.length) = true := decide_eq_true hi
    have p1 : 0 ≤ (i : Int) := by omega
    have q1 : (i : Int) < (x.f3.length : Int) := by omega
    obtain ⟨ad, A5, c5, e5, x0, x1, x2, x3, x4, x5, hl5, hi5⟩ := at_T43 HC.out (i : Int) p1 q1
    cases e5
    have hrd : rd_T43 x.f3 (i : Int) = x.f3[i] := by
      unfold rd_T43
      rw [Int.toNat_natCast, List.getD_eq_getElem?_getD, List.getElem?_eq_getElem hi]
      rfl
    have HI := Aside0.mk (inn_some hi)
    obtain ⟨y, hy⟩ : ∃ y, x.f3[i] = y := ⟨_, rfl⟩
    have HY := Aside0.mk hy
    rw [hrd, hy] at x0 x1 x2 x3 x4 x5 hl5 hi5
    simp only [Int.toNat_natCast] at x0 x1 x2 x3 x4 x5
    have hym : y ∈ x.f3 := by rw [← hy]; exact List.getElem_mem _
    have HFX := Aside0.mk (show fu y ≤ n by have h1 := fus_mem2 hym; have := HX.out; omega)
    have HTY := Aside0.mk (TGs_mem hym HT.out)
    have HL5 := Aside0.mk hl5
    have HC5 := Aside0.mk hi5
    have hz1 : (txt y).size + 2 ≤ 1000000000 := by
      have h1 := HZ.out
      rw [HI.out, HY.out] at h1
      have e1 : (⟨#[40]⟩ : ByteArray).size = 1 := rfl
      have e2 : (⟨#[41]⟩ : ByteArray).size = 1 := rfl
      rw [ByteArray.size_append, ByteArray.size_append, e1, e2] at h1
      omega
    have p2 : ((i : Int) < 0) = False := eq_false (by omega)
    have HZY := Aside0.mk (show (txt y).size ≤ 1000000000 by omega)
    replace p1 := eq_true p1
    replace q1 := eq_true q1
    clear hl5 hi5 hrd hym hy
    go_enter Tryz.func100, Tryz.ntmps100
    go_wp2_with (first | (go_at_call 41; go_must (refine (ih y _ A5 c5 HFX.out HTY.out HZY.out HG.out HL5.out HC5.out).mono ?_); rintro e1 w1 ⟨rfl, hb1⟩; have HB1 := Aside0.mk hb1; clear hb1))
    go_ret
    exact ⟨by rw [HI.out, HY.out]; rfl, HB1.out⟩
  · have d0 : decide ((i : Int) < (x.f3.length : Int)) = false := decide_eq_false (by omega)
    have d1 : decide (i < x.f3.length) = false := decide_eq_false hi
    have HI := Aside0.mk (inn_none (Nat.le_of_not_lt hi))
    go_enter Tryz.func100, Tryz.ntmps100
    go_wp2
    go_ret
    exact ⟨by rw [HI.out]; rfl, Below.refl _ _⟩
end Go.Proofs.YtcgdncpioafbdaaGreatDoor.Q
/- Text of an expression: the program's. -/
namespace Go.Proofs.YtcgdncpioafbdaaGreatDoor.Q
open Go Go.RowKit Go.Proofs.YtcgdncpioafbdaaGreatDoorW.PrintWords Go.Proofs.YtcgdncpioafbdaaGreatDoorW.PrintLast Go.Proofs.YtcgdncpioafbdaaGreatDoorW.PrintMore
theorem bigB_true {s : ByteArray} (h : bigB s = true) : Ps.binds s > 3 ∧ (s.toList == [105, 115]) = false := by
  unfold bigB at h
  simpa using h
theorem bigB_false {s : ByteArray} (h : ¬ bigB s = true) : ¬ Ps.binds s > 3 ∨ (s.toList == [105, 115]) = true := by
  unfold bigB at h
  by_cases h1 : Ps.binds s > 3
  · right
    simpa [h1] using h
  · exact .inl h1
set_option maxHeartbeats 2000000 in
set_option maxRecDepth 100000 in
theorem text_step (n : Nat) (ih : InAt n) : TextAt (n + 1) := by
  intro x w A c hx hT hz hG hc hC
  have HX := Aside0.mk (show fus x.f3 ≤ n by have := fu_eq x; omega)
  have HT := Aside0.mk ((TG_eq x).1 hT).2
  have HN := Aside0.mk ((TG_eq x).1 hT).1
  have HZ := Aside0.mk hz
  have HL := Aside0.mk hc
  clear hx hT hz hc
  unfold cells43
  go_enter Tryz.func41, Tryz.ntmps41
  go_upto_region 1 with (fail)
  have HB := Aside0.mk (below_alloc (Below.refl w.heap.size w) (.cells #[.string x.f0, .int .i64 x.f1.f0, .int .i64 x.f1.f1, .string x.f1.f2, .string x.f2, .slice A x.f3.length c] 43 (0, 0)))
  have HG1 := Aside0.mk (hG.below HB.out)
  have HC1 := Aside0.mk (Kd.C_below hC HB.out)
  have BK := Aside0.mk (new_blk (W := w) (.cells #[.string x.f0, .int .i64 x.f1.f0, .int .i64 x.f1.f1, .string x.f1.f2, .string x.f2, .slice A x.f3.length c] 43 (0, 0)) rfl)
  clear hG hC
  have HG := HG1
  have HC := HC1
  clear HG1 HC1
  generalize hb1 : w.heap.size = b at BK ⊢
  generalize hW : w.alloc (.cells #[.string x.f0, .int .i64 x.f1.f0, .int .i64 x.f1.f1, .string x.f1.f2, .string x.f2, .slice A x.f3.length c] 43 (0, 0)) = W at HB HG HC BK ⊢
  clear hW
  have cc0 : W.cell? ⟨b, 0, none⟩ = some (.string x.f0) := (blk_cell BK.out 0).trans rfl
  have cc1 : W.cell? ⟨b, 1, none⟩ = some (.int .i64 x.f1.f0) := (blk_cell BK.out 1).trans rfl
  have cc2 : W.cell? ⟨b, 2, none⟩ = some (.int .i64 x.f1.f1) := (blk_cell BK.out 2).trans rfl
  have cc3 : W.cell? ⟨b, 3, none⟩ = some (.string x.f1.f2) := (blk_cell BK.out 3).trans rfl
  have cc4 : W.cell? ⟨b, 4, none⟩ = some (.string x.f2) := (blk_cell BK.out 4).trans rfl
  have cc5 : W.cell? ⟨b, 5, none⟩ = some (.slice A x.f3.length c) := (blk_cell BK.out 5).trans rfl
  have hlt := blk_lt BK.out
  by_cases c0 : x.f0.toList = [118, 97, 108]
  · have f01 : (x.f0.toList == [118, 97, 108]) = true := beq_iff_eq.mpr c0
    have e0 := txt_eq x
    unfold txtB at e0
    rw [if_pos c0] at e0
    clear c0
    have HL1 := Aside0.mk (pLit (k := 40) (v := x.f1) (by omega) HN.out.1 HN.out.2.1 (by have h1 := HZ.out; rw [e0] at h1; exact h1))
    have HT0 := Aside0.mk e0
    clear e0
    go_wp2_with (first | (go_at_call 101; refine (parse_literal.calls 40 x.f1.f0 x.f1.f1 x.f1.f2 (lit x.f1) _ HL1.out HG.out).mono ?_; rintro e1 w1 ⟨rfl, hb⟩; have HB1 := Aside0.mk hb; clear hb))
    go_ret
    exact ⟨by rw [HT0.out]; rfl, below_step HB.out HB1.out⟩
  · skip
    by_cases c1 : x.f0.toList = [99, 111, 108]
    · have f00 : (x.f0.toList == [118, 97, 108]) = false := beq_eq_false_iff_ne.mpr c0
      have f11 : (x.f0.toList == [99, 111, 108]) = true := beq_iff_eq.mpr c1
      have e0 := txt_eq x
      unfold txtB at e0
      rw [if_neg c0, if_pos c1] at e0
      clear c0 c1
      have HT0 := Aside0.mk e0
      clear e0
      go_wp2
      go_ret
      exact ⟨by rw [HT0.out]; rfl, HB.out⟩
    · skip
      by_cases c2 : x.f0.toList = [111, 114]
      · have f00 : (x.f0.toList == [118, 97, 108]) = false := beq_eq_false_iff_ne.mpr c0
        have f10 : (x.f0.toList == [99, 111, 108]) = false := beq_eq_false_iff_ne.mpr c1
        have f21 : (x.f0.toList == [111, 114]) = true := beq_iff_eq.mpr c2
        have e0 := txt_eq x
        unfold txtB at e0
        rw [if_neg c0, if_neg c1, if_pos c2] at e0
        simp only [← inn_def] at e0
        clear c0 c1 c2
        have hz : (inn x.f3 0).size + 1 + x.f0.size + 1 + (inn x.f3 1).size ≤ 1000000000 := by
          have h1 := HZ.out
          rw [e0] at h1
          simp only [ByteArray.size_append, (show (⟨#[32]⟩ : ByteArray).size = 1 from rfl), (show (⟨#[110, 111, 116, 32]⟩ : ByteArray).size = 4 from rfl), (show (⟨#[45]⟩ : ByteArray).size = 1 from rfl), (show (⟨#[32, 105, 115, 32, 110, 117, 108, 108]⟩ : ByteArray).size = 8 from rfl)] at h1
          exact h1
        have HZ0 := Aside0.mk (show (inn x.f3 0).size ≤ 1000000000 by omega)
        have HZ1 := Aside0.mk (show (inn x.f3 1).size ≤ 1000000000 by omega)
        have t0 : (9223372036854775807 < (inn x.f3 0).size + 1) = False := eq_false (by omega)
        have t1 : (9223372036854775807 < (inn x.f3 0).size + 1 + x.f0.size) = False := eq_false (by omega)
        have t2 : (9223372036854775807 < (inn x.f3 0).size + 1 + x.f0.size + 1) = False := eq_false (by omega)
        have t3 : (9223372036854775807 < (inn x.f3 0).size + 1 + x.f0.size + 1 + (inn x.f3 1).size) = False := eq_false (by omega)
        have HT0 := Aside0.mk e0
        clear e0
        go_upto_region 9 with (fail)
        refine start_ (n := 11) (S := fun w' => w'.cell? ⟨b, 0, none⟩ = some (.string x.f0) ∧ Below W.heap.size W w') (ds := []) #[false, false, false, false, false, false, false, false, false, false, false] (by kernel_rfl) rfl rfl ⟨cc0, below_drew1 (Below.refl _ _)⟩ (fun hHeld => ?_)
        refine pure_ (i := 0) (N := some 19) (v := ?_) (a' := ?_) #[true, false, false, false, false, false, false, false, false, false, false] rfl rfl (by kernel_rfl) (fun _ _ _ h => h) (Or.inl ⟨by rfl, ?_⟩) ?_ ?_
        rotate_left
        · intro w'
          go_simp
          with_reducible rfl
        rotate_left
        · simp only [Act.put, List.setIfInBounds_toArray, List.set_cons_zero, List.set_cons_succ, i64_w, i32_w]
          rfl
        refine pure_ (i := 7) (N := some 26) (v := ?_) (a' := ?_) #[true, false, false, false, false, false, false, true, false, false, false] rfl rfl (by kernel_rfl) (fun _ _ _ h => h) (Or.inl ⟨by rfl, ?_⟩) ?_ ?_
        rotate_left
        · intro w'
          go_simp
          with_reducible rfl
        rotate_left
        · simp only [Act.put, List.setIfInBounds_toArray, List.set_cons_zero, List.set_cons_succ, i64_w, i32_w]
          rfl
        refine pure_ (i := 3) (N := some 22) (v := ?_) (a' := ?_) #[true, false, false, true, false, false, false, true, false, false, false] rfl rfl (by kernel_rfl) (fun _ _ _ h => h) (Or.inl ⟨by rfl, ?_⟩) ?_ ?_
        rotate_left
        · intro w'
          go_simp
          with_reducible rfl
        rotate_left
        · simp only [Act.put, List.setIfInBounds_toArray, List.set_cons_zero, List.set_cons_succ, i64_w, i32_w]
          rfl
        refine take_ (i := 4) (N := some 23) (v := ?_) (a' := ?_) #[true, false, false, true, true, false, false, true, false, false, false] rfl rfl (by kernel_rfl) (fun _ _ _ h => h) (Or.inl ⟨by rfl, ?_⟩) hHeld ?_ ?_
        rotate_left
        · rintro w' ⟨s0, _⟩
          go_simp
          with_reducible rfl
        rotate_left
        · simp only [Act.put, List.setIfInBounds_toArray, List.set_cons_zero, List.set_cons_succ, i64_w, i32_w]
          rfl
        refine one_ (i := 1) (N := some 20) #[true, true, false, true, true, false, false, true, false, false, false] rfl rfl (by kernel_rfl) (by decide) (fun K hK => ?_)
        refine goesC_ Tryz.func100 (by kernel_rfl) rfl #[.pointer (some ⟨b, 0, none⟩)] #[.int .i64 0, .pointer (some ⟨b, 0, none⟩)] (by rfl) rfl rfl (by rfl) (by simp only [List.map_toArray, List.map_cons, List.map_nil, List.append_toArray, List.cons_append, List.nil_append]; rfl) ?_
        refine (ih x _ A c b 0 0 rfl (by omega) HX.out HT.out HZ0.out (HG.out.below (below_drew1 (Below.refl W.heap.size W))) HL.out (Kd.C_below HC.out (below_drew1 (Below.refl W.heap.size W))) (((below_drew1 (Below.refl W.heap.size W))).block b hlt ▸ BK.out)).mono ?_
        rintro e1 w1 ⟨rfl, hb⟩
        have HB1 := Aside0.mk (below_step (below_drew1 (Below.refl W.heap.size W)) hb)
        refine ⟨_, rfl, ?_⟩
        clear hb
        have z1 := pw_cell_below HB1.out cc0
        refine hK.out _ _ ⟨z1, HB1.out⟩ (fun hHeld => ?_)
        clear hK K z1
        refine norm_ (a' := ?_) ?_ ?_
        rotate_left
        · show Act.put _ (some 20) _ = _
          simp only [Act.put, List.setIfInBounds_toArray, List.set_cons_zero, List.set_cons_succ, i64_w, i32_w]
          rfl
        refine pure_ (i := 2) (N := some 21) (v := ?_) (a' := ?_) #[true, true, true, true, true, false, false, true, false, false, false] rfl rfl (by kernel_rfl) (fun _ _ _ h => h) (Or.inl ⟨by rfl, ?_⟩) ?_ ?_
        rotate_left
        · intro w'
          go_simp
          with_reducible rfl
        rotate_left
        · simp only [Act.put, List.setIfInBounds_toArray, List.set_cons_zero, List.set_cons_succ, i64_w, i32_w]
          rfl
        refine pure_ (i := 5) (N := some 24) (v := ?_) (a' := ?_) #[true, true, true, true, true, true, false, true, false, false, false] rfl rfl (by kernel_rfl) (fun _ _ _ h => h) (Or.inl ⟨by rfl, ?_⟩) ?_ ?_
        rotate_left
        · intro w'
          go_simp
          with_reducible rfl
        rotate_left
        · simp only [Act.put, List.setIfInBounds_toArray, List.set_cons_zero, List.set_cons_succ, i64_w, i32_w]
          rfl
        refine pure_ (i := 6) (N := some 25) (v := ?_) (a' := ?_) #[true, true, true, true, true, true, true, true, false, false, false] rfl rfl (by kernel_rfl) (fun _ _ _ h => h) (Or.inl ⟨by rfl, ?_⟩) ?_ ?_
        rotate_left
        · intro w'
          go_simp
          with_reducible rfl
        rotate_left
        · simp only [Act.put, List.setIfInBounds_toArray, List.set_cons_zero, List.set_cons_succ, i64_w, i32_w]
          rfl
        refine one_ (i := 8) (N := some 27) #[true, true, true, true, true, true, true, true, true, false, false] rfl rfl (by kernel_rfl) (by decide) (fun K hK => ?_)
        refine goesC_ Tryz.func100 (by kernel_rfl) rfl #[.pointer (some ⟨b, 0, none⟩)] #[.int .i64 1, .pointer (some ⟨b, 0, none⟩)] (by rfl) rfl rfl (by rfl) (by simp only [List.map_toArray, List.map_cons, List.map_nil, List.append_toArray, List.cons_append, List.nil_append]; rfl) ?_
        refine (ih x _ A c b 1 1 rfl (by omega) HX.out HT.out HZ1.out (HG.out.below HB1.out) HL.out (Kd.C_below HC.out HB1.out) ((HB1.out).block b hlt ▸ BK.out)).mono ?_
        rintro e2 w2 ⟨rfl, hb⟩
        have HB2 := Aside0.mk (below_step HB1.out hb)
        refine ⟨_, rfl, ?_⟩
        clear hb
        have z2 := pw_cell_below HB2.out cc0
        refine hK.out _ _ ⟨z2, HB2.out⟩ (fun hHeld => ?_)
        clear hK K z2
        refine norm_ (a' := ?_) ?_ ?_
        rotate_left
        · show Act.put _ (some 27) _ = _
          simp only [Act.put, List.setIfInBounds_toArray, List.set_cons_zero, List.set_cons_succ, i64_w, i32_w]
          rfl
        refine pure_ (i := 9) (N := some 28) (v := ?_) (a' := ?_) #[true, true, true, true, true, true, true, true, true, true, false] rfl rfl (by kernel_rfl) (fun _ _ _ h => h) (Or.inl ⟨by rfl, ?_⟩) ?_ ?_
        rotate_left
        · intro w'
          go_simp
          with_reducible rfl
        rotate_left
        · simp only [Act.put, List.setIfInBounds_toArray, List.set_cons_zero, List.set_cons_succ, i64_w, i32_w]
          rfl
        refine pure_ (i := 10) (N := some 2) (v := ?_) (a' := ?_) #[true, true, true, true, true, true, true, true, true, true, true] rfl rfl (by kernel_rfl) (fun _ _ _ h => h) (Or.inl ⟨by rfl, ?_⟩) ?_ ?_
        rotate_left
        · intro w'
          go_simp
          with_reducible rfl
        rotate_left
        · simp only [Act.put, List.setIfInBounds_toArray, List.set_cons_zero, List.set_cons_succ, i64_w, i32_w]
          rfl
        refine done_ (by kernel_rfl) ?_
        go_wp2
        go_ret
        exact ⟨by rw [HT0.out]; rfl, below_step HB.out HB2.out⟩
      · skip
        by_cases c3 : x.f0.toList = [97, 110, 100]
        · have f00 : (x.f0.toList == [118, 97, 108]) = false := beq_eq_false_iff_ne.mpr c0
          have f10 : (x.f0.toList == [99, 111, 108]) = false := beq_eq_false_iff_ne.mpr c1
          have f20 : (x.f0.toList == [111, 114]) = false := beq_eq_false_iff_ne.mpr c2
          have f31 : (x.f0.toList == [97, 110, 100]) = true := beq_iff_eq.mpr c3
          have e0 := txt_eq x
          unfold txtB at e0
          rw [if_neg c0, if_neg c1, if_neg c2, if_pos c3] at e0
          simp only [← inn_def] at e0
          clear c0 c1 c2 c3
          have hz : (inn x.f3 0).size + 1 + x.f0.size + 1 + (inn x.f3 1).size ≤ 1000000000 := by
            have h1 := HZ.out
            rw [e0] at h1
            simp only [ByteArray.size_append, (show (⟨#[32]⟩ : ByteArray).size = 1 from rfl), (show (⟨#[110, 111, 116, 32]⟩ : ByteArray).size = 4 from rfl), (show (⟨#[45]⟩ : ByteArray).size = 1 from rfl), (show (⟨#[32, 105, 115, 32, 110, 117, 108, 108]⟩ : ByteArray).size = 8 from rfl)] at h1
            exact h1
          have HZ0 := Aside0.mk (show (inn x.f3 0).size ≤ 1000000000 by omega)
          have HZ1 := Aside0.mk (show (inn x.f3 1).size ≤ 1000000000 by omega)
          have t0 : (9223372036854775807 < (inn x.f3 0).size + 1) = False := eq_false (by omega)
          have t1 : (9223372036854775807 < (inn x.f3 0).size + 1 + x.f0.size) = False := eq_false (by omega)
          have t2 : (9223372036854775807 < (inn x.f3 0).size + 1 + x.f0.size + 1) = False := eq_false (by omega)
          have t3 : (9223372036854775807 < (inn x.f3 0).size + 1 + x.f0.size + 1 + (inn x.f3 1).size) = False := eq_false (by omega)
          have HT0 := Aside0.mk e0
          clear e0
          go_upto_region 9 with (fail)
          refine start_ (n := 11) (S := fun w' => w'.cell? ⟨b, 0, none⟩ = some (.string x.f0) ∧ Below W.heap.size W w') (ds := []) #[false, false, false, false, false, false, false, false, false, false, false] (by kernel_rfl) rfl rfl ⟨cc0, below_drew1 (Below.refl _ _)⟩ (fun hHeld => ?_)
          refine pure_ (i := 0) (N := some 19) (v := ?_) (a' := ?_) #[true, false, false, false, false, false, false, false, false, false, false] rfl rfl (by kernel_rfl) (fun _ _ _ h => h) (Or.inl ⟨by rfl, ?_⟩) ?_ ?_
          rotate_left
          · intro w'
            go_simp
            with_reducible rfl
          rotate_left
          · simp only [Act.put, List.setIfInBounds_toArray, List.set_cons_zero, List.set_cons_succ, i64_w, i32_w]
            rfl
          refine pure_ (i := 7) (N := some 26) (v := ?_) (a' := ?_) #[true, false, false, false, false, false, false, true, false, false, false] rfl rfl (by kernel_rfl) (fun _ _ _ h => h) (Or.inl ⟨by rfl, ?_⟩) ?_ ?_
          rotate_left
          · intro w'
            go_simp
            with_reducible rfl
          rotate_left
          · simp only [Act.put, List.setIfInBounds_toArray, List.set_cons_zero, List.set_cons_succ, i64_w, i32_w]
            rfl
          refine pure_ (i := 3) (N := some 22) (v := ?_) (a' := ?_) #[true, false, false, true, false, false, false, true, false, false, false] rfl rfl (by kernel_rfl) (fun _ _ _ h => h) (Or.inl ⟨by rfl, ?_⟩) ?_ ?_
          rotate_left
          · intro w'
            go_simp
            with_reducible rfl
          rotate_left
          · simp only [Act.put, List.setIfInBounds_toArray, List.set_cons_zero, List.set_cons_succ, i64_w, i32_w]
            rfl
          refine take_ (i := 4) (N := some 23) (v := ?_) (a' := ?_) #[true, false, false, true, true, false, false, true, false, false, false] rfl rfl (by kernel_rfl) (fun _ _ _ h => h) (Or.inl ⟨by rfl, ?_⟩) hHeld ?_ ?_
          rotate_left
          · rintro w' ⟨s0, _⟩
            go_simp
            with_reducible rfl
          rotate_left
          · simp only [Act.put, List.setIfInBounds_toArray, List.set_cons_zero, List.set_cons_succ, i64_w, i32_w]
            rfl
          refine one_ (i := 1) (N := some 20) #[true, true, false, true, true, false, false, true, false, false, false] rfl rfl (by kernel_rfl) (by decide) (fun K hK => ?_)
          refine goesC_ Tryz.func100 (by kernel_rfl) rfl #[.pointer (some ⟨b, 0, none⟩)] #[.int .i64 0, .pointer (some ⟨b, 0, none⟩)] (by rfl) rfl rfl (by rfl) (by simp only [List.map_toArray, List.map_cons, List.map_nil, List.append_toArray, List.cons_append, List.nil_append]; rfl) ?_
          refine (ih x _ A c b 0 0 rfl (by omega) HX.out HT.out HZ0.out (HG.out.below (below_drew1 (Below.refl W.heap.size W))) HL.out (Kd.C_below HC.out (below_drew1 (Below.refl W.heap.size W))) (((below_drew1 (Below.refl W.heap.size W))).block b hlt ▸ BK.out)).mono ?_
          rintro e1 w1 ⟨rfl, hb⟩
          have HB1 := Aside0.mk (below_step (below_drew1 (Below.refl W.heap.size W)) hb)
          refine ⟨_, rfl, ?_⟩
          clear hb
          have z1 := pw_cell_below HB1.out cc0
          refine hK.out _ _ ⟨z1, HB1.out⟩ (fun hHeld => ?_)
          clear hK K z1
          refine norm_ (a' := ?_) ?_ ?_
          rotate_left
          · show Act.put _ (some 20) _ = _
            simp only [Act.put, List.setIfInBounds_toArray, List.set_cons_zero, List.set_cons_succ, i64_w, i32_w]
            rfl
          refine pure_ (i := 2) (N := some 21) (v := ?_) (a' := ?_) #[true, true, true, true, true, false, false, true, false, false, false] rfl rfl (by kernel_rfl) (fun _ _ _ h => h) (Or.inl ⟨by rfl, ?_⟩) ?_ ?_
          rotate_left
          · intro w'
            go_simp
            with_reducible rfl
          rotate_left
          · simp only [Act.put, List.setIfInBounds_toArray, List.set_cons_zero, List.set_cons_succ, i64_w, i32_w]
            rfl
          refine pure_ (i := 5) (N := some 24) (v := ?_) (a' := ?_) #[true, true, true, true, true, true, false, true, false, false, false] rfl rfl (by kernel_rfl) (fun _ _ _ h => h) (Or.inl ⟨by rfl, ?_⟩) ?_ ?_
          rotate_left
          · intro w'
            go_simp
            with_reducible rfl
          rotate_left
          · simp only [Act.put, List.setIfInBounds_toArray, List.set_cons_zero, List.set_cons_succ, i64_w, i32_w]
            rfl
          refine pure_ (i := 6) (N := some 25) (v := ?_) (a' := ?_) #[true, true, true, true, true, true, true, true, false, false, false] rfl rfl (by kernel_rfl) (fun _ _ _ h => h) (Or.inl ⟨by rfl, ?_⟩) ?_ ?_
          rotate_left
          · intro w'
            go_simp
            with_reducible rfl
          rotate_left
          · simp only [Act.put, List.setIfInBounds_toArray, List.set_cons_zero, List.set_cons_succ, i64_w, i32_w]
            rfl
          refine one_ (i := 8) (N := some 27) #[true, true, true, true, true, true, true, true, true, false, false] rfl rfl (by kernel_rfl) (by decide) (fun K hK => ?_)
          refine goesC_ Tryz.func100 (by kernel_rfl) rfl #[.pointer (some ⟨b, 0, none⟩)] #[.int .i64 1, .pointer (some ⟨b, 0, none⟩)] (by rfl) rfl rfl (by rfl) (by simp only [List.map_toArray, List.map_cons, List.map_nil, List.append_toArray, List.cons_append, List.nil_append]; rfl) ?_
          refine (ih x _ A c b 1 1 rfl (by omega) HX.out HT.out HZ1.out (HG.out.below HB1.out) HL.out (Kd.C_below HC.out HB1.out) ((HB1.out).block b hlt ▸ BK.out)).mono ?_
          rintro e2 w2 ⟨rfl, hb⟩
          have HB2 := Aside0.mk (below_step HB1.out hb)
          refine ⟨_, rfl, ?_⟩
          clear hb
          have z2 := pw_cell_below HB2.out cc0
          refine hK.out _ _ ⟨z2, HB2.out⟩ (fun hHeld => ?_)
          clear hK K z2
          refine norm_ (a' := ?_) ?_ ?_
          rotate_left
          · show Act.put _ (some 27) _ = _
            simp only [Act.put, List.setIfInBounds_toArray, List.set_cons_zero, List.set_cons_succ, i64_w, i32_w]
            rfl
          refine pure_ (i := 9) (N := some 28) (v := ?_) (a' := ?_) #[true, true, true, true, true, true, true, true, true, true, false] rfl rfl (by kernel_rfl) (fun _ _ _ h => h) (Or.inl ⟨by rfl, ?_⟩) ?_ ?_
          rotate_left
          · intro w'
            go_simp
            with_reducible rfl
          rotate_left
          · simp only [Act.put, List.setIfInBounds_toArray, List.set_cons_zero, List.set_cons_succ, i64_w, i32_w]
            rfl
          refine pure_ (i := 10) (N := some 2) (v := ?_) (a' := ?_) #[true, true, true, true, true, true, true, true, true, true, true] rfl rfl (by kernel_rfl) (fun _ _ _ h => h) (Or.inl ⟨by rfl, ?_⟩) ?_ ?_
          rotate_left
          · intro w'
            go_simp
            with_reducible rfl
          rotate_left
          · simp only [Act.put, List.setIfInBounds_toArray, List.set_cons_zero, List.set_cons_succ, i64_w, i32_w]
            rfl
          refine done_ (by kernel_rfl) ?_
          go_wp2
          go_ret
          exact ⟨by rw [HT0.out]; rfl, below_step HB.out HB2.out⟩
        · skip
          by_cases c4 : x.f0.toList = [110, 111, 116]
          · have f00 : (x.f0.toList == [118, 97, 108]) = false := beq_eq_false_iff_ne.mpr c0
            have f10 : (x.f0.toList == [99, 111, 108]) = false := beq_eq_false_iff_ne.mpr c1
            have f20 : (x.f0.toList == [111, 114]) = false := beq_eq_false_iff_ne.mpr c2
            have f30 : (x.f0.toList == [97, 110, 100]) = false := beq_eq_false_iff_ne.mpr c3
            have f41 : (x.f0.toList == [110, 111, 116]) = true := beq_iff_eq.mpr c4
            have e0 := txt_eq x
            unfold txtB at e0
            rw [if_neg c0, if_neg c1, if_neg c2, if_neg c3, if_pos c4] at e0
            simp only [← inn_def] at e0
            clear c0 c1 c2 c3 c4
            have hz : 4 + (inn x.f3 0).size ≤ 1000000000 := by
              have h1 := HZ.out
              rw [e0] at h1
              simp only [ByteArray.size_append, (show (⟨#[32]⟩ : ByteArray).size = 1 from rfl), (show (⟨#[110, 111, 116, 32]⟩ : ByteArray).size = 4 from rfl), (show (⟨#[45]⟩ : ByteArray).size = 1 from rfl), (show (⟨#[32, 105, 115, 32, 110, 117, 108, 108]⟩ : ByteArray).size = 8 from rfl)] at h1
              exact h1
            have HZ0 := Aside0.mk (show (inn x.f3 0).size ≤ 1000000000 by omega)
            have t0 : (9223372036854775807 < 4 + (inn x.f3 0).size) = False := eq_false (by omega)
            have HT0 := Aside0.mk e0
            clear e0
            go_wp2_with (first | (go_at_call 100; refine (ih x _ A c b 0 0 rfl (by omega) HX.out HT.out HZ0.out HG.out HL.out HC.out BK.out).mono ?_; rintro e1 w1 ⟨rfl, hb⟩; have HB1 := Aside0.mk hb; clear hb))
            go_ret
            exact ⟨by rw [HT0.out]; rfl, below_step HB.out HB1.out⟩
          · skip
            by_cases c5 : x.f0.toList = [110, 101, 103]
            · have f00 : (x.f0.toList == [118, 97, 108]) = false := beq_eq_false_iff_ne.mpr c0
              have f10 : (x.f0.toList == [99, 111, 108]) = false := beq_eq_false_iff_ne.mpr c1
              have f20 : (x.f0.toList == [111, 114]) = false := beq_eq_false_iff_ne.mpr c2
              have f30 : (x.f0.toList == [97, 110, 100]) = false := beq_eq_false_iff_ne.mpr c3
              have f40 : (x.f0.toList == [110, 111, 116]) = false := beq_eq_false_iff_ne.mpr c4
              have f51 : (x.f0.toList == [110, 101, 103]) = true := beq_iff_eq.mpr c5
              have e0 := txt_eq x
              unfold txtB at e0
              rw [if_neg c0, if_neg c1, if_neg c2, if_neg c3, if_neg c4, if_pos c5] at e0
              simp only [← inn_def] at e0
              clear c0 c1 c2 c3 c4 c5
              have hz : 1 + (inn x.f3 0).size ≤ 1000000000 := by
                have h1 := HZ.out
                rw [e0] at h1
                simp only [ByteArray.size_append, (show (⟨#[32]⟩ : ByteArray).size = 1 from rfl), (show (⟨#[110, 111, 116, 32]⟩ : ByteArray).size = 4 from rfl), (show (⟨#[45]⟩ : ByteArray).size = 1 from rfl), (show (⟨#[32, 105, 115, 32, 110, 117, 108, 108]⟩ : ByteArray).size = 8 from rfl)] at h1
                exact h1
              have HZ0 := Aside0.mk (show (inn x.f3 0).size ≤ 1000000000 by omega)
              have t0 : (9223372036854775807 < 1 + (inn x.f3 0).size) = False := eq_false (by omega)
              have HT0 := Aside0.mk e0
              clear e0
              go_wp2_with (first | (go_at_call 100; refine (ih x _ A c b 0 0 rfl (by omega) HX.out HT.out HZ0.out HG.out HL.out HC.out BK.out).mono ?_; rintro e1 w1 ⟨rfl, hb⟩; have HB1 := Aside0.mk hb; clear hb))
              go_ret
              exact ⟨by rw [HT0.out]; rfl, below_step HB.out HB1.out⟩
            · skip
              by_cases c6 : x.f0.toList = [105, 115, 110, 117, 108, 108]
              · have f00 : (x.f0.toList == [118, 97, 108]) = false := beq_eq_false_iff_ne.mpr c0
                have f10 : (x.f0.toList == [99, 111, 108]) = false := beq_eq_false_iff_ne.mpr c1
                have f20 : (x.f0.toList == [111, 114]) = false := beq_eq_false_iff_ne.mpr c2
                have f30 : (x.f0.toList == [97, 110, 100]) = false := beq_eq_false_iff_ne.mpr c3
                have f40 : (x.f0.toList == [110, 111, 116]) = false := beq_eq_false_iff_ne.mpr c4
                have f50 : (x.f0.toList == [110, 101, 103]) = false := beq_eq_false_iff_ne.mpr c5
                have f61 : (x.f0.toList == [105, 115, 110, 117, 108, 108]) = true := beq_iff_eq.mpr c6
                have e0 := txt_eq x
                unfold txtB at e0
                rw [if_neg c0, if_neg c1, if_neg c2, if_neg c3, if_neg c4, if_neg c5, if_pos c6] at e0
                simp only [← inn_def] at e0
                clear c0 c1 c2 c3 c4 c5 c6
                have hz : (inn x.f3 0).size + 8 ≤ 1000000000 := by
                  have h1 := HZ.out
                  rw [e0] at h1
                  simp only [ByteArray.size_append, (show (⟨#[32]⟩ : ByteArray).size = 1 from rfl), (show (⟨#[110, 111, 116, 32]⟩ : ByteArray).size = 4 from rfl), (show (⟨#[45]⟩ : ByteArray).size = 1 from rfl), (show (⟨#[32, 105, 115, 32, 110, 117, 108, 108]⟩ : ByteArray).size = 8 from rfl)] at h1
                  exact h1
                have HZ0 := Aside0.mk (show (inn x.f3 0).size ≤ 1000000000 by omega)
                have t0 : (9223372036854775807 < (inn x.f3 0).size + 8) = False := eq_false (by omega)
                have HT0 := Aside0.mk e0
                clear e0
                go_wp2_with (first | (go_at_call 100; refine (ih x _ A c b 0 0 rfl (by omega) HX.out HT.out HZ0.out HG.out HL.out HC.out BK.out).mono ?_; rintro e1 w1 ⟨rfl, hb⟩; have HB1 := Aside0.mk hb; clear hb))
                go_ret
                exact ⟨by rw [HT0.out]; rfl, below_step HB.out HB1.out⟩
              · skip
                by_cases c7 : x.f0.toList = [99, 111, 117, 110, 116]
                · have f00 : (x.f0.toList == [118, 97, 108]) = false := beq_eq_false_iff_ne.mpr c0
                  have f10 : (x.f0.toList == [99, 111, 108]) = false := beq_eq_false_iff_ne.mpr c1
                  have f20 : (x.f0.toList == [111, 114]) = false := beq_eq_false_iff_ne.mpr c2
                  have f30 : (x.f0.toList == [97, 110, 100]) = false := beq_eq_false_iff_ne.mpr c3
                  have f40 : (x.f0.toList == [110, 111, 116]) = false := beq_eq_false_iff_ne.mpr c4
                  have f50 : (x.f0.toList == [110, 101, 103]) = false := beq_eq_false_iff_ne.mpr c5
                  have f60 : (x.f0.toList == [105, 115, 110, 117, 108, 108]) = false := beq_eq_false_iff_ne.mpr c6
                  have f71 : (x.f0.toList == [99, 111, 117, 110, 116]) = true := beq_iff_eq.mpr c7
                  have e0 := txt_eq x
                  unfold txtB at e0
                  rw [if_neg c0, if_neg c1, if_neg c2, if_neg c3, if_neg c4, if_neg c5, if_neg c6, if_pos c7] at e0
                  clear c0 c1 c2 c3 c4 c5 c6 c7
                  have HT0 := Aside0.mk e0
                  clear e0
                  go_wp2
                  go_ret
                  exact ⟨by rw [HT0.out]; rfl, HB.out⟩
                · skip
                  by_cases c8 : x.f0.toList = [115, 117, 109]
                  · have f00 : (x.f0.toList == [118, 97, 108]) = false := beq_eq_false_iff_ne.mpr c0
                    have f10 : (x.f0.toList == [99, 111, 108]) = false := beq_eq_false_iff_ne.mpr c1
                    have f20 : (x.f0.toList == [111, 114]) = false := beq_eq_false_iff_ne.mpr c2
                    have f30 : (x.f0.toList == [97, 110, 100]) = false := beq_eq_false_iff_ne.mpr c3
                    have f40 : (x.f0.toList == [110, 111, 116]) = false := beq_eq_false_iff_ne.mpr c4
                    have f50 : (x.f0.toList == [110, 101, 103]) = false := beq_eq_false_iff_ne.mpr c5
                    have f60 : (x.f0.toList == [105, 115, 110, 117, 108, 108]) = false := beq_eq_false_iff_ne.mpr c6
                    have f70 : (x.f0.toList == [99, 111, 117, 110, 116]) = false := beq_eq_false_iff_ne.mpr c7
                    have f81 : (x.f0.toList == [115, 117, 109]) = true := beq_iff_eq.mpr c8
                    have e0 := txt_eq x
                    unfold txtB at e0
                    rw [if_neg c0, if_neg c1, if_neg c2, if_neg c3, if_neg c4, if_neg c5, if_neg c6, if_neg c7, if_pos c8] at e0
                    simp only [← inn_def] at e0
                    clear c0 c1 c2 c3 c4 c5 c6 c7 c8
                    have hz : x.f0.size + (inn x.f3 0).size ≤ 1000000000 := by
                      have h1 := HZ.out
                      rw [e0] at h1
                      simp only [ByteArray.size_append, (show (⟨#[32]⟩ : ByteArray).size = 1 from rfl), (show (⟨#[110, 111, 116, 32]⟩ : ByteArray).size = 4 from rfl), (show (⟨#[45]⟩ : ByteArray).size = 1 from rfl), (show (⟨#[32, 105, 115, 32, 110, 117, 108, 108]⟩ : ByteArray).size = 8 from rfl)] at h1
                      exact h1
                    have HZ0 := Aside0.mk (show (inn x.f3 0).size ≤ 1000000000 by omega)
                    have t0 : (9223372036854775807 < x.f0.size + (inn x.f3 0).size) = False := eq_false (by omega)
                    have HT0 := Aside0.mk e0
                    clear e0
                    go_upto_region 21 with (fail)
                    refine start_ (n := 6) (S := fun w' => w'.cell? ⟨b, 0, none⟩ = some (.string x.f0) ∧ Below W.heap.size W w') (ds := []) #[false, false, false, false, false, false] (by kernel_rfl) rfl rfl ⟨cc0, below_drew1 (Below.refl _ _)⟩ (fun hHeld => ?_)
                    refine pure_ (i := 0) (N := some 50) (v := ?_) (a' := ?_) #[true, false, false, false, false, false] rfl rfl (by kernel_rfl) (fun _ _ _ h => h) (Or.inl ⟨by rfl, ?_⟩) ?_ ?_
                    rotate_left
                    · intro w'
                      go_simp
                      with_reducible rfl
                    rotate_left
                    · simp only [Act.put, List.setIfInBounds_toArray, List.set_cons_zero, List.set_cons_succ, i64_w, i32_w]
                      rfl
                    refine pure_ (i := 2) (N := some 52) (v := ?_) (a' := ?_) #[true, false, true, false, false, false] rfl rfl (by kernel_rfl) (fun _ _ _ h => h) (Or.inl ⟨by rfl, ?_⟩) ?_ ?_
                    rotate_left
                    · intro w'
                      go_simp
                      with_reducible rfl
                    rotate_left
                    · simp only [Act.put, List.setIfInBounds_toArray, List.set_cons_zero, List.set_cons_succ, i64_w, i32_w]
                      rfl
                    refine take_ (i := 1) (N := some 51) (v := ?_) (a' := ?_) #[true, true, true, false, false, false] rfl rfl (by kernel_rfl) (fun _ _ _ h => h) (Or.inl ⟨by rfl, ?_⟩) hHeld ?_ ?_
                    rotate_left
                    · rintro w' ⟨s0, _⟩
                      go_simp
                      with_reducible rfl
                    rotate_left
                    · simp only [Act.put, List.setIfInBounds_toArray, List.set_cons_zero, List.set_cons_succ, i64_w, i32_w]
                      rfl
                    refine one_ (i := 3) (N := some 53) #[true, true, true, true, false, false] rfl rfl (by kernel_rfl) (by decide) (fun K hK => ?_)
                    refine goesC_ Tryz.func100 (by kernel_rfl) rfl #[.pointer (some ⟨b, 0, none⟩)] #[.int .i64 0, .pointer (some ⟨b, 0, none⟩)] (by rfl) rfl rfl (by rfl) (by simp only [List.map_toArray, List.map_cons, List.map_nil, List.append_toArray, List.cons_append, List.nil_append]; rfl) ?_
                    refine (ih x _ A c b 0 0 rfl (by omega) HX.out HT.out HZ0.out (HG.out.below (below_drew1 (Below.refl W.heap.size W))) HL.out (Kd.C_below HC.out (below_drew1 (Below.refl W.heap.size W))) (((below_drew1 (Below.refl W.heap.size W))).block b hlt ▸ BK.out)).mono ?_
                    rintro e1 w1 ⟨rfl, hb⟩
                    have HB1 := Aside0.mk (below_step (below_drew1 (Below.refl W.heap.size W)) hb)
                    refine ⟨_, rfl, ?_⟩
                    clear hb
                    have z1 := pw_cell_below HB1.out cc0
                    refine hK.out _ _ ⟨z1, HB1.out⟩ (fun hHeld => ?_)
                    clear hK K z1
                    refine norm_ (a' := ?_) ?_ ?_
                    rotate_left
                    · show Act.put _ (some 53) _ = _
                      simp only [Act.put, List.setIfInBounds_toArray, List.set_cons_zero, List.set_cons_succ, i64_w, i32_w]
                      rfl
                    refine pure_ (i := 4) (N := some 54) (v := ?_) (a' := ?_) #[true, true, true, true, true, false] rfl rfl (by kernel_rfl) (fun _ _ _ h => h) (Or.inl ⟨by rfl, ?_⟩) ?_ ?_
                    rotate_left
                    · intro w'
                      go_simp
                      with_reducible rfl
                    rotate_left
                    · simp only [Act.put, List.setIfInBounds_toArray, List.set_cons_zero, List.set_cons_succ, i64_w, i32_w]
                      rfl
                    refine pure_ (i := 5) (N := some 2) (v := ?_) (a' := ?_) #[true, true, true, true, true, true] rfl rfl (by kernel_rfl) (fun _ _ _ h => h) (Or.inl ⟨by rfl, ?_⟩) ?_ ?_
                    rotate_left
                    · intro w'
                      go_simp
                      with_reducible rfl
                    rotate_left
                    · simp only [Act.put, List.setIfInBounds_toArray, List.set_cons_zero, List.set_cons_succ, i64_w, i32_w]
                      rfl
                    refine done_ (by kernel_rfl) ?_
                    go_wp2
                    go_ret
                    exact ⟨by rw [HT0.out]; rfl, below_step HB.out HB1.out⟩
                  · skip
                    by_cases c9 : x.f0.toList = [109, 105, 110]
                    · have f00 : (x.f0.toList == [118, 97, 108]) = false := beq_eq_false_iff_ne.mpr c0
                      have f10 : (x.f0.toList == [99, 111, 108]) = false := beq_eq_false_iff_ne.mpr c1
                      have f20 : (x.f0.toList == [111, 114]) = false := beq_eq_false_iff_ne.mpr c2
                      have f30 : (x.f0.toList == [97, 110, 100]) = false := beq_eq_false_iff_ne.mpr c3
                      have f40 : (x.f0.toList == [110, 111, 116]) = false := beq_eq_false_iff_ne.mpr c4
                      have f50 : (x.f0.toList == [110, 101, 103]) = false := beq_eq_false_iff_ne.mpr c5
                      have f60 : (x.f0.toList == [105, 115, 110, 117, 108, 108]) = false := beq_eq_false_iff_ne.mpr c6
                      have f70 : (x.f0.toList == [99, 111, 117, 110, 116]) = false := beq_eq_false_iff_ne.mpr c7
                      have f80 : (x.f0.toList == [115, 117, 109]) = false := beq_eq_false_iff_ne.mpr c8
                      have f91 : (x.f0.toList == [109, 105, 110]) = true := beq_iff_eq.mpr c9
                      have e0 := txt_eq x
                      unfold txtB at e0
                      rw [if_neg c0, if_neg c1, if_neg c2, if_neg c3, if_neg c4, if_neg c5, if_neg c6, if_neg c7, if_neg c8, if_pos c9] at e0
                      simp only [← inn_def] at e0
                      clear c0 c1 c2 c3 c4 c5 c6 c7 c8 c9
                      have hz : x.f0.size + (inn x.f3 0).size ≤ 1000000000 := by
                        have h1 := HZ.out
                        rw [e0] at h1
                        simp only [ByteArray.size_append, (show (⟨#[32]⟩ : ByteArray).size = 1 from rfl), (show (⟨#[110, 111, 116, 32]⟩ : ByteArray).size = 4 from rfl), (show (⟨#[45]⟩ : ByteArray).size = 1 from rfl), (show (⟨#[32, 105, 115, 32, 110, 117, 108, 108]⟩ : ByteArray).size = 8 from rfl)] at h1
                        exact h1
                      have HZ0 := Aside0.mk (show (inn x.f3 0).size ≤ 1000000000 by omega)
                      have t0 : (9223372036854775807 < x.f0.size + (inn x.f3 0).size) = False := eq_false (by omega)
                      have HT0 := Aside0.mk e0
                      clear e0
                      go_upto_region 21 with (fail)
                      refine start_ (n := 6) (S := fun w' => w'.cell? ⟨b, 0, none⟩ = some (.string x.f0) ∧ Below W.heap.size W w') (ds := []) #[false, false, false, false, false, false] (by kernel_rfl) rfl rfl ⟨cc0, below_drew1 (Below.refl _ _)⟩ (fun hHeld => ?_)
                      refine pure_ (i := 0) (N := some 50) (v := ?_) (a' := ?_) #[true, false, false, false, false, false] rfl rfl (by kernel_rfl) (fun _ _ _ h => h) (Or.inl ⟨by rfl, ?_⟩) ?_ ?_
                      rotate_left
                      · intro w'
                        go_simp
                        with_reducible rfl
                      rotate_left
                      · simp only [Act.put, List.setIfInBounds_toArray, List.set_cons_zero, List.set_cons_succ, i64_w, i32_w]
                        rfl
                      refine pure_ (i := 2) (N := some 52) (v := ?_) (a' := ?_) #[true, false, true, false, false, false] rfl rfl (by kernel_rfl) (fun _ _ _ h => h) (Or.inl ⟨by rfl, ?_⟩) ?_ ?_
                      rotate_left
                      · intro w'
                        go_simp
                        with_reducible rfl
                      rotate_left
                      · simp only [Act.put, List.setIfInBounds_toArray, List.set_cons_zero, List.set_cons_succ, i64_w, i32_w]
                        rfl
                      refine take_ (i := 1) (N := some 51) (v := ?_) (a' := ?_) #[true, true, true, false, false, false] rfl rfl (by kernel_rfl) (fun _ _ _ h => h) (Or.inl ⟨by rfl, ?_⟩) hHeld ?_ ?_
                      rotate_left
                      · rintro w' ⟨s0, _⟩
                        go_simp
                        with_reducible rfl
                      rotate_left
                      · simp only [Act.put, List.setIfInBounds_toArray, List.set_cons_zero, List.set_cons_succ, i64_w, i32_w]
                        rfl
                      refine one_ (i := 3) (N := some 53) #[true, true, true, true, false, false] rfl rfl (by kernel_rfl) (by decide) (fun K hK => ?_)
                      refine goesC_ Tryz.func100 (by kernel_rfl) rfl #[.pointer (some ⟨b, 0, none⟩)] #[.int .i64 0, .pointer (some ⟨b, 0, none⟩)] (by rfl) rfl rfl (by rfl) (by simp only [List.map_toArray, List.map_cons, List.map_nil, List.append_toArray, List.cons_append, List.nil_append]; rfl) ?_
                      refine (ih x _ A c b 0 0 rfl (by omega) HX.out HT.out HZ0.out (HG.out.below (below_drew1 (Below.refl W.heap.size W))) HL.out (Kd.C_below HC.out (below_drew1 (Below.refl W.heap.size W))) (((below_drew1 (Below.refl W.heap.size W))).block b hlt ▸ BK.out)).mono ?_
                      rintro e1 w1 ⟨rfl, hb⟩
                      have HB1 := Aside0.mk (below_step (below_drew1 (Below.refl W.heap.size W)) hb)
                      refine ⟨_, rfl, ?_⟩
                      clear hb
                      have z1 := pw_cell_below HB1.out cc0
                      refine hK.out _ _ ⟨z1, HB1.out⟩ (fun hHeld => ?_)
                      clear hK K z1
                      refine norm_ (a' := ?_) ?_ ?_
                      rotate_left
                      · show Act.put _ (some 53) _ = _
                        simp only [Act.put, List.setIfInBounds_toArray, List.set_cons_zero, List.set_cons_succ, i64_w, i32_w]
                        rfl
                      refine pure_ (i := 4) (N := some 54) (v := ?_) (a' := ?_) #[true, true, true, true, true, false] rfl rfl (by kernel_rfl) (fun _ _ _ h => h) (Or.inl ⟨by rfl, ?_⟩) ?_ ?_
                      rotate_left
                      · intro w'
                        go_simp
                        with_reducible rfl
                      rotate_left
                      · simp only [Act.put, List.setIfInBounds_toArray, List.set_cons_zero, List.set_cons_succ, i64_w, i32_w]
                        rfl
                      refine pure_ (i := 5) (N := some 2) (v := ?_) (a' := ?_) #[true, true, true, true, true, true] rfl rfl (by kernel_rfl) (fun _ _ _ h => h) (Or.inl ⟨by rfl, ?_⟩) ?_ ?_
                      rotate_left
                      · intro w'
                        go_simp
                        with_reducible rfl
                      rotate_left
                      · simp only [Act.put, List.setIfInBounds_toArray, List.set_cons_zero, List.set_cons_succ, i64_w, i32_w]
                        rfl
                      refine done_ (by kernel_rfl) ?_
                      go_wp2
                      go_ret
                      exact ⟨by rw [HT0.out]; rfl, below_step HB.out HB1.out⟩
                    · skip
                      by_cases c10 : x.f0.toList = [109, 97, 120]
                      · have f00 : (x.f0.toList == [118, 97, 108]) = false := beq_eq_false_iff_ne.mpr c0
                        have f10 : (x.f0.toList == [99, 111, 108]) = false := beq_eq_false_iff_ne.mpr c1
                        have f20 : (x.f0.toList == [111, 114]) = false := beq_eq_false_iff_ne.mpr c2
                        have f30 : (x.f0.toList == [97, 110, 100]) = false := beq_eq_false_iff_ne.mpr c3
                        have f40 : (x.f0.toList == [110, 111, 116]) = false := beq_eq_false_iff_ne.mpr c4
                        have f50 : (x.f0.toList == [110, 101, 103]) = false := beq_eq_false_iff_ne.mpr c5
                        have f60 : (x.f0.toList == [105, 115, 110, 117, 108, 108]) = false := beq_eq_false_iff_ne.mpr c6
                        have f70 : (x.f0.toList == [99, 111, 117, 110, 116]) = false := beq_eq_false_iff_ne.mpr c7
                        have f80 : (x.f0.toList == [115, 117, 109]) = false := beq_eq_false_iff_ne.mpr c8
                        have f90 : (x.f0.toList == [109, 105, 110]) = false := beq_eq_false_iff_ne.mpr c9
                        have f101 : (x.f0.toList == [109, 97, 120]) = true := beq_iff_eq.mpr c10
                        have e0 := txt_eq x
                        unfold txtB at e0
                        rw [if_neg c0, if_neg c1, if_neg c2, if_neg c3, if_neg c4, if_neg c5, if_neg c6, if_neg c7, if_neg c8, if_neg c9, if_pos c10] at e0
                        simp only [← inn_def] at e0
                        clear c0 c1 c2 c3 c4 c5 c6 c7 c8 c9 c10
                        have hz : x.f0.size + (inn x.f3 0).size ≤ 1000000000 := by
                          have h1 := HZ.out
                          rw [e0] at h1
                          simp only [ByteArray.size_append, (show (⟨#[32]⟩ : ByteArray).size = 1 from rfl), (show (⟨#[110, 111, 116, 32]⟩ : ByteArray).size = 4 from rfl), (show (⟨#[45]⟩ : ByteArray).size = 1 from rfl), (show (⟨#[32, 105, 115, 32, 110, 117, 108, 108]⟩ : ByteArray).size = 8 from rfl)] at h1
                          exact h1
                        have HZ0 := Aside0.mk (show (inn x.f3 0).size ≤ 1000000000 by omega)
                        have t0 : (9223372036854775807 < x.f0.size + (inn x.f3 0).size) = False := eq_false (by omega)
                        have HT0 := Aside0.mk e0
                        clear e0
                        go_upto_region 21 with (fail)
                        refine start_ (n := 6) (S := fun w' => w'.cell? ⟨b, 0, none⟩ = some (.string x.f0) ∧ Below W.heap.size W w') (ds := []) #[false, false, false, false, false, false] (by kernel_rfl) rfl rfl ⟨cc0, below_drew1 (Below.refl _ _)⟩ (fun hHeld => ?_)
                        refine pure_ (i := 0) (N := some 50) (v := ?_) (a' := ?_) #[true, false, false, false, false, false] rfl rfl (by kernel_rfl) (fun _ _ _ h => h) (Or.inl ⟨by rfl, ?_⟩) ?_ ?_
                        rotate_left
                        · intro w'
                          go_simp
                          with_reducible rfl
                        rotate_left
                        · simp only [Act.put, List.setIfInBounds_toArray, List.set_cons_zero, List.set_cons_succ, i64_w, i32_w]
                          rfl
                        refine pure_ (i := 2) (N := some 52) (v := ?_) (a' := ?_) #[true, false, true, false, false, false] rfl rfl (by kernel_rfl) (fun _ _ _ h => h) (Or.inl ⟨by rfl, ?_⟩) ?_ ?_
                        rotate_left
                        · intro w'
                          go_simp
                          with_reducible rfl
                        rotate_left
                        · simp only [Act.put, List.setIfInBounds_toArray, List.set_cons_zero, List.set_cons_succ, i64_w, i32_w]
                          rfl
                        refine take_ (i := 1) (N := some 51) (v := ?_) (a' := ?_) #[true, true, true, false, false, false] rfl rfl (by kernel_rfl) (fun _ _ _ h => h) (Or.inl ⟨by rfl, ?_⟩) hHeld ?_ ?_
                        rotate_left
                        · rintro w' ⟨s0, _⟩
                          go_simp
                          with_reducible rfl
                        rotate_left
                        · simp only [Act.put, List.setIfInBounds_toArray, List.set_cons_zero, List.set_cons_succ, i64_w, i32_w]
                          rfl
                        refine one_ (i := 3) (N := some 53) #[true, true, true, true, false, false] rfl rfl (by kernel_rfl) (by decide) (fun K hK => ?_)
                        refine goesC_ Tryz.func100 (by kernel_rfl) rfl #[.pointer (some ⟨b, 0, none⟩)] #[.int .i64 0, .pointer (some ⟨b, 0, none⟩)] (by rfl) rfl rfl (by rfl) (by simp only [List.map_toArray, List.map_cons, List.map_nil, List.append_toArray, List.cons_append, List.nil_append]; rfl) ?_
                        refine (ih x _ A c b 0 0 rfl (by omega) HX.out HT.out HZ0.out (HG.out.below (below_drew1 (Below.refl W.heap.size W))) HL.out (Kd.C_below HC.out (below_drew1 (Below.refl W.heap.size W))) (((below_drew1 (Below.refl W.heap.size W))).block b hlt ▸ BK.out)).mono ?_
                        rintro e1 w1 ⟨rfl, hb⟩
                        have HB1 := Aside0.mk (below_step (below_drew1 (Below.refl W.heap.size W)) hb)
                        refine ⟨_, rfl, ?_⟩
                        clear hb
                        have z1 := pw_cell_below HB1.out cc0
                        refine hK.out _ _ ⟨z1, HB1.out⟩ (fun hHeld => ?_)
                        clear hK K z1
                        refine norm_ (a' := ?_) ?_ ?_
                        rotate_left
                        · show Act.put _ (some 53) _ = _
                          simp only [Act.put, List.setIfInBounds_toArray, List.set_cons_zero, List.set_cons_succ, i64_w, i32_w]
                          rfl
                        refine pure_ (i := 4) (N := some 54) (v := ?_) (a' := ?_) #[true, true, true, true, true, false] rfl rfl (by kernel_rfl) (fun _ _ _ h => h) (Or.inl ⟨by rfl, ?_⟩) ?_ ?_
                        rotate_left
                        · intro w'
                          go_simp
                          with_reducible rfl
                        rotate_left
                        · simp only [Act.put, List.setIfInBounds_toArray, List.set_cons_zero, List.set_cons_succ, i64_w, i32_w]
                          rfl
                        refine pure_ (i := 5) (N := some 2) (v := ?_) (a' := ?_) #[true, true, true, true, true, true] rfl rfl (by kernel_rfl) (fun _ _ _ h => h) (Or.inl ⟨by rfl, ?_⟩) ?_ ?_
                        rotate_left
                        · intro w'
                          go_simp
                          with_reducible rfl
                        rotate_left
                        · simp only [Act.put, List.setIfInBounds_toArray, List.set_cons_zero, List.set_cons_succ, i64_w, i32_w]
                          rfl
                        refine done_ (by kernel_rfl) ?_
                        go_wp2
                        go_ret
                        exact ⟨by rw [HT0.out]; rfl, below_step HB.out HB1.out⟩
                      · skip
                        by_cases hB : bigB x.f0 = true
                        · have g0 := bigB_true hB
                          obtain ⟨g1, g2⟩ := g0
                          have g3 : (x.f0.toList != [105, 115]) = true := by unfold bne; rw [g2]; rfl
                          have g4 : decide (3 < Ps.binds x.f0) = true := decide_eq_true g1
                          have BI := Aside0.mk (binds_is x.f0)
                          generalize Ps.binds x.f0 = bv at BI g4 g1
                          have f00 : (x.f0.toList == [118, 97, 108]) = false := beq_eq_false_iff_ne.mpr c0
                          have f10 : (x.f0.toList == [99, 111, 108]) = false := beq_eq_false_iff_ne.mpr c1
                          have f20 : (x.f0.toList == [111, 114]) = false := beq_eq_false_iff_ne.mpr c2
                          have f30 : (x.f0.toList == [97, 110, 100]) = false := beq_eq_false_iff_ne.mpr c3
                          have f40 : (x.f0.toList == [110, 111, 116]) = false := beq_eq_false_iff_ne.mpr c4
                          have f50 : (x.f0.toList == [110, 101, 103]) = false := beq_eq_false_iff_ne.mpr c5
                          have f60 : (x.f0.toList == [105, 115, 110, 117, 108, 108]) = false := beq_eq_false_iff_ne.mpr c6
                          have f70 : (x.f0.toList == [99, 111, 117, 110, 116]) = false := beq_eq_false_iff_ne.mpr c7
                          have f80 : (x.f0.toList == [115, 117, 109]) = false := beq_eq_false_iff_ne.mpr c8
                          have f90 : (x.f0.toList == [109, 105, 110]) = false := beq_eq_false_iff_ne.mpr c9
                          have f100 : (x.f0.toList == [109, 97, 120]) = false := beq_eq_false_iff_ne.mpr c10
                          have e0 := txt_eq x
                          unfold txtB at e0
                          rw [if_neg c0, if_neg c1, if_neg c2, if_neg c3, if_neg c4, if_neg c5, if_neg c6, if_neg c7, if_neg c8, if_neg c9, if_neg c10, if_pos hB] at e0
                          simp only [← inn_def] at e0
                          clear c0 c1 c2 c3 c4 c5 c6 c7 c8 c9 c10 hB
                          have hz : (inn x.f3 0).size + x.f0.size + (inn x.f3 1).size ≤ 1000000000 := by
                            have h1 := HZ.out
                            rw [e0] at h1
                            simp only [ByteArray.size_append, (show (⟨#[32]⟩ : ByteArray).size = 1 from rfl), (show (⟨#[110, 111, 116, 32]⟩ : ByteArray).size = 4 from rfl), (show (⟨#[45]⟩ : ByteArray).size = 1 from rfl), (show (⟨#[32, 105, 115, 32, 110, 117, 108, 108]⟩ : ByteArray).size = 8 from rfl)] at h1
                            exact h1
                          have HZ0 := Aside0.mk (show (inn x.f3 0).size ≤ 1000000000 by omega)
                          have HZ1 := Aside0.mk (show (inn x.f3 1).size ≤ 1000000000 by omega)
                          have t0 : (9223372036854775807 < (inn x.f3 0).size + x.f0.size) = False := eq_false (by omega)
                          have t1 : (9223372036854775807 < (inn x.f3 0).size + x.f0.size + (inn x.f3 1).size) = False := eq_false (by omega)
                          have HT0 := Aside0.mk e0
                          clear e0
                          go_upto_region 23 with (first | (go_at_call 102; refine (parse_binds.calls 3 _ _ _ BI.out).mono ?_; rintro e w4 ⟨rfl, ⟨nd, rfl⟩⟩))
                          refine start_ (n := 9) (S := fun w' => w'.cell? ⟨b, 0, none⟩ = some (.string x.f0) ∧ Below W.heap.size W w') (ds := []) #[false, false, false, false, false, false, false, false, false] (by kernel_rfl) rfl rfl ⟨pw_cell_below (below_drew1 (pw_below_drewN (Below.refl W.heap.size W) nd)) cc0, below_drew1 (pw_below_drewN (Below.refl _ _) nd)⟩ (fun hHeld => ?_)
                          refine pure_ (i := 0) (N := some 64) (v := ?_) (a' := ?_) #[true, false, false, false, false, false, false, false, false] rfl rfl (by kernel_rfl) (fun _ _ _ h => h) (Or.inl ⟨by rfl, ?_⟩) ?_ ?_
                          rotate_left
                          · intro w'
                            go_simp
                            with_reducible rfl
                          rotate_left
                          · simp only [Act.put, List.setIfInBounds_toArray, List.set_cons_zero, List.set_cons_succ, i64_w, i32_w]
                            rfl
                          refine pure_ (i := 5) (N := some 69) (v := ?_) (a' := ?_) #[true, false, false, false, false, true, false, false, false] rfl rfl (by kernel_rfl) (fun _ _ _ h => h) (Or.inl ⟨by rfl, ?_⟩) ?_ ?_
                          rotate_left
                          · intro w'
                            go_simp
                            with_reducible rfl
                          rotate_left
                          · simp only [Act.put, List.setIfInBounds_toArray, List.set_cons_zero, List.set_cons_succ, i64_w, i32_w]
                            rfl
                          refine pure_ (i := 2) (N := some 66) (v := ?_) (a' := ?_) #[true, false, true, false, false, true, false, false, false] rfl rfl (by kernel_rfl) (fun _ _ _ h => h) (Or.inl ⟨by rfl, ?_⟩) ?_ ?_
                          rotate_left
                          · intro w'
                            go_simp
                            with_reducible rfl
                          rotate_left
                          · simp only [Act.put, List.setIfInBounds_toArray, List.set_cons_zero, List.set_cons_succ, i64_w, i32_w]
                            rfl
                          refine take_ (i := 3) (N := some 67) (v := ?_) (a' := ?_) #[true, false, true, true, false, true, false, false, false] rfl rfl (by kernel_rfl) (fun _ _ _ h => h) (Or.inl ⟨by rfl, ?_⟩) hHeld ?_ ?_
                          rotate_left
                          · rintro w' ⟨s0, _⟩
                            go_simp
                            with_reducible rfl
                          rotate_left
                          · simp only [Act.put, List.setIfInBounds_toArray, List.set_cons_zero, List.set_cons_succ, i64_w, i32_w]
                            rfl
                          refine one_ (i := 1) (N := some 65) #[true, true, true, true, false, true, false, false, false] rfl rfl (by kernel_rfl) (by decide) (fun K hK => ?_)
                          refine goesC_ Tryz.func100 (by kernel_rfl) rfl #[.pointer (some ⟨b, 0, none⟩)] #[.int .i64 0, .pointer (some ⟨b, 0, none⟩)] (by rfl) rfl rfl (by rfl) (by simp only [List.map_toArray, List.map_cons, List.map_nil, List.append_toArray, List.cons_append, List.nil_append]; rfl) ?_
                          refine (ih x _ A c b 0 0 rfl (by omega) HX.out HT.out HZ0.out (HG.out.below (below_drew1 (pw_below_drewN (Below.refl W.heap.size W) nd))) HL.out (Kd.C_below HC.out (below_drew1 (pw_below_drewN (Below.refl W.heap.size W) nd))) (((below_drew1 (pw_below_drewN (Below.refl W.heap.size W) nd))).block b hlt ▸ BK.out)).mono ?_
                          rintro e1 w1 ⟨rfl, hb⟩
                          have HB1 := Aside0.mk (below_step (below_drew1 (pw_below_drewN (Below.refl W.heap.size W) nd)) hb)
                          refine ⟨_, rfl, ?_⟩
                          clear hb
                          have z1 := pw_cell_below HB1.out cc0
                          refine hK.out _ _ ⟨z1, HB1.out⟩ (fun hHeld => ?_)
                          clear hK K z1
                          refine norm_ (a' := ?_) ?_ ?_
                          rotate_left
                          · show Act.put _ (some 65) _ = _
                            simp only [Act.put, List.setIfInBounds_toArray, List.set_cons_zero, List.set_cons_succ, i64_w, i32_w]
                            rfl
                          refine pure_ (i := 4) (N := some 68) (v := ?_) (a' := ?_) #[true, true, true, true, true, true, false, false, false] rfl rfl (by kernel_rfl) (fun _ _ _ h => h) (Or.inl ⟨by rfl, ?_⟩) ?_ ?_
                          rotate_left
                          · intro w'
                            go_simp
                            with_reducible rfl
                          rotate_left
                          · simp only [Act.put, List.setIfInBounds_toArray, List.set_cons_zero, List.set_cons_succ, i64_w, i32_w]
                            rfl
                          refine one_ (i := 6) (N := some 70) #[true, true, true, true, true, true, true, false, false] rfl rfl (by kernel_rfl) (by decide) (fun K hK => ?_)
                          refine goesC_ Tryz.func100 (by kernel_rfl) rfl #[.pointer (some ⟨b, 0, none⟩)] #[.int .i64 1, .pointer (some ⟨b, 0, none⟩)] (by rfl) rfl rfl (by rfl) (by simp only [List.map_toArray, List.map_cons, List.map_nil, List.append_toArray, List.cons_append, List.nil_append]; rfl) ?_
                          refine (ih x _ A c b 1 1 rfl (by omega) HX.out HT.out HZ1.out (HG.out.below HB1.out) HL.out (Kd.C_below HC.out HB1.out) ((HB1.out).block b hlt ▸ BK.out)).mono ?_
                          rintro e2 w2 ⟨rfl, hb⟩
                          have HB2 := Aside0.mk (below_step HB1.out hb)
                          refine ⟨_, rfl, ?_⟩
                          clear hb
                          have z2 := pw_cell_below HB2.out cc0
                          refine hK.out _ _ ⟨z2, HB2.out⟩ (fun hHeld => ?_)
                          clear hK K z2
                          refine norm_ (a' := ?_) ?_ ?_
                          rotate_left
                          · show Act.put _ (some 70) _ = _
                            simp only [Act.put, List.setIfInBounds_toArray, List.set_cons_zero, List.set_cons_succ, i64_w, i32_w]
                            rfl
                          refine pure_ (i := 7) (N := some 71) (v := ?_) (a' := ?_) #[true, true, true, true, true, true, true, true, false] rfl rfl (by kernel_rfl) (fun _ _ _ h => h) (Or.inl ⟨by rfl, ?_⟩) ?_ ?_
                          rotate_left
                          · intro w'
                            go_simp
                            with_reducible rfl
                          rotate_left
                          · simp only [Act.put, List.setIfInBounds_toArray, List.set_cons_zero, List.set_cons_succ, i64_w, i32_w]
                            rfl
                          refine pure_ (i := 8) (N := some 2) (v := ?_) (a' := ?_) #[true, true, true, true, true, true, true, true, true] rfl rfl (by kernel_rfl) (fun _ _ _ h => h) (Or.inl ⟨by rfl, ?_⟩) ?_ ?_
                          rotate_left
                          · intro w'
                            go_simp
                            with_reducible rfl
                          rotate_left
                          · simp only [Act.put, List.setIfInBounds_toArray, List.set_cons_zero, List.set_cons_succ, i64_w, i32_w]
                            rfl
                          refine done_ (by kernel_rfl) ?_
                          go_wp2
                          go_ret
                          exact ⟨by rw [HT0.out]; rfl, below_step HB.out HB2.out⟩
                        · have g0 := bigB_false hB
                          have BI := Aside0.mk (binds_is x.f0)
                          have f00 : (x.f0.toList == [118, 97, 108]) = false := beq_eq_false_iff_ne.mpr c0
                          have f10 : (x.f0.toList == [99, 111, 108]) = false := beq_eq_false_iff_ne.mpr c1
                          have f20 : (x.f0.toList == [111, 114]) = false := beq_eq_false_iff_ne.mpr c2
                          have f30 : (x.f0.toList == [97, 110, 100]) = false := beq_eq_false_iff_ne.mpr c3
                          have f40 : (x.f0.toList == [110, 111, 116]) = false := beq_eq_false_iff_ne.mpr c4
                          have f50 : (x.f0.toList == [110, 101, 103]) = false := beq_eq_false_iff_ne.mpr c5
                          have f60 : (x.f0.toList == [105, 115, 110, 117, 108, 108]) = false := beq_eq_false_iff_ne.mpr c6
                          have f70 : (x.f0.toList == [99, 111, 117, 110, 116]) = false := beq_eq_false_iff_ne.mpr c7
                          have f80 : (x.f0.toList == [115, 117, 109]) = false := beq_eq_false_iff_ne.mpr c8
                          have f90 : (x.f0.toList == [109, 105, 110]) = false := beq_eq_false_iff_ne.mpr c9
                          have f100 : (x.f0.toList == [109, 97, 120]) = false := beq_eq_false_iff_ne.mpr c10
                          have e0 := txt_eq x
                          unfold txtB at e0
                          rw [if_neg c0, if_neg c1, if_neg c2, if_neg c3, if_neg c4, if_neg c5, if_neg c6, if_neg c7, if_neg c8, if_neg c9, if_neg c10, if_neg hB] at e0
                          clear c0 c1 c2 c3 c4 c5 c6 c7 c8 c9 c10 hB
                          have HT0 := Aside0.mk e0
                          clear e0
                          rcases g0 with g0 | g0
                          · have g4 : decide (3 < Ps.binds x.f0) = false := decide_eq_false (by omega)
                            generalize Ps.binds x.f0 = bv at BI g4 g0
                            go_wp2_with (first | (go_at_call 102; refine (parse_binds.calls 3 _ _ _ BI.out).mono ?_; rintro e w4 ⟨rfl, ⟨nd, rfl⟩⟩))
                            go_ret
                            exact ⟨by rw [HT0.out]; rfl, pw_below_drewN HB.out nd⟩
                          · have g2 : (x.f0.toList == [105, 115]) = true := g0
                            have g3 : (x.f0.toList != [105, 115]) = false := by unfold bne; rw [g2]; rfl
                            by_cases g1 : Ps.binds x.f0 > 3
                            · have g4 : decide (3 < Ps.binds x.f0) = true := decide_eq_true g1
                              generalize Ps.binds x.f0 = bv at BI g4 g1
                              go_wp2_with (first | (go_at_call 102; refine (parse_binds.calls 3 _ _ _ BI.out).mono ?_; rintro e w4 ⟨rfl, ⟨nd, rfl⟩⟩))
                              go_ret
                              exact ⟨by rw [HT0.out]; rfl, pw_below_drewN HB.out nd⟩
                            · have g4 : decide (3 < Ps.binds x.f0) = false := decide_eq_false g1
                              generalize Ps.binds x.f0 = bv at BI g4 g1
                              go_wp2_with (first | (go_at_call 102; refine (parse_binds.calls 3 _ _ _ BI.out).mono ?_; rintro e w4 ⟨rfl, ⟨nd, rfl⟩⟩))
                              go_ret
                              exact ⟨by rw [HT0.out]; rfl, pw_below_drewN HB.out nd⟩
theorem all_txtP : ∀ n, InAt n ∧ TextAt n := by
  intro n
  induction n with
  | zero =>
    refine ⟨fun x w A c b iv i _ _ h => ?_, fun x w A c h => ?_⟩
    · have := fus_pos x.f3; omega
    · have := fu_eq x; omega
  | succ n ih => exact ⟨in_step n ih.2, text_step n ih.1⟩
theorem text_out {x : S43} {w : World} {A : Option Addr} {c : Nat} (hT : TG x) (hz : (txt x).size ≤ 1000000000) (hG : GV w) (hc : x.f3.length ≤ c) (hC : Kd.C k43 w A x.f3.length x.f3) : Calls Tryz.prog 41 #[.agg (cells43 x A c).toArray] w fun e w' => e = .returned (.string (txt x)) ∧ Below w.heap.size w w' :=
  (all_txtP _).2 x w A c (Nat.le_refl _) hT hz hG hc hC
end Go.Proofs.YtcgdncpioafbdaaGreatDoor.Q
/- The laws of layer 17 are awake: a statement that a call of Parse has left in a block; awake answers true. -/
namespace Go.Proofs.YtcgdncpioafbdaaGreatDoor.Q
open Go Go.RowKit Go.Proofs.YtcgdncpioafbdaaGreatDoorW.PrintWords Go.Proofs.YtcgdncpioafbdaaGreatDoorW.PrintLast Go.Proofs.YtcgdncpioafbdaaGreatDoorW.PrintMore
def awS : ByteArray := ⟨#[115, 101, 108, 101, 99, 116, 32, 97, 32, 102, 114, 111, 109, 32, 116, 32, 119, 104, 101, 114, 101, 32, 97, 32, 43, 32, 49, 32, 42, 32, 50, 32, 61, 32, 51, 32, 108, 105, 109, 105, 116, 32, 52, 59]⟩
def awT : ByteArray := ⟨#[115, 101, 108, 101, 99, 116]⟩
theorem aw0 : (parseS awS).2 = 0 := by decide +kernel
theorem aw1 : (parseS awT).2 = 20 := by decide +kernel
theorem aw2 : (parseS awS).1.f0 = 4 := by decide +kernel
theorem aw3 : (parseS awS).1.f1.data.toList = [116] := by decide +kernel
theorem aw4 : (parseS awS).1.f10 = 4 := by decide +kernel
theorem aw5 : (parseS awS).1.f7.length = 1 := by decide +kernel
theorem aw7 : TG (rd_T43 (parseS awS).1.f7 0) := by
  exact TG_of _ (by decide +kernel)
theorem tl_data (s : ByteArray) : s.toList = s.data.toList := Lib.toList_data s
theorem aw6 : ((parseS awS).1.f7.map fun e => (txt e).data.toList) = [[40, 40, 97, 41, 43, 40, 40, 49, 41, 42, 40, 50, 41, 41, 41, 61, 40, 51, 41]] := by decide +kernel
/-- A statement in a block of its own. -/
structure Held (B : Nat) (w : World) (b : Nat) (x : S60) (a : Ads) : Prop where
  blk : w.heap[b]? = some (.cells (celA x a) 60 (0, 0))
  low : B ≤ b
  fr : StA (fun q => B ≤ q) w x a
theorem Held.below {B : Nat} {w w' : World} {b : Nat} {x : S60} {a : Ads} (h : Held B w b x a) (hb : Below w.heap.size w w') : Held B w' b x a :=
  ⟨(hb.block b (blk_lt h.blk)).trans h.blk, h.low, h.fr.below hb⟩
theorem Held.lt {B : Nat} {w : World} {b : Nat} {x : S60} {a : Ads} (h : Held B w b x a) : b < w.heap.size := blk_lt h.blk
theorem Held.new {B : Nat} {w : World} {x : S60} {a : Ads} (h : StA (fun q => B ≤ q) w x a) (hB : B ≤ w.heap.size) : Held B (w.alloc (.cells (celA x a) 60 (0, 0))) w.heap.size x a :=
  ⟨new_blk _ rfl, hB, h.below (below_alloc (Below.refl _ _) _)⟩
set_option maxHeartbeats 1000000 in
set_option maxRecDepth 100000 in
theorem store60 (w1 : World) (x : S60) (a : Ads) : Sem.run Tryz.prog (storeCells ⟨w1.heap.size, 0, none⟩ (cells60 x a.a2 a.c2 a.a4 a.c4 a.a5 a.c5 a.a6 a.c6 a.a7 a.c7)) (w1.alloc (.cells #[.int .i64 0, .string ⟨#[]⟩, .slice none 0 0, .string ⟨#[]⟩, .slice none 0 0, .slice none 0 0, .slice none 0 0, .slice none 0 0, .string ⟨#[]⟩, .bool false, .int .i64 0] 60 (0, 0))) = .ok () (w1.alloc (.cells (celA x a) 60 (0, 0))) := by
  unfold cells60 celA
  go_simp
  rfl
theorem cells60_len (x : S60) (A2 : Option Addr) (c2 : Nat) (A4 : Option Addr) (c4 : Nat) (A5 : Option Addr) (c5 : Nat) (A6 : Option Addr) (c6 : Nat) (A7 : Option Addr) (c7 : Nat) : (cells60 x A2 c2 A4 c4 A5 c5 A6 c6 A7 c7).length = 11 := rfl
attribute [local go_sem high] store60 cells60_len
set_option maxHeartbeats 1000000 in
set_option maxRecDepth 100000 in
theorem awake_calls {w : World} (hG : GV w) : Calls Tryz.prog 40 #[] w fun e w' => e = .returned (.bool true) ∧ Below w.heap.size w w' := by
  have HG := Aside0.mk hG
  clear hG
  have HB := Aside0.mk (Below.refl w.heap.size w)
  go_enter Tryz.func40, Tryz.ntmps40
  obtain ⟨x1, hx1⟩ : ∃ x, (parseS (awS)).1 = x := ⟨_, rfl⟩
  obtain ⟨c1, hc1⟩ : ∃ c, (parseS (awS)).2 = c := ⟨_, rfl⟩
  have HX1 := Aside0.mk hx1
  have E1 := Aside0.mk hc1
  have PC1 : Aside0 (∀ v : World, GV v → Calls Tryz.prog 46 #[.string (awS)] v fun e w' => ∃ a : Ads, e = .returned (.tuple #[.agg (celA x1 a), .int .i64 c1]) ∧ StA (fun q => v.heap.size ≤ q) w' x1 a ∧ Below v.heap.size v w') := ⟨by
    intro v hv
    refine (parse_calls (awS) hv).mono ?_
    rintro e w' ⟨u, rfl, ⟨a, rfl, hF⟩, hb⟩
    exact ⟨a, by rw [HX1.out, E1.out], by rw [← HX1.out]; exact hF, hb⟩⟩
  clear hx1 hc1
  go_upto_region 2 with (first | (go_at_call 46; refine (PC1.out _ HG.out).mono ?_; rintro e v1 ⟨a1, rfl, hF, hb⟩; have HF1 := Aside0.mk hF; have HV1 := Aside0.mk (below_step HB.out hb); have HW1 := Aside0.mk hb; clear hF hb))
  have HD1 := Aside0.mk (Held.new HF1.out HW1.out.size)
  have HA1 := Aside0.mk (below_alloc HV1.out (.cells (celA x1 a1) 60 (0, 0)))
  have HU1 := Aside0.mk (below_alloc HW1.out (.cells (celA x1 a1) 60 (0, 0)))
  have HG1 := Aside0.mk (HG.out.below HU1.out)
  generalize hb1 : v1.heap.size = b1 at HD1 ⊢
  generalize hW1 : v1.alloc (.cells (celA x1 a1) 60 (0, 0)) = W1 at HD1 HA1 HG1  ⊢
  clear hb1 hW1 HF1 HV1 HW1 HU1 PC1
  obtain ⟨x2, hx2⟩ : ∃ x, (parseS (awT)).1 = x := ⟨_, rfl⟩
  obtain ⟨c2, hc2⟩ : ∃ c, (parseS (awT)).2 = c := ⟨_, rfl⟩
  have HX2 := Aside0.mk hx2
  have E2 := Aside0.mk hc2
  have PC2 : Aside0 (∀ v : World, GV v → Calls Tryz.prog 46 #[.string (awT)] v fun e w' => ∃ a : Ads, e = .returned (.tuple #[.agg (celA x2 a), .int .i64 c2]) ∧ StA (fun q => v.heap.size ≤ q) w' x2 a ∧ Below v.heap.size v w') := ⟨by
    intro v hv
    refine (parse_calls (awT) hv).mono ?_
    rintro e w' ⟨u, rfl, ⟨a, rfl, hF⟩, hb⟩
    exact ⟨a, by rw [HX2.out, E2.out], by rw [← HX2.out]; exact hF, hb⟩⟩
  clear hx2 hc2
  go_upto_region 3 with (first | (go_at_call 46; refine (PC2.out _ HG1.out).mono ?_; rintro e v2 ⟨a2, rfl, hF, hb⟩; have HF2 := Aside0.mk hF; have HV2 := Aside0.mk (below_step HA1.out hb); have HW2 := Aside0.mk hb; clear hF hb))
  have HD2 := Aside0.mk (Held.new HF2.out HW2.out.size)
  have HA2 := Aside0.mk (below_alloc HV2.out (.cells (celA x2 a2) 60 (0, 0)))
  have HU2 := Aside0.mk (below_alloc HW2.out (.cells (celA x2 a2) 60 (0, 0)))
  have HD1_ := Aside0.mk (HD1.out.below HU2.out)
  clear HD1
  have HD1 := HD1_
  clear HD1_
  have HG2 := Aside0.mk (HG1.out.below HU2.out)
  generalize hb2 : v2.heap.size = b2 at HD2 ⊢
  generalize hW2 : v2.alloc (.cells (celA x2 a2) 60 (0, 0)) = W2 at HD2 HA2 HG2 HD1 ⊢
  clear hb2 hW2 HF2 HV2 HW2 HU2 PC2
  have r1c0 : W2.cell? ⟨b1, 0, none⟩ = some (.int .i64 x1.f0) := (blk_cell HD1.out.blk 0).trans rfl
  have r1c1 : W2.cell? ⟨b1, 1, none⟩ = some (.string x1.f1) := (blk_cell HD1.out.blk 1).trans rfl
  have r1c7 : W2.cell? ⟨b1, 7, none⟩ = some (.slice a1.a7 x1.f7.length a1.c7) := (blk_cell HD1.out.blk 7).trans rfl
  have r1c10 : W2.cell? ⟨b1, 10, none⟩ = some (.int .i64 x1.f10) := (blk_cell HD1.out.blk 10).trans rfl
  have r1lt := HD1.out.lt
  have y0 : c1 = 0 := by rw [← E1.out]; exact aw0
  have y1 : c2 = 20 := by rw [← E2.out]; exact aw1
  have y2 : (x1.f0 == 4) = true := by rw [← HX1.out, aw2]; decide
  have y3 : (x1.f1.toList == [116]) = true := by rw [← HX1.out, tl_data, aw3]; decide
  have y4 : (x1.f10 == 4) = true := by rw [← HX1.out, aw4]; decide
  have l7 : x1.f7.length = 1 := by rw [← HX1.out]; exact aw5
  have HC := Aside0.mk (Kd.F_now HD1.out.fr.f7)
  have p1 : (0 : Int) < (x1.f7.length : Int) := by omega
  obtain ⟨ad, A5, c5, e5, q0, q1, q2, q3, q4, q5, hl5, hi5⟩ := at_T43 HC.out 0 (by omega) p1
  have y5 : ((x1.f7.length : Int) == 1) = true := by rw [l7]; decide
  have htx : (txt (rd_T43 x1.f7 0)).data.toList = [40, 40, 97, 41, 43, 40, 40, 49, 41, 42, 40, 50, 41, 41, 41, 61, 40, 51, 41] := by
    have h := aw6
    rw [HX1.out] at h
    cases hf : x1.f7 with
    | nil => rw [hf] at l7; cases l7
    | cons z r => rw [hf] at h; simp only [List.map_cons, List.cons.injEq] at h; exact h.1
  have y6 : ((txt (rd_T43 x1.f7 0)).toList == [40, 40, 97, 41, 43, 40, 40, 49, 41, 42, 40, 50, 41, 41, 41, 61, 40, 51, 41]) = true := by rw [tl_data, htx]; decide
  have HS := Aside0.mk (show (txt (rd_T43 x1.f7 0)).size ≤ 1000000000 by rw [← len_data, htx]; decide)
  have HT := Aside0.mk (show TG (rd_T43 x1.f7 0) by rw [← HX1.out]; exact aw7)
  generalize rd_T43 x1.f7 0 = z at q0 q1 q2 q3 q4 q5 hl5 hi5 y6 HS HT
  have HL := Aside0.mk hl5
  have HI := Aside0.mk hi5
  subst y0 y1
  have p2 : (0 < x1.f7.length) = True := eq_true (by omega)
  replace p1 := eq_true p1
  simp only [Int.toNat_zero, Nat.zero_mul, addr0] at q0 q1 q2 q3 q4 q5
  clear hl5 hi5 htx l7
  rw [e5] at r1c7
  go_wp2_with (first | (go_at_call 41; refine (text_out (x := z) (A := A5) (c := c5) HT.out HS.out HG2.out HL.out HI.out).mono ?_; rintro e w3 ⟨rfl, hb⟩; have HB3 := Aside0.mk hb; clear hb))
  go_ret
  exact ⟨rfl, below_step HA2.out HB3.out⟩
end Go.Proofs.YtcgdncpioafbdaaGreatDoor.Q
/- Tokens' letters one behind the other, with or without blanks between: the lexer gives these tokens, where no letter behind a token goes on with it. -/
namespace Go.Proofs.YtcgdncpioafbdaaGreatDoor.Lx
open Go Go.Proofs.YtcgdncpioafbdaaGreatDoor.Q
end Go.Proofs.YtcgdncpioafbdaaGreatDoor.Lx
/- Plain: what Parse makes of a word where a name may stand. -/
namespace Go.Proofs.YtcgdncpioafbdaaGreatDoor.Q
open Go Go.RowKit Go.Proofs.YtcgdncpioafbdaaGreatDoorW.PrintWords
/-! ### Reserved -/
/-! ### Texts -/
theorem data_app (a b : ByteArray) : (a ++ b).data.toList = a.data.toList ++ b.data.toList := by simp
theorem parseS_toks {s : ByteArray} {ts : List Lx.Tk} (hs : s.size ≤ 4000) (h : Lx.toks s.data.toList = .ok ts) : parseS s = parseA (ts.map tk32 ++ [z32]) := by
  unfold parseS tokF
  rw [Lx.lexA_toks, if_neg (by rw [len_data]; omega), h]
  rfl
end Go.Proofs.YtcgdncpioafbdaaGreatDoor.Q
/- Plain: what Parse makes of a text with semicolons, in great letters, with a remark behind. -/
namespace Go.Proofs.YtcgdncpioafbdaaGreatDoor.Q
open Go Go.RowKit Go.Proofs.YtcgdncpioafbdaaGreatDoorW.PrintWords
theorem parseS_err {s : ByteArray} {e : Nat} (hs : s.size ≤ 4000) (h : Lx.toks s.data.toList = .error e) : parseS s = (z60, (e : Int)) ∧ e ≠ 0 := by
  have h0 := tok_err0 h
  refine ⟨?_, h0⟩
  unfold parseS tokF
  rw [Lx.lexA_toks, if_neg (by rw [len_data]; omega), h]
  show parseP ([], (e : Int)) = _
  unfold parseP
  rw [if_neg (by simp only; omega)]
theorem tok_shape {t : Lx.Tk} (h : Lx.Good t) : (tk32 t).f0 ≠ 0 ∧ (Ps.Cln (tk32 t) ∨ tk32 t = Ps.semiT) := by
  rcases h with h | h | h | h
  · have hk : (tk32 t).f0 = 1 := by show ((t.kind : Nat) : Int) = 1; rw [h.kind]; rfl
    refine ⟨by rw [hk]; decide, .inl ⟨by rw [hk]; decide, fun _ => ?_⟩⟩
    obtain ⟨c, r, hs, hl⟩ := h.head
    show (ba t.s).toList ≠ [59]
    rw [tl_data, ba_data, hs]
    intro e
    cases e
    exact absurd hl (by decide)
  · have hk : (tk32 t).f0 = 2 := by show ((t.kind : Nat) : Int) = 2; rw [h.kind]; rfl
    exact ⟨by rw [hk]; decide, .inl ⟨by rw [hk]; decide, fun h2 => by rw [hk] at h2; rcases h2 with h2 | h2 <;> exact absurd h2 (by decide)⟩⟩
  · have hk : (tk32 t).f0 = 3 := by show ((t.kind : Nat) : Int) = 3; rw [h.kind]; rfl
    exact ⟨by rw [hk]; decide, .inl ⟨by rw [hk]; decide, fun h2 => by rw [hk] at h2; rcases h2 with h2 | h2 <;> exact absurd h2 (by decide)⟩⟩
  · have hk : (tk32 t).f0 = 4 := by show ((t.kind : Nat) : Int) = 4; rw [h.kind]; rfl
    refine ⟨by rw [hk]; decide, ?_⟩
    by_cases h59 : t.s = [59]
    · right
      obtain ⟨k, s, n⟩ := t
      have h1 := h.kind
      have h2 := h.n
      simp only at h1 h2 h59
      subst h1 h2 h59
      rfl
    · left
      refine ⟨by rw [hk]; decide, fun _ => ?_⟩
      show (ba t.s).toList ≠ [59]
      rw [tl_data, ba_data]
      exact h59
theorem toks_good' {l : List UInt8} {ts : List Lx.Tk} (h : Lx.toks l = .ok ts) : ∀ t ∈ ts, Lx.Good t := (toks_few _ _ ts (Nat.le_refl _) h).2
theorem toks_shape {l : List UInt8} {ts : List Lx.Tk} (h : Lx.toks l = .ok ts) : ∀ t ∈ ts.map tk32, t.f0 ≠ 0 ∧ (Ps.Cln t ∨ t = Ps.semiT) := by
  intro t ht
  obtain ⟨u, hu, rfl⟩ := List.mem_map.1 ht
  exact tok_shape (toks_good' h u hu)
/-- A sign's letters stand in the text. -/
theorem toks_mem : ∀ (n : Nat) (l : List UInt8) (ts : List Lx.Tk), l.length ≤ n → Lx.toks l = .ok ts → ∀ t ∈ ts, t.kind = 4 → ∀ c ∈ t.s, c ∈ l := by
  intro n
  induction n with
  | zero =>
    intro l ts hl h
    have h0 := List.length_eq_zero_iff.1 (Nat.le_zero.1 hl)
    subst h0
    rw [Lx.toks_nil (by rfl)] at h
    cases h
    intro t ht
    cases ht
  | succ n ih =>
    intro l ts hl h
    cases hs : Lx.skipA false l with
    | nil => rw [Lx.toks_nil hs] at h; cases h; intro t ht; cases ht
    | cons c r =>
      have hsuf := Lx.skipA_suffix false l
      rw [hs] at hsuf
      cases ht : Lx.tokA (c :: r) with
      | error e => rw [Lx.toks_err hs ht] at h; cases h
      | ok p =>
        obtain ⟨t, m⟩ := p
        rw [Lx.toks_ok hs ht] at h
        have h1 := Lx.tokA_le ht
        have h2 : (c :: r).drop m <:+ l := (List.drop_suffix m _).trans hsuf
        cases hr : Lx.toks ((c :: r).drop m) with
        | error e => rw [hr] at h; cases h
        | ok us =>
          rw [hr] at h
          cases h
          intro u hu hk x hx
          rcases List.mem_cons.1 hu with rfl | hu
          · refine hsuf.subset ?_
            simp only [Lx.tokA] at ht
            split at ht
            · unfold Lx.wordA at ht
              split at ht
              · cases ht
              · cases ht; simp at hk
            · split at ht
              · unfold Lx.numA at ht
                split at ht
                · cases ht
                · split at ht
                  · cases ht
                  · cases ht; simp at hk
              · split at ht
                · unfold Lx.textA at ht
                  split at ht
                  · cases ht
                  · split at ht
                    · cases ht
                    · cases ht; simp at hk
                · unfold Lx.signT at ht
                  split at ht
                  · cases ht
                  · rename_i v hv
                    cases ht
                    unfold Lx.signA at hv
                    split at hv
                    · cases hv
                      exact List.mem_of_mem_take hx
                    · simp only at hv
                      split at hv
                      · cases hv
                        simp only [List.mem_singleton] at hx
                        rw [hx]; simp
                      · cases hv
          · exact h2.subset (ih _ us (by have := hsuf.length_le; rw [List.length_drop]; omega) hr u hu hk x hx)
def great (s : ByteArray) : ByteArray := ba (s.data.toList.map Lx.upB)
def remB : ByteArray := ⟨#[10, 45, 45, 32, 97, 32, 114, 101, 109, 97, 114, 107, 39, 115, 32, 101, 110, 100]⟩
structure Plain (s : ByteArray) : Prop where
  quote : 39 ∉ s.data.toList
  dash : Lx.dash2 s.data.toList = false
  len : s.size ≤ 1000
theorem parse_eq {s t : ByteArray} (hs : s.size ≤ 4000) (ht : t.size ≤ 4000) (h : Lx.toks s.data.toList = Lx.toks t.data.toList) : parseS s = parseS t := by
  cases hk : Lx.toks t.data.toList with
  | error e => rw [(parseS_err ht hk).1, (parseS_err hs (h.trans hk)).1]
  | ok ts => rw [parseS_toks ht hk, parseS_toks hs (h.trans hk)]
theorem great_size (s : ByteArray) : (great s).size = s.size := by unfold great; rw [ba_size, List.length_map, len_data]
theorem bl_great {s : ByteArray} (h : Plain s) : parseS (great s ++ remB) = parseS s := by
  have e18 : remB.size = 18 := rfl
  refine parse_eq (by rw [ByteArray.size_append, great_size, e18]; have := h.len; omega) (by have := h.len; omega) ?_
  rw [data_app]
  unfold great
  rw [ba_data]
  have hq : 39 ∉ s.data.toList.map Lx.upB := by
    intro hm
    obtain ⟨c, hc, he⟩ := List.mem_map.1 hm
    have := Lx.up_39 c
    rw [he] at this
    have h2 : c = 39 := by simpa using this.symm
    exact h.quote (h2 ▸ hc)
  have e : remB.data.toList = 10 :: [45, 45, 32, 97, 32, 114, 101, 109, 97, 114, 107, 39, 115, 32, 101, 110, 100] := rfl
  rw [e, Lx.toks_remark _ _ hq (by decide), Lx.toks_up _ _ (Nat.le_refl _) h.quote h.dash]
theorem bl_two {s : ByteArray} (h : Plain s) : (parseS (s ++ (⟨#[59, 59]⟩ : ByteArray))).2 ≠ 0 := by
  have e2 : (⟨#[59, 59]⟩ : ByteArray).size = 2 := rfl
  have hs : (s ++ (⟨#[59, 59]⟩ : ByteArray)).size ≤ 4000 := by rw [ByteArray.size_append, e2]; have := h.len; omega
  have hd : (s ++ (⟨#[59, 59]⟩ : ByteArray)).data.toList = s.data.toList ++ 59 :: [59] := by rw [data_app]
  obtain ⟨g1, g2⟩ := Lx.toks_semi _ s.data.toList [59] (Nat.le_refl _) h.quote h.dash
  cases hk : Lx.toks s.data.toList with
  | error e =>
    have := parseS_err hs ((congrArg Lx.toks hd).trans (g1 e hk))
    rw [this.1]
    simp only
    have := this.2
    omega
  | ok ts =>
    have h2 : Lx.toks [59, 59] = .ok [⟨4, [59], 0⟩, ⟨4, [59], 0⟩] := by rfl
    have h3 : Lx.toks (s ++ (⟨#[59, 59]⟩ : ByteArray)).data.toList = .ok (ts ++ [⟨4, [59], 0⟩, ⟨4, [59], 0⟩]) := by
      rw [hd, g2 ts hk, h2]; rfl
    rw [parseS_toks hs h3]
    have e : (ts ++ [(⟨4, [59], 0⟩ : Lx.Tk), ⟨4, [59], 0⟩]).map tk32 ++ [z32] = ts.map tk32 ++ [Ps.semiT, Ps.semiT, z32] := by
      rw [List.map_append, List.append_assoc]; rfl
    rw [e]
    unfold parseA
    rw [(Ps.read_two KP (toks_shape hk)).1]
    decide
theorem bl_one {s : ByteArray} (h : Plain s) (h0 : (parseS s).2 = 0) : parseS (s ++ (⟨#[32, 59]⟩ : ByteArray)) = parseS s ∨ ((parseS (s ++ (⟨#[32, 59]⟩ : ByteArray))).2 = 20 ∧ 59 ∈ s.data.toList) := by
  have e2 : (⟨#[32, 59]⟩ : ByteArray).size = 2 := rfl
  have hs : (s ++ (⟨#[32, 59]⟩ : ByteArray)).size ≤ 4000 := by rw [ByteArray.size_append, e2]; have := h.len; omega
  have hs0 : s.size ≤ 4000 := by have := h.len; omega
  have hd : (s ++ (⟨#[32, 59]⟩ : ByteArray)).data.toList = s.data.toList ++ 32 :: [59] := by rw [data_app]
  cases hk : Lx.toks s.data.toList with
  | error e =>
    have := parseS_err hs0 hk
    rw [this.1] at h0
    exact absurd h0 (by simp only; have := this.2; omega)
  | ok ts =>
    have h2 : Lx.toks [59] = .ok [⟨4, [59], 0⟩] := by rfl
    have h3 : Lx.toks (s ++ (⟨#[32, 59]⟩ : ByteArray)).data.toList = .ok (ts ++ [⟨4, [59], 0⟩]) := by
      rw [hd, Lx.toks_space _ _ h.quote h.dash ts hk, h2]; rfl
    rw [parseS_toks hs0 hk] at h0 ⊢
    rw [parseS_toks hs h3]
    have e : (ts ++ [(⟨4, [59], 0⟩ : Lx.Tk)]).map tk32 ++ [z32] = ts.map tk32 ++ [Ps.semiT, z32] := by
      rw [List.map_append, List.append_assoc]; rfl
    rw [e]
    have h4 := (Ps.read_two KP (toks_shape hk)).2
    cases hr : Ps.read KP (ts.map tk32 ++ [z32]) with
    | none =>
      unfold parseA at h0
      rw [hr] at h0
      exact absurd h0 (by decide)
    | some x =>
      rcases h4 x hr with h5 | ⟨h5, h6⟩
      · left
        unfold parseA
        rw [h5, hr]
      · right
        refine ⟨by unfold parseA; rw [h5], ?_⟩
        obtain ⟨t, ht, he⟩ := List.mem_map.1 h6
        have h7 : t.kind = 4 := by
          have h8 : ((t.kind : Nat) : Int) = 4 := congrArg S32.f0 he
          omega
        have h9 : ba t.s = ba [59] := congrArg S32.f1 he
        have h10 : t.s = [59] := by rw [← ba_data t.s, h9, ba_data]
        exact toks_mem _ _ ts (Nat.le_refl _) hk t ht h7 59 (by rw [h10]; simp)
theorem fus_le {B : Nat} : ∀ l : List S43, (∀ e ∈ l, fu e ≤ B) → fus l ≤ B + l.length + 1
  | [], _ => by simp [fus]
  | x :: l, h => by
    have h1 := fus_le l (fun e he => h e (by simp [he]))
    have h2 := h x (by simp)
    rw [fus]
    simp only [List.length_cons]
    omega
theorem sameOk_zero : SameOk z60 := by
  refine ⟨by decide, by decide, by decide, fun r h => (by cases h), ?_, ?_, fun s h => (by cases h)⟩ <;> (show fus [] ≤ _; simp [fus])
theorem sameOk_parse (s : ByteArray) : SameOk (parseS s).1 := by
  cases h : tokF s with
  | none => unfold parseS; rw [h]; exact sameOk_zero
  | some p =>
    obtain ⟨ts, c⟩ := p
    have e : parseS s = parseP (ts, c) := by unfold parseS; rw [h]
    rw [e]
    unfold parseP
    by_cases hc : c = 0
    · rw [if_pos hc]
      have hT := tok_toks h hc
      unfold parseA
      cases hr : Ps.read KP ts with
      | none => exact sameOk_zero
      | some x =>
        simp only
        by_cases hl : longB x = true
        · rw [if_pos hl]; exact sameOk_zero
        · rw [if_neg hl]
          split
          · exact sameOk_zero
          · have g := read_good hr hT.short
            unfold longB at hl
            simp only [Bool.or_eq_true, not_or, List.any_eq_true, decide_eq_true_eq] at hl
            obtain ⟨⟨⟨⟨⟨l1, l2⟩, l3⟩, l4⟩, l5⟩, _⟩ := hl
            have hB : BB KP ≤ 1000000000000 := by decide
            refine ⟨by show x.f2.length ≤ _; omega, by show x.f4.length ≤ _; omega, by show x.f6.length ≤ _; omega, fun r hr2 => ?_, ?_, ?_, fun t ht => ?_⟩
            · have h1 := fus_le r (g.e4 r hr2)
              have h2 : ¬ 20 < r.length := fun h => l1 ⟨r, hr2, h⟩
              omega
            · have h1 := fus_le x.f5 g.e5
              show fus x.f5 ≤ _
              omega
            · have h1 := fus_le x.f7 g.e7
              have := g.n7
              show fus x.f7 ≤ _
              omega
            · have := (g.e6 t ht).1
              omega
    · rw [if_neg hc]; exact sameOk_zero
end Go.Proofs.YtcgdncpioafbdaaGreatDoor.Q
-- Written by a program of this seat (wip/pr.py, by way of the kit's print) out of the translation; Lean checks it.
namespace Go.Proofs.YtcgdncpioafbdaaGreatDoor.Q
open Go.RowKit Go.Proofs.YtcgdncpioafbdaaGreatDoorW.PrintWords Go.Proofs.YtcgdncpioafbdaaGreatDoorW.PrintLast Go.Proofs.YtcgdncpioafbdaaGreatDoorW.PrintMore
attribute [local go_sem] max2_int min2_int max_two min_two max_three min_three max_four min_four   -- for this text's walks alone
set_option linter.unusedVariables false
set_option linter.unusedSimpArgs false
/-! ### vidimuslaw17_minus: function 45 -/
mutual
def vidimuslaw17_minus.l0 : Nat → List (S43) → Int → Int → Option (Bool)
  | 0, _, _, _ => none
  | k + 1, x10, x11, x12 => if x12 < x11 then (if 0 ≤ x12 then (if x12 < (x10.length : Int) then ((vidimuslaw17_minus.f k ((rd_T43 x10 x12).f0) ((rd_T43 x10 x12).f1.f0) ((rd_T43 x10 x12).f1.f1) ((rd_T43 x10 x12).f1.f2) ((rd_T43 x10 x12).f2) ((rd_T43 x10 x12).f3)).bind fun t117 => (if t117 = true then (some true) else (vidimuslaw17_minus.l0 k x10 x11 (wrap64 (x12 + 1))))) else (none)) else (none)) else (some false)
def vidimuslaw17_minus.f : Nat → ByteArray → Int → Int → ByteArray → ByteArray → List (S43) → Option (Bool)
  | 0, _, _, _, _, _, _ => none
  | k + 1, a0_0, a0_1, a0_2, a0_3, a0_4, l0_5 => if a0_2 < 0 then (some true) else (vidimuslaw17_minus.l0 k l0_5 (l0_5.length : Int) 0)
end
/-! ### vidimuslaw17_Name: function 72 -/
def vidimuslaw17_Name.l0 : Nat → ByteArray → Int → Option (ByteArray)
  | 0, _, _ => none
  | k + 1, x0, x3 => if x3 < (x0.size : Int) then (if x3 < 10 then (if 0 ≤ x3 then (if (bt x0 x3) ≥ 97 then (if (bt x0 x3) ≤ 122 then (vidimuslaw17_Name.l0 k x0 (wrap64 (x3 + 1))) else (if x3 = 0 then (some (⟨#[120]⟩ : ByteArray)) else (if x3 ≤ (x0.size : Int) then ((vidimusref17_Reserved.f k (x0.extract 0 (x3 : Int).toNat)).bind fun t122 => (if t122 = true then (some (⟨#[120]⟩ : ByteArray)) else (some (x0.extract 0 (x3 : Int).toNat)))) else (none)))) else (if x3 = 0 then (some (⟨#[120]⟩ : ByteArray)) else (if x3 ≤ (x0.size : Int) then ((vidimusref17_Reserved.f k (x0.extract 0 (x3 : Int).toNat)).bind fun t123 => (if t123 = true then (some (⟨#[120]⟩ : ByteArray)) else (some (x0.extract 0 (x3 : Int).toNat)))) else (none)))) else (none)) else (if x3 = 0 then (some (⟨#[120]⟩ : ByteArray)) else (if 0 ≤ x3 then (if x3 ≤ (x0.size : Int) then ((vidimusref17_Reserved.f k (x0.extract 0 (x3 : Int).toNat)).bind fun t124 => (if t124 = true then (some (⟨#[120]⟩ : ByteArray)) else (some (x0.extract 0 (x3 : Int).toNat)))) else (none)) else (none)))) else (if x3 = 0 then (some (⟨#[120]⟩ : ByteArray)) else (if 0 ≤ x3 then (if x3 ≤ (x0.size : Int) then ((vidimusref17_Reserved.f k (x0.extract 0 (x3 : Int).toNat)).bind fun t125 => (if t125 = true then (some (⟨#[120]⟩ : ByteArray)) else (some (x0.extract 0 (x3 : Int).toNat)))) else (none)) else (none)))
def vidimuslaw17_Name.f (k : Nat) (a0 : ByteArray) : Option (ByteArray) := vidimuslaw17_Name.l0 k a0 0
/-! ### vidimuslaw17_ends: function 49 -/
def vidimuslaw17_ends.l0 : Nat → ByteArray → Int → Int → Option (Bool)
  | 0, _, _, _ => none
  | k + 1, x0, x5, x6 => if x6 < x5 then (if 0 ≤ x6 then (if x6 < (x0.size : Int) then (if (bt x0 x6) = 59 then (some true) else (vidimuslaw17_ends.l0 k x0 x5 (wrap64 (x6 + 1)))) else (none)) else (none)) else (some false)
def vidimuslaw17_ends.f (k : Nat) (a0 : ByteArray) : Option (Bool) := vidimuslaw17_ends.l0 k a0 (a0.size : Int) 0
end Go.Proofs.YtcgdncpioafbdaaGreatDoor.Q
-- Written by a program of this seat (wip/pr.py, by way of the kit's print) out of the translation; Lean checks it.
namespace Go.Proofs.YtcgdncpioafbdaaGreatDoor.Q
open Go.RowKit Go.Proofs.YtcgdncpioafbdaaGreatDoorW.PrintWords Go.Proofs.YtcgdncpioafbdaaGreatDoorW.PrintLast Go.Proofs.YtcgdncpioafbdaaGreatDoorW.PrintMore
attribute [local go_sem] max2_int min2_int max_two min_two max_three min_three max_four min_four   -- for this text's walks alone
set_option linter.unusedVariables false
set_option linter.unusedSimpArgs false
/-! ### vidimuslaw17_minus: function 45 -/
set_option maxHeartbeats 8000000 in
set_option maxRecDepth 100000 in
theorem vidimuslaw17_minus.calls (k : Nat) : ∀ (a0_0 : ByteArray) (a0_1 : Int) (a0_2 : Int) (a0_3 : ByteArray) (a0_4 : ByteArray) (A0_5 : Option Addr) (c0_5 : Nat) (l0_5 : List (S43)) (r : Bool) (w : World) (hr0_5 : Kd.C k43 w A0_5 l0_5.length l0_5) (hc0_5 : l0_5.length ≤ c0_5) (h : vidimuslaw17_minus.f k a0_0 a0_1 a0_2 a0_3 a0_4 l0_5 = some r),
    Calls Tryz.prog 45 #[.agg #[.string a0_0, .int .i64 a0_1, .int .i64 a0_2, .string a0_3, .string a0_4, .slice A0_5 l0_5.length c0_5]] w fun e w' => e = .returned (.bool r) ∧ Below w.heap.size w w' := by
  induction k using Nat.strongRecOn with
  | _ k ih =>
  intro a0_0 a0_1 a0_2 a0_3 a0_4 A0_5 c0_5 l0_5 r w hr0_5 hc0_5 h
  cases k with
  | zero => exact absurd h (by simp [vidimuslaw17_minus.f])
  | succ k =>
  simp only [vidimuslaw17_minus.f] at h
  have hu43 := Tryz.underlying43
  have HR0_5 := Aside0.mk hr0_5
  have HC0_5 := Aside0.mk hc0_5
  clear hr0_5 hc0_5
  have HB := Aside0.mk (Below.refl w.heap.size w)
  have H : (if a0_2 < 0 then (some true) else (vidimuslaw17_minus.l0 k l0_5 (l0_5.length : Int) 0)) = some r := h
  clear h
  by_cases c2 : a0_2 < 0
  · rw [if_pos c2] at H
    have c2b0 : decide (a0_2 < 0) = true := decide_eq_true c2
    clear c2
    obtain rfl := Option.some.inj H
    go_enter Tryz.func45, Tryz.ntmps45
    go_wp2_with (first | ((with_reducible refine gate_dst (N := 1) rfl ?_); refine box_event ?hg (N := 1) ?hd (cs := #[.string a0_0, .int .i64 a0_1, .int .i64 a0_2, .string a0_3, .string a0_4, .slice A0_5 l0_5.length c0_5]) (t := 43) ?hr ?_; (case hd => rfl); (case hg => rfl); (case hr => first | (go_simp; done) | (go_simp; rfl)); intro gb114 hg w3 hbox hb; have n0_ := Aside0.mk (below_step (by repeat (first | (with_reducible first | exact HB.out | apply below_alloc | apply pw_below_drewN | apply below_drew1) | exact HB.out)) hb); have n1_ := Aside0.mk (hbox); have n2_ := Aside0.mk ((by rw [hg]; exact (below_size (by repeat (first | (with_reducible first | exact HB.out | apply below_alloc | apply pw_below_drewN | apply below_drew1) | exact HB.out))) : w.heap.size ≤ gb114)); have n3_ := Aside0.mk ((by rw [hg]; exact (below_size (by repeat (first | (with_reducible first | exact HB.out | apply below_alloc | apply pw_below_drewN | apply below_drew1) | exact HB.out))) : w.heap.size ≤ gb114)); clear HB; have HB := n0_; have BK114 := n1_; have GW114 := n2_; have GE114 := n3_; clear n0_ n1_ n2_ n3_; clear hb hbox hg; have hcz4_0 : w3.cell? ⟨gb114, 0, none⟩ = some (.string a0_0) := (blk_cell BK114.out 0).trans rfl; have hcz4_1 : w3.cell? ⟨gb114, 1, none⟩ = some (.int .i64 a0_1) := (blk_cell BK114.out 1).trans rfl; have hcz4_2 : w3.cell? ⟨gb114, 2, none⟩ = some (.int .i64 a0_2) := (blk_cell BK114.out 2).trans rfl; have hcz4_3 : w3.cell? ⟨gb114, 3, none⟩ = some (.string a0_3) := (blk_cell BK114.out 3).trans rfl; have hcz4_4 : w3.cell? ⟨gb114, 4, none⟩ = some (.string a0_4) := (blk_cell BK114.out 4).trans rfl; have hcz4_5 : w3.cell? ⟨gb114, 5, none⟩ = some (.slice A0_5 l0_5.length c0_5) := (blk_cell BK114.out 5).trans rfl; have hfz4_0 := blk_frozen BK114.out 0; have hfz4_1 := blk_frozen BK114.out 1; have hfz4_2 := blk_frozen BK114.out 2; have hfz4_3 := blk_frozen BK114.out 3; have hfz4_4 := blk_frozen BK114.out 4; have hfz4_5 := blk_frozen BK114.out 5))
    go_ret
    exact ⟨by first | rfl | (simp [errW_none, errW_some] <;> rfl) | (simp [*, errW_none, errW_some] <;> rfl), by repeat (first | (with_reducible first | exact HB.out | apply below_alloc | apply pw_below_drewN | apply below_drew1 | refine below_set ?_ GE114.out) | exact HB.out)⟩
  · rw [if_neg c2] at H
    have c2b0 : decide (a0_2 < 0) = false := decide_eq_false c2
    clear c2
    have H' := Aside0.mk H
    clear H
    go_enter Tryz.func45, Tryz.ntmps45
    go_wp2_with (first | ((with_reducible refine gate_dst (N := 1) rfl ?_); refine box_event ?hg (N := 1) ?hd (cs := #[.string a0_0, .int .i64 a0_1, .int .i64 a0_2, .string a0_3, .string a0_4, .slice A0_5 l0_5.length c0_5]) (t := 43) ?hr ?_; (case hd => rfl); (case hg => rfl); (case hr => first | (go_simp; done) | (go_simp; rfl)); intro gb114 hg w5 hbox hb; have n0_ := Aside0.mk (below_step (by repeat (first | (with_reducible first | exact HB.out | apply below_alloc | apply pw_below_drewN | apply below_drew1) | exact HB.out)) hb); have n1_ := Aside0.mk (hbox); have n2_ := Aside0.mk ((by rw [hg]; exact (below_size (by repeat (first | (with_reducible first | exact HB.out | apply below_alloc | apply pw_below_drewN | apply below_drew1) | exact HB.out))) : w.heap.size ≤ gb114)); have n3_ := Aside0.mk ((by rw [hg]; exact (below_size (by repeat (first | (with_reducible first | exact HB.out | apply below_alloc | apply pw_below_drewN | apply below_drew1) | exact HB.out))) : w.heap.size ≤ gb114)); clear HB; have HB := n0_; have BK114 := n1_; have GW114 := n2_; have GE114 := n3_; clear n0_ n1_ n2_ n3_; clear hb hbox hg; have hcz6_0 : w5.cell? ⟨gb114, 0, none⟩ = some (.string a0_0) := (blk_cell BK114.out 0).trans rfl; have hcz6_1 : w5.cell? ⟨gb114, 1, none⟩ = some (.int .i64 a0_1) := (blk_cell BK114.out 1).trans rfl; have hcz6_2 : w5.cell? ⟨gb114, 2, none⟩ = some (.int .i64 a0_2) := (blk_cell BK114.out 2).trans rfl; have hcz6_3 : w5.cell? ⟨gb114, 3, none⟩ = some (.string a0_3) := (blk_cell BK114.out 3).trans rfl; have hcz6_4 : w5.cell? ⟨gb114, 4, none⟩ = some (.string a0_4) := (blk_cell BK114.out 4).trans rfl; have hcz6_5 : w5.cell? ⟨gb114, 5, none⟩ = some (.slice A0_5 l0_5.length c0_5) := (blk_cell BK114.out 5).trans rfl; have hfz6_0 := blk_frozen BK114.out 0; have hfz6_1 := blk_frozen BK114.out 1; have hfz6_2 := blk_frozen BK114.out 2; have hfz6_3 := blk_frozen BK114.out 3; have hfz6_4 := blk_frozen BK114.out 4; have hfz6_5 := blk_frozen BK114.out 5))
    go_loopg [12] k (fun kq v12 w' => ∃ (x12_1 : Int), v12 = .int .i64 x12_1 ∧ Aside0 (vidimuslaw17_minus.l0 kq l0_5 (l0_5.length : Int) x12_1 = some r) ∧ Aside0 (kq ≤ k) ∧ Aside0 (w'.heap[gb114]? = some (.cells #[.string a0_0, .int .i64 a0_1, .int .i64 a0_2, .string a0_3, .string a0_4, (.slice A0_5 l0_5.length c0_5)] 43 (0, 0))) ∧ Aside0 (Below w.heap.size w w'))
    case atStart => exact ⟨(0), (by first | rfl | (simp; done) | (simp [*]; done)), H', ⟨Nat.le_refl _⟩, ⟨by (with_reducible repeat (first | refine blk_drewN ?_ _ | refine blk_drew ?_ | refine blk_alloc ?_ _)); exact BK114.out⟩, ⟨by repeat (first | (with_reducible first | exact HB.out | apply below_alloc | apply pw_below_drewN | apply below_drew1 | refine below_set ?_ GE114.out) | exact HB.out)⟩⟩
    case round =>
      clear H'
      try clear c2
      try clear c2b0
      try clear p2
      try clear c4
      try clear hcz4_0
      try clear hcz4_1
      try clear hcz4_2
      try clear hcz4_3
      try clear hcz4_4
      try clear hcz4_5
      try clear hcz6_0
      try clear hcz6_1
      try clear hcz6_2
      try clear hcz6_3
      try clear hcz6_4
      try clear hcz6_5
      try clear hfz4_0
      try clear hfz4_1
      try clear hfz4_2
      try clear hfz4_3
      try clear hfz4_4
      try clear hfz4_5
      try clear hfz6_0
      try clear hfz6_1
      try clear hfz6_2
      try clear hfz6_3
      try clear hfz6_4
      try clear hfz6_5
      obtain ⟨x12_1, rfl, HA, HK1, BK114, HB⟩ := hrel
      cases gk with
      | zero => exact absurd HA.out (by simp [vidimuslaw17_minus.l0])
      | succ k1 =>
        have H := HA.out
        clear HA
        simp only [vidimuslaw17_minus.l0] at H
        by_cases c7 : x12_1 < (l0_5.length : Int)
        · rw [if_pos c7] at H
          have c7b0 : decide (x12_1 < (l0_5.length : Int)) = true := decide_eq_true c7
          clear c7
          by_cases c8 : 0 ≤ x12_1
          · rw [if_pos c8] at H
            have c8b0 : decide (0 ≤ x12_1) = true := decide_eq_true c8
            clear c8
            by_cases c9 : x12_1 < (l0_5.length : Int)
            · rw [if_pos c9] at H
              have c9b0 : decide (x12_1 < (l0_5.length : Int)) = true := decide_eq_true c9
              clear c9
              replace H := Option.bind_eq_some_iff.mp H
              obtain ⟨t117, A100, H⟩ := H
              replace H : (if t117 = true then (some true) else (vidimuslaw17_minus.l0 k1 l0_5 (l0_5.length : Int) (wrap64 (x12_1 + 1)))) = some r := H
              have A10 := Aside0.mk A100
              clear A100
              by_cases c11 : t117 = true
              · subst c11
                have H1 : (some true) = some r := by rw [if_pos rfl] at H; exact H
                clear H
                have H := H1
                clear H1
                obtain rfl := Option.some.inj H
                have p115 : 0 ≤ (x12_1 : Int) := of_decide_eq_true (by first | (with_reducible assumption) | assumption)
                have q115 : x12_1 < (l0_5.length : Int) := of_decide_eq_true (by first | (with_reducible assumption) | assumption)
                obtain ⟨ad115, A115_5, c115_5, e115, hx115_0, hx115_1, hx115_2, hx115_3, hx115_4, hx115_5, hl115_5, hi115_5⟩ := at_T43 HR0_5.out x12_1 p115 q115
                cases e115
                replace hx115_0 := (HB.out.cell (World.block_lt_of_cell? w _ hx115_0)).trans hx115_0
                replace hx115_1 := (HB.out.cell (World.block_lt_of_cell? w _ hx115_1)).trans hx115_1
                replace hx115_2 := (HB.out.cell (World.block_lt_of_cell? w _ hx115_2)).trans hx115_2
                replace hx115_3 := (HB.out.cell (World.block_lt_of_cell? w _ hx115_3)).trans hx115_3
                replace hx115_4 := (HB.out.cell (World.block_lt_of_cell? w _ hx115_4)).trans hx115_4
                replace hx115_5 := (HB.out.cell (World.block_lt_of_cell? w _ hx115_5)).trans hx115_5
                have HR115_5 := Aside0.mk hi115_5
                have HC115_5 := Aside0.mk hl115_5
                clear hi115_5 hl115_5
                replace p115 := eq_true p115
                replace q115 := eq_true q115
                go_wp2_with (first | ((with_reducible refine gate_dst (N := 4) rfl ?_); refine box_event ?hg (N := 4) ?hd (cs := #[.string (⟨#[]⟩ : ByteArray), .int .i64 0, .int .i64 0, .string (⟨#[]⟩ : ByteArray), .string (⟨#[]⟩ : ByteArray), .slice none 0 0]) (t := 43) ?hr ?_; (case hd => rfl); (case hg => rfl); (case hr => first | (go_simp; done) | (go_simp; rfl)); intro gb116 hg w12 hbox hb; have n0_ := Aside0.mk (blk_below (g := gb114) (o := .cells #[.string a0_0, .int .i64 a0_1, .int .i64 a0_2, .string a0_3, .string a0_4, .slice (some ad115) l0_5.length c0_5] 43 (0, 0)) (by (with_reducible repeat (first | refine blk_drewN ?_ _ | refine blk_drew ?_ | refine blk_alloc ?_ _)); exact BK114.out) hb); have n1_ := Aside0.mk (below_step (by repeat (first | (with_reducible first | exact HB.out | apply below_alloc | apply pw_below_drewN | apply below_drew1 | refine below_set ?_ GE114.out) | exact HB.out)) hb); have n2_ := Aside0.mk (hbox); have n3_ := Aside0.mk ((by rw [hg]; exact (below_size (by repeat (first | (with_reducible first | exact HB.out | apply below_alloc | apply pw_below_drewN | apply below_drew1 | refine below_set ?_ GE114.out) | exact HB.out))) : w.heap.size ≤ gb116)); have n4_ := Aside0.mk ((by rw [hg]; exact (below_size (by repeat (first | (with_reducible first | exact HB.out | apply below_alloc | apply pw_below_drewN | apply below_drew1 | refine below_set ?_ GE114.out) | exact HB.out))) : w.heap.size ≤ gb116)); have n5_ := Aside0.mk ((by rw [hg]; exact Nat.ne_of_lt (blk_lt (g := gb114) (o := .cells #[.string a0_0, .int .i64 a0_1, .int .i64 a0_2, .string a0_3, .string a0_4, .slice (some ad115) l0_5.length c0_5] 43 (0, 0)) (by (with_reducible repeat (first | refine blk_drewN ?_ _ | refine blk_drew ?_ | refine blk_alloc ?_ _)); exact BK114.out)) : gb114 ≠ gb116)); have n6_ := Aside0.mk ((by rw [hg]; exact Nat.ne_of_gt (blk_lt (g := gb114) (o := .cells #[.string a0_0, .int .i64 a0_1, .int .i64 a0_2, .string a0_3, .string a0_4, .slice (some ad115) l0_5.length c0_5] 43 (0, 0)) (by (with_reducible repeat (first | refine blk_drewN ?_ _ | refine blk_drew ?_ | refine blk_alloc ?_ _)); exact BK114.out)) : gb116 ≠ gb114)); clear BK114; clear HB; have BK114 := n0_; have HB := n1_; have BK116 := n2_; have GW116 := n3_; have GE116 := n4_; have NB114_116 := n5_; have NB116_114 := n6_; clear n0_ n1_ n2_ n3_ n4_ n5_ n6_; clear hb hbox hg; have hnb13 := NB116_114.out; have hnc13 := NB114_116.out; have hcz14_0 : w12.cell? ⟨gb116, 0, none⟩ = some (.string (⟨#[]⟩ : ByteArray)) := (blk_cell BK116.out 0).trans rfl; have hcz14_1 : w12.cell? ⟨gb116, 1, none⟩ = some (.int .i64 0) := (blk_cell BK116.out 1).trans rfl; have hcz14_2 : w12.cell? ⟨gb116, 2, none⟩ = some (.int .i64 0) := (blk_cell BK116.out 2).trans rfl; have hcz14_3 : w12.cell? ⟨gb116, 3, none⟩ = some (.string (⟨#[]⟩ : ByteArray)) := (blk_cell BK116.out 3).trans rfl; have hcz14_4 : w12.cell? ⟨gb116, 4, none⟩ = some (.string (⟨#[]⟩ : ByteArray)) := (blk_cell BK116.out 4).trans rfl; have hcz14_5 : w12.cell? ⟨gb116, 5, none⟩ = some (.slice none 0 0) := (blk_cell BK116.out 5).trans rfl; have hfz14_0 := blk_frozen BK116.out 0; have hfz14_1 := blk_frozen BK116.out 1; have hfz14_2 := blk_frozen BK116.out 2; have hfz14_3 := blk_frozen BK116.out 3; have hfz14_4 := blk_frozen BK116.out 4; have hfz14_5 := blk_frozen BK116.out 5) | ((with_reducible refine gate_callee (f := 45) rfl ?_); refine goesL_ (some 17) rfl rfl Tryz.func45 (by kernel_rfl) rfl #[.agg #[.string ((rd_T43 l0_5 x12_1).f0), .int .i64 ((rd_T43 l0_5 x12_1).f1.f0), .int .i64 ((rd_T43 l0_5 x12_1).f1.f1), .string ((rd_T43 l0_5 x12_1).f1.f2), .string ((rd_T43 l0_5 x12_1).f2), .slice A115_5 ((rd_T43 l0_5 x12_1).f3).length c115_5]] rfl (by (try simp only [List.map_toArray, List.map_cons, List.map_nil]); first | done | rfl | (simp only [List.length_drop, List.length_take]; rfl)) ?_; (with_reducible refine (ih k1 (by have := HK1.out; omega) ((rd_T43 l0_5 x12_1).f0) ((rd_T43 l0_5 x12_1).f1.f0) ((rd_T43 l0_5 x12_1).f1.f1) ((rd_T43 l0_5 x12_1).f1.f2) ((rd_T43 l0_5 x12_1).f2) _ _ ((rd_T43 l0_5 x12_1).f3) true _ ?side1 ?side2 A10.out).mono ?_); (case side1 => exact Kd.C_below HR115_5.out (by repeat (first | (with_reducible first | exact HB.out | apply below_alloc | apply pw_below_drewN | apply below_drew1 | refine below_set ?_ GE114.out | refine below_set ?_ GE116.out) | exact HB.out))); (case side2 => exact HC115_5.out); rintro e w15 ⟨rfl, hb⟩; refine ⟨_, rfl, ?_⟩; have n0_ := Aside0.mk (blk_below (g := gb114) (o := .cells #[.string a0_0, .int .i64 a0_1, .int .i64 a0_2, .string a0_3, .string a0_4, .slice (some ad115) l0_5.length c0_5] 43 (0, 0)) (by (with_reducible repeat (first | refine blk_drewN ?_ _ | refine blk_drew ?_ | refine blk_alloc ?_ _)); refine blk_far ?_ NB114_116.out _; (with_reducible repeat (first | refine blk_drewN ?_ _ | refine blk_drew ?_ | refine blk_alloc ?_ _)); refine blk_far ?_ NB114_116.out _; (with_reducible repeat (first | refine blk_drewN ?_ _ | refine blk_drew ?_ | refine blk_alloc ?_ _)); refine blk_far ?_ NB114_116.out _; (with_reducible repeat (first | refine blk_drewN ?_ _ | refine blk_drew ?_ | refine blk_alloc ?_ _)); refine blk_far ?_ NB114_116.out _; (with_reducible repeat (first | refine blk_drewN ?_ _ | refine blk_drew ?_ | refine blk_alloc ?_ _)); refine blk_far ?_ NB114_116.out _; (with_reducible repeat (first | refine blk_drewN ?_ _ | refine blk_drew ?_ | refine blk_alloc ?_ _)); refine blk_far ?_ NB114_116.out _; (with_reducible repeat (first | refine blk_drewN ?_ _ | refine blk_drew ?_ | refine blk_alloc ?_ _)); exact BK114.out) hb); have n1_ := Aside0.mk (blk_below (g := gb116) (o := .cells #[.string ((rd_T43 l0_5 x12_1).f0), .int .i64 ((rd_T43 l0_5 x12_1).f1.f0), .int .i64 ((rd_T43 l0_5 x12_1).f1.f1), .string ((rd_T43 l0_5 x12_1).f1.f2), .string ((rd_T43 l0_5 x12_1).f2), .slice A115_5 ((rd_T43 l0_5 x12_1).f3).length c115_5] 43 (0, 0)) (by (with_reducible repeat (first | refine blk_drewN ?_ _ | refine blk_drew ?_ | refine blk_alloc ?_ _)); refine blk_put (cs := #[.string ((rd_T43 l0_5 x12_1).f0), .int .i64 ((rd_T43 l0_5 x12_1).f1.f0), .int .i64 ((rd_T43 l0_5 x12_1).f1.f1), .string ((rd_T43 l0_5 x12_1).f1.f2), .string ((rd_T43 l0_5 x12_1).f2), .slice none 0 0]) ?_ 5 _ rfl; (with_reducible repeat (first | refine blk_drewN ?_ _ | refine blk_drew ?_ | refine blk_alloc ?_ _)); refine blk_put (cs := #[.string ((rd_T43 l0_5 x12_1).f0), .int .i64 ((rd_T43 l0_5 x12_1).f1.f0), .int .i64 ((rd_T43 l0_5 x12_1).f1.f1), .string ((rd_T43 l0_5 x12_1).f1.f2), .string (⟨#[]⟩ : ByteArray), .slice none 0 0]) ?_ 4 _ rfl; (with_reducible repeat (first | refine blk_drewN ?_ _ | refine blk_drew ?_ | refine blk_alloc ?_ _)); refine blk_put (cs := #[.string ((rd_T43 l0_5 x12_1).f0), .int .i64 ((rd_T43 l0_5 x12_1).f1.f0), .int .i64 ((rd_T43 l0_5 x12_1).f1.f1), .string (⟨#[]⟩ : ByteArray), .string (⟨#[]⟩ : ByteArray), .slice none 0 0]) ?_ 3 _ rfl; (with_reducible repeat (first | refine blk_drewN ?_ _ | refine blk_drew ?_ | refine blk_alloc ?_ _)); refine blk_put (cs := #[.string ((rd_T43 l0_5 x12_1).f0), .int .i64 ((rd_T43 l0_5 x12_1).f1.f0), .int .i64 0, .string (⟨#[]⟩ : ByteArray), .string (⟨#[]⟩ : ByteArray), .slice none 0 0]) ?_ 2 _ rfl; (with_reducible repeat (first | refine blk_drewN ?_ _ | refine blk_drew ?_ | refine blk_alloc ?_ _)); refine blk_put (cs := #[.string ((rd_T43 l0_5 x12_1).f0), .int .i64 0, .int .i64 0, .string (⟨#[]⟩ : ByteArray), .string (⟨#[]⟩ : ByteArray), .slice none 0 0]) ?_ 1 _ rfl; (with_reducible repeat (first | refine blk_drewN ?_ _ | refine blk_drew ?_ | refine blk_alloc ?_ _)); refine blk_put (cs := #[.string (⟨#[]⟩ : ByteArray), .int .i64 0, .int .i64 0, .string (⟨#[]⟩ : ByteArray), .string (⟨#[]⟩ : ByteArray), .slice none 0 0]) ?_ 0 _ rfl; (with_reducible repeat (first | refine blk_drewN ?_ _ | refine blk_drew ?_ | refine blk_alloc ?_ _)); exact BK116.out) hb); have n2_ := Aside0.mk (below_step (by repeat (first | (with_reducible first | exact HB.out | apply below_alloc | apply pw_below_drewN | apply below_drew1 | refine below_set ?_ GE114.out | refine below_set ?_ GE116.out) | exact HB.out)) hb); clear BK114; clear BK116; clear HB; have BK114 := n0_; have BK116 := n1_; have HB := n2_; clear n0_ n1_ n2_; (try clear hb); (try clear hb2); (try clear hk); (try clear hi)))
                go_ret
                exact ⟨by first | rfl | (simp [errW_none, errW_some] <;> rfl) | (simp [*, errW_none, errW_some] <;> rfl), by repeat (first | (with_reducible first | exact HB.out | apply below_alloc | apply pw_below_drewN | apply below_drew1 | refine below_set ?_ GE114.out | refine below_set ?_ GE116.out) | exact HB.out)⟩
              · replace c11 := Bool.eq_false_iff.mpr c11
                subst c11
                have H1 : (vidimuslaw17_minus.l0 k1 l0_5 (l0_5.length : Int) (wrap64 (x12_1 + 1))) = some r := by rw [if_neg (show ¬ (false = true) by decide)] at H; exact H
                clear H
                have H := H1
                clear H1
                have H' := Aside0.mk H
                clear H
                have p115 : 0 ≤ (x12_1 : Int) := of_decide_eq_true (by first | (with_reducible assumption) | assumption)
                have q115 : x12_1 < (l0_5.length : Int) := of_decide_eq_true (by first | (with_reducible assumption) | assumption)
                obtain ⟨ad115, A115_5, c115_5, e115, hx115_0, hx115_1, hx115_2, hx115_3, hx115_4, hx115_5, hl115_5, hi115_5⟩ := at_T43 HR0_5.out x12_1 p115 q115
                cases e115
                replace hx115_0 := (HB.out.cell (World.block_lt_of_cell? w _ hx115_0)).trans hx115_0
                replace hx115_1 := (HB.out.cell (World.block_lt_of_cell? w _ hx115_1)).trans hx115_1
                replace hx115_2 := (HB.out.cell (World.block_lt_of_cell? w _ hx115_2)).trans hx115_2
                replace hx115_3 := (HB.out.cell (World.block_lt_of_cell? w _ hx115_3)).trans hx115_3
                replace hx115_4 := (HB.out.cell (World.block_lt_of_cell? w _ hx115_4)).trans hx115_4
                replace hx115_5 := (HB.out.cell (World.block_lt_of_cell? w _ hx115_5)).trans hx115_5
                have HR115_5 := Aside0.mk hi115_5
                have HC115_5 := Aside0.mk hl115_5
                clear hi115_5 hl115_5
                replace p115 := eq_true p115
                replace q115 := eq_true q115
                go_wp2_with (first | ((with_reducible refine gate_dst (N := 4) rfl ?_); refine box_event ?hg (N := 4) ?hd (cs := #[.string (⟨#[]⟩ : ByteArray), .int .i64 0, .int .i64 0, .string (⟨#[]⟩ : ByteArray), .string (⟨#[]⟩ : ByteArray), .slice none 0 0]) (t := 43) ?hr ?_; (case hd => rfl); (case hg => rfl); (case hr => first | (go_simp; done) | (go_simp; rfl)); intro gb116 hg w16 hbox hb; have n0_ := Aside0.mk (blk_below (g := gb114) (o := .cells #[.string a0_0, .int .i64 a0_1, .int .i64 a0_2, .string a0_3, .string a0_4, .slice (some ad115) l0_5.length c0_5] 43 (0, 0)) (by (with_reducible repeat (first | refine blk_drewN ?_ _ | refine blk_drew ?_ | refine blk_alloc ?_ _)); exact BK114.out) hb); have n1_ := Aside0.mk (below_step (by repeat (first | (with_reducible first | exact HB.out | apply below_alloc | apply pw_below_drewN | apply below_drew1 | refine below_set ?_ GE114.out) | exact HB.out)) hb); have n2_ := Aside0.mk (hbox); have n3_ := Aside0.mk ((by rw [hg]; exact (below_size (by repeat (first | (with_reducible first | exact HB.out | apply below_alloc | apply pw_below_drewN | apply below_drew1 | refine below_set ?_ GE114.out) | exact HB.out))) : w.heap.size ≤ gb116)); have n4_ := Aside0.mk ((by rw [hg]; exact (below_size (by repeat (first | (with_reducible first | exact HB.out | apply below_alloc | apply pw_below_drewN | apply below_drew1 | refine below_set ?_ GE114.out) | exact HB.out))) : w.heap.size ≤ gb116)); have n5_ := Aside0.mk ((by rw [hg]; exact Nat.ne_of_lt (blk_lt (g := gb114) (o := .cells #[.string a0_0, .int .i64 a0_1, .int .i64 a0_2, .string a0_3, .string a0_4, .slice (some ad115) l0_5.length c0_5] 43 (0, 0)) (by (with_reducible repeat (first | refine blk_drewN ?_ _ | refine blk_drew ?_ | refine blk_alloc ?_ _)); exact BK114.out)) : gb114 ≠ gb116)); have n6_ := Aside0.mk ((by rw [hg]; exact Nat.ne_of_gt (blk_lt (g := gb114) (o := .cells #[.string a0_0, .int .i64 a0_1, .int .i64 a0_2, .string a0_3, .string a0_4, .slice (some ad115) l0_5.length c0_5] 43 (0, 0)) (by (with_reducible repeat (first | refine blk_drewN ?_ _ | refine blk_drew ?_ | refine blk_alloc ?_ _)); exact BK114.out)) : gb116 ≠ gb114)); clear BK114; clear HB; have BK114 := n0_; have HB := n1_; have BK116 := n2_; have GW116 := n3_; have GE116 := n4_; have NB114_116 := n5_; have NB116_114 := n6_; clear n0_ n1_ n2_ n3_ n4_ n5_ n6_; clear hb hbox hg; have hnb17 := NB116_114.out; have hnc17 := NB114_116.out; have hcz18_0 : w16.cell? ⟨gb116, 0, none⟩ = some (.string (⟨#[]⟩ : ByteArray)) := (blk_cell BK116.out 0).trans rfl; have hcz18_1 : w16.cell? ⟨gb116, 1, none⟩ = some (.int .i64 0) := (blk_cell BK116.out 1).trans rfl; have hcz18_2 : w16.cell? ⟨gb116, 2, none⟩ = some (.int .i64 0) := (blk_cell BK116.out 2).trans rfl; have hcz18_3 : w16.cell? ⟨gb116, 3, none⟩ = some (.string (⟨#[]⟩ : ByteArray)) := (blk_cell BK116.out 3).trans rfl; have hcz18_4 : w16.cell? ⟨gb116, 4, none⟩ = some (.string (⟨#[]⟩ : ByteArray)) := (blk_cell BK116.out 4).trans rfl; have hcz18_5 : w16.cell? ⟨gb116, 5, none⟩ = some (.slice none 0 0) := (blk_cell BK116.out 5).trans rfl; have hfz18_0 := blk_frozen BK116.out 0; have hfz18_1 := blk_frozen BK116.out 1; have hfz18_2 := blk_frozen BK116.out 2; have hfz18_3 := blk_frozen BK116.out 3; have hfz18_4 := blk_frozen BK116.out 4; have hfz18_5 := blk_frozen BK116.out 5) | ((with_reducible refine gate_callee (f := 45) rfl ?_); refine goesL_ (some 17) rfl rfl Tryz.func45 (by kernel_rfl) rfl #[.agg #[.string ((rd_T43 l0_5 x12_1).f0), .int .i64 ((rd_T43 l0_5 x12_1).f1.f0), .int .i64 ((rd_T43 l0_5 x12_1).f1.f1), .string ((rd_T43 l0_5 x12_1).f1.f2), .string ((rd_T43 l0_5 x12_1).f2), .slice A115_5 ((rd_T43 l0_5 x12_1).f3).length c115_5]] rfl (by (try simp only [List.map_toArray, List.map_cons, List.map_nil]); first | done | rfl | (simp only [List.length_drop, List.length_take]; rfl)) ?_; (with_reducible refine (ih k1 (by have := HK1.out; omega) ((rd_T43 l0_5 x12_1).f0) ((rd_T43 l0_5 x12_1).f1.f0) ((rd_T43 l0_5 x12_1).f1.f1) ((rd_T43 l0_5 x12_1).f1.f2) ((rd_T43 l0_5 x12_1).f2) _ _ ((rd_T43 l0_5 x12_1).f3) false _ ?side1 ?side2 A10.out).mono ?_); (case side1 => exact Kd.C_below HR115_5.out (by repeat (first | (with_reducible first | exact HB.out | apply below_alloc | apply pw_below_drewN | apply below_drew1 | refine below_set ?_ GE114.out | refine below_set ?_ GE116.out) | exact HB.out))); (case side2 => exact HC115_5.out); rintro e w19 ⟨rfl, hb⟩; refine ⟨_, rfl, ?_⟩; have n0_ := Aside0.mk (blk_below (g := gb114) (o := .cells #[.string a0_0, .int .i64 a0_1, .int .i64 a0_2, .string a0_3, .string a0_4, .slice (some ad115) l0_5.length c0_5] 43 (0, 0)) (by (with_reducible repeat (first | refine blk_drewN ?_ _ | refine blk_drew ?_ | refine blk_alloc ?_ _)); refine blk_far ?_ NB114_116.out _; (with_reducible repeat (first | refine blk_drewN ?_ _ | refine blk_drew ?_ | refine blk_alloc ?_ _)); refine blk_far ?_ NB114_116.out _; (with_reducible repeat (first | refine blk_drewN ?_ _ | refine blk_drew ?_ | refine blk_alloc ?_ _)); refine blk_far ?_ NB114_116.out _; (with_reducible repeat (first | refine blk_drewN ?_ _ | refine blk_drew ?_ | refine blk_alloc ?_ _)); refine blk_far ?_ NB114_116.out _; (with_reducible repeat (first | refine blk_drewN ?_ _ | refine blk_drew ?_ | refine blk_alloc ?_ _)); refine blk_far ?_ NB114_116.out _; (with_reducible repeat (first | refine blk_drewN ?_ _ | refine blk_drew ?_ | refine blk_alloc ?_ _)); refine blk_far ?_ NB114_116.out _; (with_reducible repeat (first | refine blk_drewN ?_ _ | refine blk_drew ?_ | refine blk_alloc ?_ _)); exact BK114.out) hb); have n1_ := Aside0.mk (blk_below (g := gb116) (o := .cells #[.string ((rd_T43 l0_5 x12_1).f0), .int .i64 ((rd_T43 l0_5 x12_1).f1.f0), .int .i64 ((rd_T43 l0_5 x12_1).f1.f1), .string ((rd_T43 l0_5 x12_1).f1.f2), .string ((rd_T43 l0_5 x12_1).f2), .slice A115_5 ((rd_T43 l0_5 x12_1).f3).length c115_5] 43 (0, 0)) (by (with_reducible repeat (first | refine blk_drewN ?_ _ | refine blk_drew ?_ | refine blk_alloc ?_ _)); refine blk_put (cs := #[.string ((rd_T43 l0_5 x12_1).f0), .int .i64 ((rd_T43 l0_5 x12_1).f1.f0), .int .i64 ((rd_T43 l0_5 x12_1).f1.f1), .string ((rd_T43 l0_5 x12_1).f1.f2), .string ((rd_T43 l0_5 x12_1).f2), .slice none 0 0]) ?_ 5 _ rfl; (with_reducible repeat (first | refine blk_drewN ?_ _ | refine blk_drew ?_ | refine blk_alloc ?_ _)); refine blk_put (cs := #[.string ((rd_T43 l0_5 x12_1).f0), .int .i64 ((rd_T43 l0_5 x12_1).f1.f0), .int .i64 ((rd_T43 l0_5 x12_1).f1.f1), .string ((rd_T43 l0_5 x12_1).f1.f2), .string (⟨#[]⟩ : ByteArray), .slice none 0 0]) ?_ 4 _ rfl; (with_reducible repeat (first | refine blk_drewN ?_ _ | refine blk_drew ?_ | refine blk_alloc ?_ _)); refine blk_put (cs := #[.string ((rd_T43 l0_5 x12_1).f0), .int .i64 ((rd_T43 l0_5 x12_1).f1.f0), .int .i64 ((rd_T43 l0_5 x12_1).f1.f1), .string (⟨#[]⟩ : ByteArray), .string (⟨#[]⟩ : ByteArray), .slice none 0 0]) ?_ 3 _ rfl; (with_reducible repeat (first | refine blk_drewN ?_ _ | refine blk_drew ?_ | refine blk_alloc ?_ _)); refine blk_put (cs := #[.string ((rd_T43 l0_5 x12_1).f0), .int .i64 ((rd_T43 l0_5 x12_1).f1.f0), .int .i64 0, .string (⟨#[]⟩ : ByteArray), .string (⟨#[]⟩ : ByteArray), .slice none 0 0]) ?_ 2 _ rfl; (with_reducible repeat (first | refine blk_drewN ?_ _ | refine blk_drew ?_ | refine blk_alloc ?_ _)); refine blk_put (cs := #[.string ((rd_T43 l0_5 x12_1).f0), .int .i64 0, .int .i64 0, .string (⟨#[]⟩ : ByteArray), .string (⟨#[]⟩ : ByteArray), .slice none 0 0]) ?_ 1 _ rfl; (with_reducible repeat (first | refine blk_drewN ?_ _ | refine blk_drew ?_ | refine blk_alloc ?_ _)); refine blk_put (cs := #[.string (⟨#[]⟩ : ByteArray), .int .i64 0, .int .i64 0, .string (⟨#[]⟩ : ByteArray), .string (⟨#[]⟩ : ByteArray), .slice none 0 0]) ?_ 0 _ rfl; (with_reducible repeat (first | refine blk_drewN ?_ _ | refine blk_drew ?_ | refine blk_alloc ?_ _)); exact BK116.out) hb); have n2_ := Aside0.mk (below_step (by repeat (first | (with_reducible first | exact HB.out | apply below_alloc | apply pw_below_drewN | apply below_drew1 | refine below_set ?_ GE114.out | refine below_set ?_ GE116.out) | exact HB.out)) hb); clear BK114; clear BK116; clear HB; have BK114 := n0_; have BK116 := n1_; have HB := n2_; clear n0_ n1_ n2_; (try clear hb); (try clear hb2); (try clear hk); (try clear hi)))
                go_roundg k1
                case measure => have := HK1.out; omega
                case rel => exact ⟨(wrap64 (x12_1 + 1)), (by first | rfl | (simp; done) | (simp [*]; done)), H', ⟨by have := HK1.out; omega⟩, ⟨by (with_reducible repeat (first | refine blk_drewN ?_ _ | refine blk_drew ?_ | refine blk_alloc ?_ _)); exact BK114.out⟩, ⟨by repeat (first | (with_reducible first | exact HB.out | apply below_alloc | apply pw_below_drewN | apply below_drew1 | refine below_set ?_ GE114.out | refine below_set ?_ GE116.out) | exact HB.out)⟩⟩
            · rw [if_neg c9] at H
              exact absurd H (by simp)
          · rw [if_neg c8] at H
            exact absurd H (by simp)
        · rw [if_neg c7] at H
          have c7b0 : decide (x12_1 < (l0_5.length : Int)) = false := decide_eq_false c7
          clear c7
          obtain rfl := Option.some.inj H
          go_wp2
          go_ret
          exact ⟨by first | rfl | (simp [errW_none, errW_some] <;> rfl) | (simp [*, errW_none, errW_some] <;> rfl), by repeat (first | (with_reducible first | exact HB.out | apply below_alloc | apply pw_below_drewN | apply below_drew1 | refine below_set ?_ GE114.out) | exact HB.out)⟩
/-! ### vidimuslaw17_Name: function 72 -/
/-! ### vidimuslaw17_ends: function 49 -/
set_option maxHeartbeats 8000000 in
set_option maxRecDepth 100000 in
theorem vidimuslaw17_ends.calls (k : Nat) (a0 : ByteArray) (r : Bool) (w : World) (h : vidimuslaw17_ends.f k a0 = some r) :
    Calls Tryz.prog 49 #[.string a0] w fun e w' => e = .returned (.bool r) ∧ Drawn0 w w' := by
  have H : (vidimuslaw17_ends.l0 k a0 (a0.size : Int) 0) = some r := h
  clear h
  have H' := Aside0.mk H
  clear H
  go_enter Tryz.func49, Tryz.ntmps49
  go_wp2
  go_loopg [6] k (fun kq v6 w' => ∃ (x6_1 : Int), v6 = .int .i64 x6_1 ∧ Aside0 (vidimuslaw17_ends.l0 kq a0 (a0.size : Int) x6_1 = some r) ∧ Aside0 (kq ≤ k) ∧ Drawn0 w w')
  case atStart => exact ⟨(0), (by first | rfl | (simp; done) | (simp [*]; done)), H', ⟨Nat.le_refl _⟩, by repeat (first | exact Drawn0.refl _ | apply Drawn0.step)⟩
  case round =>
    clear H'
    obtain ⟨x6_1, rfl, HA, HK1, ⟨m1, rfl⟩⟩ := hrel
    cases gk with
    | zero => exact absurd HA.out (by simp [vidimuslaw17_ends.l0])
    | succ k1 =>
      have H := HA.out
      clear HA
      simp only [vidimuslaw17_ends.l0] at H
      by_cases c2 : x6_1 < (a0.size : Int)
      · rw [if_pos c2] at H
        have c2b0 : decide (x6_1 < (a0.size : Int)) = true := decide_eq_true c2
        clear c2
        by_cases c3 : 0 ≤ x6_1
        · rw [if_pos c3] at H
          have c3b0 : decide (0 ≤ x6_1) = true := decide_eq_true c3
          clear c3
          by_cases c4 : x6_1 < (a0.size : Int)
          · rw [if_pos c4] at H
            have c4b0 : decide (x6_1 < (a0.size : Int)) = true := decide_eq_true c4
            clear c4
            by_cases c6 : (bt a0 x6_1) = 59
            · rw [if_pos c6] at H
              have c6b0 : ((bt a0 x6_1) == 59) = true := beq_iff_eq.mpr c6
              have c6b1 : ((bt a0 x6_1) != 59) = false := bne_eq_false_iff_eq.mpr c6
              clear c6
              obtain rfl := Option.some.inj H
              have p5 : 0 ≤ (x6_1 : Int) := of_decide_eq_true (by first | (with_reducible assumption) | assumption)
              have q5 : x6_1 < (a0.size : Int) := of_decide_eq_true (by first | (with_reducible assumption) | assumption)
              have hx5 := bt_at a0 x6_1
              replace p5 := eq_true p5
              replace q5 := eq_true q5
              go_wp2
              go_ret
              exact ⟨by first | rfl | (simp; done) | (simp [*]; done), by repeat (first | exact Drawn0.refl _ | apply Drawn0.step)⟩
            · rw [if_neg c6] at H
              have c6b0 : ((bt a0 x6_1) == 59) = false := beq_eq_false_iff_ne.mpr c6
              have c6b1 : ((bt a0 x6_1) != 59) = true := bne_iff_ne.mpr c6
              have H' := Aside0.mk H
              clear H
              have p5 : 0 ≤ (x6_1 : Int) := of_decide_eq_true (by first | (with_reducible assumption) | assumption)
              have q5 : x6_1 < (a0.size : Int) := of_decide_eq_true (by first | (with_reducible assumption) | assumption)
              have hx5 := bt_at a0 x6_1
              replace p5 := eq_true p5
              replace q5 := eq_true q5
              go_wp2
              go_roundg k1
              case measure => have := HK1.out; omega
              case rel => exact ⟨(wrap64 (x6_1 + 1)), (by first | rfl | (simp; done) | (simp [*]; done)), H', ⟨by have := HK1.out; omega⟩, by repeat (first | exact Drawn0.refl _ | apply Drawn0.step)⟩
          · rw [if_neg c4] at H
            exact absurd H (by simp)
        · rw [if_neg c3] at H
          exact absurd H (by simp)
      · rw [if_neg c2] at H
        have c2b0 : decide (x6_1 < (a0.size : Int)) = false := decide_eq_false c2
        clear c2
        obtain rfl := Option.some.inj H
        go_wp2
        go_ret
        exact ⟨by first | rfl | (simp; done) | (simp [*]; done), by repeat (first | exact Drawn0.refl _ | apply Drawn0.step)⟩
end Go.Proofs.YtcgdncpioafbdaaGreatDoor.Q

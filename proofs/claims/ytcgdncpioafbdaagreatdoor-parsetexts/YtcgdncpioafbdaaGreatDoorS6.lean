/- Lemmas for the law: Px2 Pz Pa TxA TxB Aw Glue Nm Ge Gf TxC. -/
import Derived.Test.YtcgdncpioafbdaaGreatDoorRows
import Derived.Test.YtcgdncpioafbdaaGreatDoorTie
import Derived.Test.YtcgdncpioafbdaaGreatDoorCards
import Derived.Test.YtcgdncpioafbdaaGreatDoorS1
import Derived.Test.YtcgdncpioafbdaaGreatDoorS2
import Derived.Test.YtcgdncpioafbdaaGreatDoorS3
import Derived.Test.YtcgdncpioafbdaaGreatDoorS4
import Derived.Test.YtcgdncpioafbdaaGreatDoorS5
set_option linter.unusedVariables false
set_option linter.unusedSimpArgs false
namespace Go.Proofs.YtcgdncpioafbdaaGreatDoor.Q
open Go Go.RowKit Go.Proofs.YtcgdncpioafbdaaGreatDoorW.PrintWords
def KP:Nat:=8100
def parseA (ts:List S32):S60 × Int:=match Ps.read KP ts with
 | none => (z60,20)
 | some x => if longB x then (z60,28) else if twiceB x then (z60,21) else (x,0)
def parseP (p:List S32 × Int):S60 × Int:=if p.2=0 then parseA p.1 else (z60,p.2)
structure Toks (ts:List S32):Prop where
 ends:Ends ts
 len:ts.length ≤ 4001
 short:TK 100000 ts
theorem StF.below {ok:Nat → Prop} {x:S60} {A2 A4 A5 A6 A7:Option Addr} {c2 c4 c5 c6 c7:Nat} {wc wd:World} (hF:StF ok wc x A2 c2 A4 c4 A5 c5 A6 c6 A7 c7) (hb:Below wc.heap.size wc wd):StF ok wd x A2 c2 A4 c4 A5 c5 A6 c6 A7 c7 :=
 ⟨hF.l2,Kd.F_below hF.f2 hb,hF.l4,Kd.F_below hF.f4 hb,hF.l5,Kd.F_below hF.f5 hb,hF.l6,Kd.F_below hF.f6 hb,hF.l7,Kd.F_below hF.f7 hb⟩
abbrev fillR (W:World) (rb:Nat) (v0 v1 v2 v3 v4 v5 v6 v7 v8 v9 v10:Value):World:=(((((((((((W.setCell ⟨rb,0,none⟩ v0).setCell ⟨rb,1,none⟩ v1).setCell ⟨rb,2,none⟩ v2).setCell ⟨rb,3,none⟩ v3).setCell ⟨rb,4,none⟩ v4).setCell ⟨rb,5,none⟩ v5).setCell ⟨rb,6,none⟩ v6).setCell ⟨rb,7,none⟩ v7).setCell ⟨rb,8,none⟩ v8).setCell ⟨rb,9,none⟩ v9).setCell ⟨rb,10,none⟩ v10)
theorem fillR_s {W:World} {rb:Nat} (hs:W.heap[rb]? = some (.cells (celA z60 {}) 60 (0,0))) (v0 v1 v2 v3 v4 v5 v6 v7 v8 v9 v10:Value):(fillR W rb v0 v1 v2 v3 v4 v5 v6 v7 v8 v9 v10).heap[rb]? = some (.cells #[v0,v1,v2,v3,v4,v5,v6,v7,v8,v9,v10] 60 (0,0)) :=
 blk_put11 (a0:=.int .i64 0) (a1:=.string ⟨#[]⟩) (a2:=.slice none 0 0) (a3:=.string ⟨#[]⟩) (a4:=.slice none 0 0) (a5:=.slice none 0 0) (a6:=.slice none 0 0) (a7:=.slice none 0 0) (a8:=.string ⟨#[]⟩) (a9:=.bool false) (a10:=.int .i64 0) hs
theorem fillR_b {w W:World} {B rb:Nat} (h:Below B w W) (hs:B ≤ rb) (v0 v1 v2 v3 v4 v5 v6 v7 v8 v9 v10:Value):Below B w (fillR W rb v0 v1 v2 v3 v4 v5 v6 v7 v8 v9 v10):=by
 unfold fillR
 with_reducible (repeat (first | exact h | refine Below.setCell (p:=⟨rb,_,none⟩) ?_ hs _))
theorem fillR_f {W:World} {B rb:Nat} {x:S60} {a:Ads} (h:StA (fun q => B ≤ q) W x a) (hs:rb < B) (v0 v1 v2 v3 v4 v5 v6 v7 v8 v9 v10:Value):StA (fun q => B ≤ q) (fillR W rb v0 v1 v2 v3 v4 v5 v6 v7 v8 v9 v10) x a:=by
 unfold fillR
 have h1:∀ q,B ≤ q → q ≠ rb:=fun q hq => by omega
 with_reducible (repeat (first | exact h | refine StF.far ?_ h1 _ _))
set_option maxRecDepth 100000 in
theorem res46 {W:World} {rb:Nat} {x:S60} {a:Ads} {v:Value} {tmps:Array Value} (hs:W.heap[rb]? = some (.cells (celA x a) 60 (0,0))) (h2:tmps[2]?.getD undef = .pointer (some ⟨rb,0,none⟩)) (h3:tmps[3]?.getD undef=v):(results Tryz.f46 tmps).run Tryz.prog W = .ok (.tuple #[.agg (celA x a),v]) W:=by
 have HS:=Aside0.mk hs
 have hsl:=blk_lt hs
 have rc0:W.cell? ⟨rb,0,none⟩=some (.int .i64 x.f0):=(blk_cell HS.out 0).trans rfl
 have rc1:W.cell? ⟨rb,1,none⟩=some (.string x.f1):=(blk_cell HS.out 1).trans rfl
 have rc2:W.cell? ⟨rb,2,none⟩=some (.slice a.a2 x.f2.length a.c2):=(blk_cell HS.out 2).trans rfl
 have rc3:W.cell? ⟨rb,3,none⟩=some (.string x.f3):=(blk_cell HS.out 3).trans rfl
 have rc4:W.cell? ⟨rb,4,none⟩=some (.slice a.a4 x.f4.length a.c4):=(blk_cell HS.out 4).trans rfl
 have rc5:W.cell? ⟨rb,5,none⟩=some (.slice a.a5 x.f5.length a.c5):=(blk_cell HS.out 5).trans rfl
 have rc6:W.cell? ⟨rb,6,none⟩=some (.slice a.a6 x.f6.length a.c6):=(blk_cell HS.out 6).trans rfl
 have rc7:W.cell? ⟨rb,7,none⟩=some (.slice a.a7 x.f7.length a.c7):=(blk_cell HS.out 7).trans rfl
 have rc8:W.cell? ⟨rb,8,none⟩=some (.string x.f8):=(blk_cell HS.out 8).trans rfl
 have rc9:W.cell? ⟨rb,9,none⟩=some (.bool x.f9):=(blk_cell HS.out 9).trans rfl
 have rc10:W.cell? ⟨rb,10,none⟩=some (.int .i64 x.f10):=(blk_cell HS.out 10).trans rfl
 clear hs
 simp [results,Tryz.results46,go_sem,h2,h3,celA,cells60,rc0,rc1,rc2,rc3,rc4,rc5,rc6,rc7,rc8,rc9,rc10,hsl]
set_option maxHeartbeats 4000000 in
set_option maxRecDepth 100000 in
theorem parse_out {w:World} {s:ByteArray} {ts:List S32} {c:Int} (hG:GV w) (h:lex_Tokens.f s=some (ts,c)) (ht:c=0 → Toks ts):Calls Tryz.prog 46 #[.string s] w fun e w' => ∃ v,e = .returned (.tuple #[v,.int .i64 (parseP (ts,c)).2])∧Vst w.heap.size w' (parseP (ts,c)).1 v∧Below w.heap.size w w':=by
 have HT:=Aside0.mk ht
 have HG:=Aside0.mk hG
 have HL:=Aside0.mk h
 clear ht hG h
 go_enter Tryz.func46,Tryz.ntmps46
 go_upto_region 1 with (fail)
 have BR0:=Aside0.mk (new_blk (W:=w) (.cells (celA z60 {}) 60 (0,0)) rfl)
 have HB0:=Aside0.mk (below_alloc (Below.refl w.heap.size w) (.cells (celA z60 {}) 60 (0,0)))
 have HGW:=Aside0.mk (HG.out.below HB0.out)
 change Code.wp _ _ _ _ (w.alloc (.cells (celA z60 {}) 60 (0,0)))
 generalize hrb:w.heap.size=rb at BR0 ⊢
 generalize hW:w.alloc (.cells (celA z60 {}) 60 (0,0))=W at BR0 HB0 HGW ⊢
 clear hW
 have hrW:=blk_lt BR0.out
 have hwr:w.heap.size ≤ rb:=by omega
 by_cases c0:c=0
 ·subst c0
  have HTK:=HT.out rfl
  have HTS:=Aside0.mk HTK
  go_upto_region 4 with (first | (go_at_call 16;refine (lex_Tokens.calls s ts 0 W HL.out HGW.out).mono ?_;rintro e1 w1 ⟨v1,rfl,ho,hb⟩;have HO1:=Aside0.mk (Kd.N_reads (Kd.R_N ho));have HB1:=Aside0.mk hb;clear ho hb))
  obtain ⟨A,cp,rfl,hcp,hC⟩:=HO1.out
  have HC:=Aside0.mk hC
  clear hC HO1
  have BR1:=Aside0.mk ((HB1.out.block rb hrW).trans BR0.out)
  cases hrd:Ps.read KP ts with
  | none =>
   have HRD:=Aside0.mk hrd
   clear hrd
   go_upto_block 0 with (first | (go_at_call 105;refine (read_out HC.out hcp HTS.out.ends (k:=KP) (by have:=HTS.out.len;unfold KP;omega) HTS.out.len).mono ?_;intro e2 w2 ho;rw [HRD.out] at ho;obtain ⟨hb,v2,rfl,a,rfl,hf⟩:=ho;have HB2:=Aside0.mk hb;have HF2:=Aside0.mk hf;clear hb hf;unfold celA cells60))
   have HB3:=Aside0.mk (below_step HB1.out (below_step HB2.out (below_alloc (Below.refl _ _) (.cells (celA z60 a) 60 (0,0)))))
   change Code.wp _ _ _ _ (w2.alloc (.cells (celA z60 a) 60 (0,0)))
   generalize hW3:w2.alloc (.cells (celA z60 a) 60 (0,0))=w3 at HB3 ⊢
   clear hW3
   have BR3:=Aside0.mk ((HB3.out.block rb hrW).trans BR0.out)
   have hr3:=blk_lt BR3.out
   have rc0:w3.cell? ⟨rb,0,none⟩=some (.int .i64 0):=(blk_cell BR3.out 0).trans rfl
   have rc1:w3.cell? ⟨rb,1,none⟩=some (.string ⟨#[]⟩):=(blk_cell BR3.out 1).trans rfl
   have rc2:w3.cell? ⟨rb,2,none⟩=some (.slice none 0 0):=(blk_cell BR3.out 2).trans rfl
   have rc3:w3.cell? ⟨rb,3,none⟩=some (.string ⟨#[]⟩):=(blk_cell BR3.out 3).trans rfl
   have rc4:w3.cell? ⟨rb,4,none⟩=some (.slice none 0 0):=(blk_cell BR3.out 4).trans rfl
   have rc5:w3.cell? ⟨rb,5,none⟩=some (.slice none 0 0):=(blk_cell BR3.out 5).trans rfl
   have rc6:w3.cell? ⟨rb,6,none⟩=some (.slice none 0 0):=(blk_cell BR3.out 6).trans rfl
   have rc7:w3.cell? ⟨rb,7,none⟩=some (.slice none 0 0):=(blk_cell BR3.out 7).trans rfl
   have rc8:w3.cell? ⟨rb,8,none⟩=some (.string ⟨#[]⟩):=(blk_cell BR3.out 8).trans rfl
   have rc9:w3.cell? ⟨rb,9,none⟩=some (.bool false):=(blk_cell BR3.out 9).trans rfl
   have rc10:w3.cell? ⟨rb,10,none⟩=some (.int .i64 0):=(blk_cell BR3.out 10).trans rfl
   have rz0:=blk_frozen BR3.out 0
   have rz1:=blk_frozen BR3.out 1
   have rz2:=blk_frozen BR3.out 2
   have rz3:=blk_frozen BR3.out 3
   have rz4:=blk_frozen BR3.out 4
   have rz5:=blk_frozen BR3.out 5
   have rz6:=blk_frozen BR3.out 6
   have rz7:=blk_frozen BR3.out 7
   have rz8:=blk_frozen BR3.out 8
   have rz9:=blk_frozen BR3.out 9
   have rz10:=blk_frozen BR3.out 10
   go_wp2
   refine bodyPost_ret (res46 (x:=z60) (a:={}) (fillR_s BR3.out _ _ _ _ _ _ _ _ _ _ _) rfl rfl) rfl ?_
   have hp:parseP (ts,0)=(z60,20):=by unfold parseP parseA;rw [if_pos rfl,HRD.out]
   rw [hp]
   exact ⟨_,rfl,vst_zero _ _,fillR_b (below_step HB0.out HB3.out) hwr _ _ _ _ _ _ _ _ _ _ _⟩
  | some x =>
   have HGD:=Aside0.mk (read_good hrd HTS.out.short)
   have HMD:=Aside0.mk (HGD.out.mod (by unfold KP;omega))
   have HNM:=Aside0.mk HGD.out.names
   have HRD:=Aside0.mk hrd
   clear hrd
   go_upto_block 0 with (first | (go_at_call 105;refine (read_out HC.out hcp HTS.out.ends (k:=KP) (by have:=HTS.out.len;unfold KP;omega) HTS.out.len).mono ?_;intro e2 w2 ho;rw [HRD.out] at ho;obtain ⟨hb,v2,rfl,a,rfl,hf⟩:=ho;have HB2:=Aside0.mk hb;have HF2:=Aside0.mk hf;clear hb hf;unfold celA cells60))
   have HB3:=Aside0.mk (below_step HB1.out (below_step HB2.out (below_alloc (Below.refl _ _) (.cells (celA x a) 60 (0,0)))))
   have BS3:=Aside0.mk (new_blk (W:=w2) (.cells (celA x a) 60 (0,0)) rfl)
   have hw1:=HB1.out.size
   have HF3:Aside0 (StA (fun q => rb < q) (w2.alloc (.cells (celA x a) 60 (0,0))) x a):=⟨StF.mono (ok:=fun q => w1.heap.size ≤ q) ⟨HF2.out.l2,Kd.F_alloc HF2.out.f2 _,HF2.out.l4,Kd.F_alloc HF2.out.f4 _,HF2.out.l5,Kd.F_alloc HF2.out.f5 _,HF2.out.l6,Kd.F_alloc HF2.out.f6 _,HF2.out.l7,Kd.F_alloc HF2.out.f7 _⟩ (fun q hq => by have h1:w1.heap.size ≤ q:=hq;omega)⟩
   change Code.wp _ _ _ _ (w2.alloc (.cells (celA x a) 60 (0,0)))
   generalize hsb:w2.heap.size=sb at BS3 ⊢
   generalize hW3:w2.alloc (.cells (celA x a) 60 (0,0))=w3 at HB3 BS3 HF3 ⊢
   clear hW3 hw1
   have BR3:=Aside0.mk ((HB3.out.block rb hrW).trans BR0.out)
   have hr3:=blk_lt BR3.out
   have hs3:=blk_lt BS3.out
   have hsr:rb < sb:=by have:=HB1.out.size;have:=HB2.out.size;omega
   clear hsb
   have hne:rb ≠ sb:=by omega
   have hne':sb ≠ rb:=by omega
   have HFT:=Aside0.mk (StF.mono HF3.out (fun _ _ => trivial):StA (fun _ => True) w3 x a)
   have sc0:w3.cell? ⟨sb,0,none⟩=some (.int .i64 x.f0):=(blk_cell BS3.out 0).trans rfl
   have sc1:w3.cell? ⟨sb,1,none⟩=some (.string x.f1):=(blk_cell BS3.out 1).trans rfl
   have sc2:w3.cell? ⟨sb,2,none⟩=some (.slice a.a2 x.f2.length a.c2):=(blk_cell BS3.out 2).trans rfl
   have sc3:w3.cell? ⟨sb,3,none⟩=some (.string x.f3):=(blk_cell BS3.out 3).trans rfl
   have sc4:w3.cell? ⟨sb,4,none⟩=some (.slice a.a4 x.f4.length a.c4):=(blk_cell BS3.out 4).trans rfl
   have sc5:w3.cell? ⟨sb,5,none⟩=some (.slice a.a5 x.f5.length a.c5):=(blk_cell BS3.out 5).trans rfl
   have sc6:w3.cell? ⟨sb,6,none⟩=some (.slice a.a6 x.f6.length a.c6):=(blk_cell BS3.out 6).trans rfl
   have sc7:w3.cell? ⟨sb,7,none⟩=some (.slice a.a7 x.f7.length a.c7):=(blk_cell BS3.out 7).trans rfl
   have sc8:w3.cell? ⟨sb,8,none⟩=some (.string x.f8):=(blk_cell BS3.out 8).trans rfl
   have sc9:w3.cell? ⟨sb,9,none⟩=some (.bool x.f9):=(blk_cell BS3.out 9).trans rfl
   have sc10:w3.cell? ⟨sb,10,none⟩=some (.int .i64 x.f10):=(blk_cell BS3.out 10).trans rfl
   have hcel:celA x a=#[.int .i64 x.f0,.string x.f1,.slice a.a2 x.f2.length a.c2,.string x.f3,.slice a.a4 x.f4.length a.c4,.slice a.a5 x.f5.length a.c5,.slice a.a6 x.f6.length a.c6,.slice a.a7 x.f7.length a.c7,.string x.f8,.bool x.f9,.int .i64 x.f10]:=rfl
   cases hlg:longB x with
   | true =>
    have HLG:=Aside0.mk hlg
    clear hlg
    go_wp2_with (first | (go_at_call 106;refine (long_out (x:=x) (a:=a) HFT.out HMD.out).mono ?_;rintro e4 w4 ⟨rfl,hb⟩;have HB4:=Aside0.mk hb;clear hb;rw [HLG.out];have BR4:=Aside0.mk ((HB4.out.block rb hr3).trans BR3.out);have hr4:=blk_lt BR4.out;have rc0:w4.cell? ⟨rb,0,none⟩=some (.int .i64 0):=(blk_cell BR4.out 0).trans rfl;have rc1:w4.cell? ⟨rb,1,none⟩=some (.string ⟨#[]⟩):=(blk_cell BR4.out 1).trans rfl;have rc2:w4.cell? ⟨rb,2,none⟩=some (.slice none 0 0):=(blk_cell BR4.out 2).trans rfl;have rc3:w4.cell? ⟨rb,3,none⟩=some (.string ⟨#[]⟩):=(blk_cell BR4.out 3).trans rfl;have rc4:w4.cell? ⟨rb,4,none⟩=some (.slice none 0 0):=(blk_cell BR4.out 4).trans rfl;have rc5:w4.cell? ⟨rb,5,none⟩=some (.slice none 0 0):=(blk_cell BR4.out 5).trans rfl;have rc6:w4.cell? ⟨rb,6,none⟩=some (.slice none 0 0):=(blk_cell BR4.out 6).trans rfl;have rc7:w4.cell? ⟨rb,7,none⟩=some (.slice none 0 0):=(blk_cell BR4.out 7).trans rfl;have rc8:w4.cell? ⟨rb,8,none⟩=some (.string ⟨#[]⟩):=(blk_cell BR4.out 8).trans rfl;have rc9:w4.cell? ⟨rb,9,none⟩=some (.bool false):=(blk_cell BR4.out 9).trans rfl;have rc10:w4.cell? ⟨rb,10,none⟩=some (.int .i64 0):=(blk_cell BR4.out 10).trans rfl;have rz0:=blk_frozen BR4.out 0;have rz1:=blk_frozen BR4.out 1;have rz2:=blk_frozen BR4.out 2;have rz3:=blk_frozen BR4.out 3;have rz4:=blk_frozen BR4.out 4;have rz5:=blk_frozen BR4.out 5;have rz6:=blk_frozen BR4.out 6;have rz7:=blk_frozen BR4.out 7;have rz8:=blk_frozen BR4.out 8;have rz9:=blk_frozen BR4.out 9;have rz10:=blk_frozen BR4.out 10))
    refine bodyPost_ret (res46 (x:=z60) (a:={}) (fillR_s BR4.out _ _ _ _ _ _ _ _ _ _ _) rfl rfl) rfl ?_
    have hp:parseP (ts,0)=(z60,28):=by unfold parseP parseA;rw [if_pos rfl,HRD.out];simp only;rw [if_pos HLG.out]
    rw [hp]
    exact ⟨_,rfl,vst_zero _ _,fillR_b (below_step HB0.out (below_step HB3.out HB4.out)) hwr _ _ _ _ _ _ _ _ _ _ _⟩
   | false =>
    have HLG:=Aside0.mk hlg
    clear hlg
    cases htw:twiceB x with
    | true =>
     have HTW:=Aside0.mk htw
     clear htw
     go_wp2_with (first | (go_at_call 106;refine (long_out (x:=x) (a:=a) HFT.out HMD.out).mono ?_;rintro e4 w4 ⟨rfl,hb⟩;have HB4:=Aside0.mk hb;clear hb;rw [HLG.out];have BR4:=Aside0.mk ((HB4.out.block rb hr3).trans BR3.out);have hr4:=blk_lt BR4.out;have BS4:=Aside0.mk ((HB4.out.block sb hs3).trans BS3.out);have hs4:=blk_lt BS4.out;have HFT4:=Aside0.mk (StF.below HFT.out HB4.out);have pc0:w4.cell? ⟨sb,0,none⟩=some (.int .i64 x.f0):=(blk_cell BS4.out 0).trans rfl;have pc1:w4.cell? ⟨sb,1,none⟩=some (.string x.f1):=(blk_cell BS4.out 1).trans rfl;have pc2:w4.cell? ⟨sb,2,none⟩=some (.slice a.a2 x.f2.length a.c2):=(blk_cell BS4.out 2).trans rfl;have pc3:w4.cell? ⟨sb,3,none⟩=some (.string x.f3):=(blk_cell BS4.out 3).trans rfl;have pc4:w4.cell? ⟨sb,4,none⟩=some (.slice a.a4 x.f4.length a.c4):=(blk_cell BS4.out 4).trans rfl;have pc5:w4.cell? ⟨sb,5,none⟩=some (.slice a.a5 x.f5.length a.c5):=(blk_cell BS4.out 5).trans rfl;have pc6:w4.cell? ⟨sb,6,none⟩=some (.slice a.a6 x.f6.length a.c6):=(blk_cell BS4.out 6).trans rfl;have pc7:w4.cell? ⟨sb,7,none⟩=some (.slice a.a7 x.f7.length a.c7):=(blk_cell BS4.out 7).trans rfl;have pc8:w4.cell? ⟨sb,8,none⟩=some (.string x.f8):=(blk_cell BS4.out 8).trans rfl;have pc9:w4.cell? ⟨sb,9,none⟩=some (.bool x.f9):=(blk_cell BS4.out 9).trans rfl;have pc10:w4.cell? ⟨sb,10,none⟩=some (.int .i64 x.f10):=(blk_cell BS4.out 10).trans rfl) | (go_at_call 107;refine (twice_out (x:=x) (a:=a) HFT4.out HMD.out HNM.out).mono ?_;rintro e5 w5 ⟨rfl,hb⟩;have HB5:=Aside0.mk hb;clear hb;rw [HTW.out];have BR5:=Aside0.mk ((HB5.out.block rb hr4).trans BR4.out);have hr5:=blk_lt BR5.out;have BS5:=Aside0.mk ((HB5.out.block sb hs4).trans BS4.out);have hs5:=blk_lt BS5.out;have rc0:w5.cell? ⟨rb,0,none⟩=some (.int .i64 0):=(blk_cell BR5.out 0).trans rfl;have rc1:w5.cell? ⟨rb,1,none⟩=some (.string ⟨#[]⟩):=(blk_cell BR5.out 1).trans rfl;have rc2:w5.cell? ⟨rb,2,none⟩=some (.slice none 0 0):=(blk_cell BR5.out 2).trans rfl;have rc3:w5.cell? ⟨rb,3,none⟩=some (.string ⟨#[]⟩):=(blk_cell BR5.out 3).trans rfl;have rc4:w5.cell? ⟨rb,4,none⟩=some (.slice none 0 0):=(blk_cell BR5.out 4).trans rfl;have rc5:w5.cell? ⟨rb,5,none⟩=some (.slice none 0 0):=(blk_cell BR5.out 5).trans rfl;have rc6:w5.cell? ⟨rb,6,none⟩=some (.slice none 0 0):=(blk_cell BR5.out 6).trans rfl;have rc7:w5.cell? ⟨rb,7,none⟩=some (.slice none 0 0):=(blk_cell BR5.out 7).trans rfl;have rc8:w5.cell? ⟨rb,8,none⟩=some (.string ⟨#[]⟩):=(blk_cell BR5.out 8).trans rfl;have rc9:w5.cell? ⟨rb,9,none⟩=some (.bool false):=(blk_cell BR5.out 9).trans rfl;have rc10:w5.cell? ⟨rb,10,none⟩=some (.int .i64 0):=(blk_cell BR5.out 10).trans rfl;have rz0:=blk_frozen BR5.out 0;have rz1:=blk_frozen BR5.out 1;have rz2:=blk_frozen BR5.out 2;have rz3:=blk_frozen BR5.out 3;have rz4:=blk_frozen BR5.out 4;have rz5:=blk_frozen BR5.out 5;have rz6:=blk_frozen BR5.out 6;have rz7:=blk_frozen BR5.out 7;have rz8:=blk_frozen BR5.out 8;have rz9:=blk_frozen BR5.out 9;have rz10:=blk_frozen BR5.out 10;have uc0:w5.cell? ⟨sb,0,none⟩=some (.int .i64 x.f0):=(blk_cell BS5.out 0).trans rfl;have uc1:w5.cell? ⟨sb,1,none⟩=some (.string x.f1):=(blk_cell BS5.out 1).trans rfl;have uc2:w5.cell? ⟨sb,2,none⟩=some (.slice a.a2 x.f2.length a.c2):=(blk_cell BS5.out 2).trans rfl;have uc3:w5.cell? ⟨sb,3,none⟩=some (.string x.f3):=(blk_cell BS5.out 3).trans rfl;have uc4:w5.cell? ⟨sb,4,none⟩=some (.slice a.a4 x.f4.length a.c4):=(blk_cell BS5.out 4).trans rfl;have uc5:w5.cell? ⟨sb,5,none⟩=some (.slice a.a5 x.f5.length a.c5):=(blk_cell BS5.out 5).trans rfl;have uc6:w5.cell? ⟨sb,6,none⟩=some (.slice a.a6 x.f6.length a.c6):=(blk_cell BS5.out 6).trans rfl;have uc7:w5.cell? ⟨sb,7,none⟩=some (.slice a.a7 x.f7.length a.c7):=(blk_cell BS5.out 7).trans rfl;have uc8:w5.cell? ⟨sb,8,none⟩=some (.string x.f8):=(blk_cell BS5.out 8).trans rfl;have uc9:w5.cell? ⟨sb,9,none⟩=some (.bool x.f9):=(blk_cell BS5.out 9).trans rfl;have uc10:w5.cell? ⟨sb,10,none⟩=some (.int .i64 x.f10):=(blk_cell BS5.out 10).trans rfl))
     refine bodyPost_ret (res46 (x:=z60) (a:={}) (fillR_s BR5.out _ _ _ _ _ _ _ _ _ _ _) rfl rfl) rfl ?_
     have hp:parseP (ts,0)=(z60,21):=by unfold parseP parseA;rw [if_pos rfl,HRD.out];simp only;rw [if_neg (by rw [HLG.out];decide),if_pos HTW.out]
     rw [hp]
     exact ⟨_,rfl,vst_zero _ _,fillR_b (below_step HB0.out (below_step HB3.out (below_step HB4.out HB5.out))) hwr _ _ _ _ _ _ _ _ _ _ _⟩
    | false =>
     have HTW:=Aside0.mk htw
     clear htw
     go_wp2_with (first | (go_at_call 106;refine (long_out (x:=x) (a:=a) HFT.out HMD.out).mono ?_;rintro e4 w4 ⟨rfl,hb⟩;have HB4:=Aside0.mk hb;clear hb;rw [HLG.out];have BR4:=Aside0.mk ((HB4.out.block rb hr3).trans BR3.out);have hr4:=blk_lt BR4.out;have BS4:=Aside0.mk ((HB4.out.block sb hs3).trans BS3.out);have hs4:=blk_lt BS4.out;have HFT4:=Aside0.mk (StF.below HFT.out HB4.out);have pc0:w4.cell? ⟨sb,0,none⟩=some (.int .i64 x.f0):=(blk_cell BS4.out 0).trans rfl;have pc1:w4.cell? ⟨sb,1,none⟩=some (.string x.f1):=(blk_cell BS4.out 1).trans rfl;have pc2:w4.cell? ⟨sb,2,none⟩=some (.slice a.a2 x.f2.length a.c2):=(blk_cell BS4.out 2).trans rfl;have pc3:w4.cell? ⟨sb,3,none⟩=some (.string x.f3):=(blk_cell BS4.out 3).trans rfl;have pc4:w4.cell? ⟨sb,4,none⟩=some (.slice a.a4 x.f4.length a.c4):=(blk_cell BS4.out 4).trans rfl;have pc5:w4.cell? ⟨sb,5,none⟩=some (.slice a.a5 x.f5.length a.c5):=(blk_cell BS4.out 5).trans rfl;have pc6:w4.cell? ⟨sb,6,none⟩=some (.slice a.a6 x.f6.length a.c6):=(blk_cell BS4.out 6).trans rfl;have pc7:w4.cell? ⟨sb,7,none⟩=some (.slice a.a7 x.f7.length a.c7):=(blk_cell BS4.out 7).trans rfl;have pc8:w4.cell? ⟨sb,8,none⟩=some (.string x.f8):=(blk_cell BS4.out 8).trans rfl;have pc9:w4.cell? ⟨sb,9,none⟩=some (.bool x.f9):=(blk_cell BS4.out 9).trans rfl;have pc10:w4.cell? ⟨sb,10,none⟩=some (.int .i64 x.f10):=(blk_cell BS4.out 10).trans rfl) | (go_at_call 107;refine (twice_out (x:=x) (a:=a) HFT4.out HMD.out HNM.out).mono ?_;rintro e5 w5 ⟨rfl,hb⟩;have HB5:=Aside0.mk hb;clear hb;rw [HTW.out];have BR5:=Aside0.mk ((HB5.out.block rb hr4).trans BR4.out);have hr5:=blk_lt BR5.out;have BS5:=Aside0.mk ((HB5.out.block sb hs4).trans BS4.out);have hs5:=blk_lt BS5.out;have rc0:w5.cell? ⟨rb,0,none⟩=some (.int .i64 0):=(blk_cell BR5.out 0).trans rfl;have rc1:w5.cell? ⟨rb,1,none⟩=some (.string ⟨#[]⟩):=(blk_cell BR5.out 1).trans rfl;have rc2:w5.cell? ⟨rb,2,none⟩=some (.slice none 0 0):=(blk_cell BR5.out 2).trans rfl;have rc3:w5.cell? ⟨rb,3,none⟩=some (.string ⟨#[]⟩):=(blk_cell BR5.out 3).trans rfl;have rc4:w5.cell? ⟨rb,4,none⟩=some (.slice none 0 0):=(blk_cell BR5.out 4).trans rfl;have rc5:w5.cell? ⟨rb,5,none⟩=some (.slice none 0 0):=(blk_cell BR5.out 5).trans rfl;have rc6:w5.cell? ⟨rb,6,none⟩=some (.slice none 0 0):=(blk_cell BR5.out 6).trans rfl;have rc7:w5.cell? ⟨rb,7,none⟩=some (.slice none 0 0):=(blk_cell BR5.out 7).trans rfl;have rc8:w5.cell? ⟨rb,8,none⟩=some (.string ⟨#[]⟩):=(blk_cell BR5.out 8).trans rfl;have rc9:w5.cell? ⟨rb,9,none⟩=some (.bool false):=(blk_cell BR5.out 9).trans rfl;have rc10:w5.cell? ⟨rb,10,none⟩=some (.int .i64 0):=(blk_cell BR5.out 10).trans rfl;have rz0:=blk_frozen BR5.out 0;have rz1:=blk_frozen BR5.out 1;have rz2:=blk_frozen BR5.out 2;have rz3:=blk_frozen BR5.out 3;have rz4:=blk_frozen BR5.out 4;have rz5:=blk_frozen BR5.out 5;have rz6:=blk_frozen BR5.out 6;have rz7:=blk_frozen BR5.out 7;have rz8:=blk_frozen BR5.out 8;have rz9:=blk_frozen BR5.out 9;have rz10:=blk_frozen BR5.out 10;have uc0:w5.cell? ⟨sb,0,none⟩=some (.int .i64 x.f0):=(blk_cell BS5.out 0).trans rfl;have uc1:w5.cell? ⟨sb,1,none⟩=some (.string x.f1):=(blk_cell BS5.out 1).trans rfl;have uc2:w5.cell? ⟨sb,2,none⟩=some (.slice a.a2 x.f2.length a.c2):=(blk_cell BS5.out 2).trans rfl;have uc3:w5.cell? ⟨sb,3,none⟩=some (.string x.f3):=(blk_cell BS5.out 3).trans rfl;have uc4:w5.cell? ⟨sb,4,none⟩=some (.slice a.a4 x.f4.length a.c4):=(blk_cell BS5.out 4).trans rfl;have uc5:w5.cell? ⟨sb,5,none⟩=some (.slice a.a5 x.f5.length a.c5):=(blk_cell BS5.out 5).trans rfl;have uc6:w5.cell? ⟨sb,6,none⟩=some (.slice a.a6 x.f6.length a.c6):=(blk_cell BS5.out 6).trans rfl;have uc7:w5.cell? ⟨sb,7,none⟩=some (.slice a.a7 x.f7.length a.c7):=(blk_cell BS5.out 7).trans rfl;have uc8:w5.cell? ⟨sb,8,none⟩=some (.string x.f8):=(blk_cell BS5.out 8).trans rfl;have uc9:w5.cell? ⟨sb,9,none⟩=some (.bool x.f9):=(blk_cell BS5.out 9).trans rfl;have uc10:w5.cell? ⟨sb,10,none⟩=some (.int .i64 x.f10):=(blk_cell BS5.out 10).trans rfl))
     refine bodyPost_ret (res46 (x:=x) (a:=a) (fillR_s BR5.out _ _ _ _ _ _ _ _ _ _ _) rfl rfl) rfl ?_
     have hp:parseP (ts,0)=(x,0):=by unfold parseP parseA;rw [if_pos rfl,HRD.out];simp only;rw [if_neg (by rw [HLG.out];decide),if_neg (by rw [HTW.out];decide)]
     rw [hp]
     refine ⟨_,rfl,⟨a,rfl,?_⟩,fillR_b (below_step HB0.out (below_step HB3.out (below_step HB4.out HB5.out))) hwr _ _ _ _ _ _ _ _ _ _ _⟩
     have hf5:StA (fun q => rb + 1 ≤ q) w5 x a:=StF.below (StF.below (StF.mono HF3.out (fun q hq => by have h1:rb < q:=hq;omega)) HB4.out) HB5.out
     exact StF.mono (fillR_f hf5 (Nat.lt_succ_self _) _ _ _ _ _ _ _ _ _ _ _) (fun q hq => by have h1:rb + 1 ≤ q:=hq;omega)
 ·have b0:(c != 0)=true:=bne_iff_ne.mpr c0
  go_wp2_with (first | (go_at_call 16;refine (lex_Tokens.calls s ts c W HL.out HGW.out).mono ?_;rintro e1 w1 ⟨v1,rfl,ho,hb⟩;have HB1:=Aside0.mk hb;clear ho hb;have BR1:=Aside0.mk ((HB1.out.block rb hrW).trans BR0.out);have hr1:=blk_lt BR1.out;have rc0:w1.cell? ⟨rb,0,none⟩=some (.int .i64 0):=(blk_cell BR1.out 0).trans rfl;have rc1:w1.cell? ⟨rb,1,none⟩=some (.string ⟨#[]⟩):=(blk_cell BR1.out 1).trans rfl;have rc2:w1.cell? ⟨rb,2,none⟩=some (.slice none 0 0):=(blk_cell BR1.out 2).trans rfl;have rc3:w1.cell? ⟨rb,3,none⟩=some (.string ⟨#[]⟩):=(blk_cell BR1.out 3).trans rfl;have rc4:w1.cell? ⟨rb,4,none⟩=some (.slice none 0 0):=(blk_cell BR1.out 4).trans rfl;have rc5:w1.cell? ⟨rb,5,none⟩=some (.slice none 0 0):=(blk_cell BR1.out 5).trans rfl;have rc6:w1.cell? ⟨rb,6,none⟩=some (.slice none 0 0):=(blk_cell BR1.out 6).trans rfl;have rc7:w1.cell? ⟨rb,7,none⟩=some (.slice none 0 0):=(blk_cell BR1.out 7).trans rfl;have rc8:w1.cell? ⟨rb,8,none⟩=some (.string ⟨#[]⟩):=(blk_cell BR1.out 8).trans rfl;have rc9:w1.cell? ⟨rb,9,none⟩=some (.bool false):=(blk_cell BR1.out 9).trans rfl;have rc10:w1.cell? ⟨rb,10,none⟩=some (.int .i64 0):=(blk_cell BR1.out 10).trans rfl;have rz0:=blk_frozen BR1.out 0;have rz1:=blk_frozen BR1.out 1;have rz2:=blk_frozen BR1.out 2;have rz3:=blk_frozen BR1.out 3;have rz4:=blk_frozen BR1.out 4;have rz5:=blk_frozen BR1.out 5;have rz6:=blk_frozen BR1.out 6;have rz7:=blk_frozen BR1.out 7;have rz8:=blk_frozen BR1.out 8;have rz9:=blk_frozen BR1.out 9;have rz10:=blk_frozen BR1.out 10))
  refine bodyPost_ret (res46 (x:=z60) (a:={}) (fillR_s BR1.out _ _ _ _ _ _ _ _ _ _ _) rfl rfl) rfl ?_
  have hp:parseP (ts,c)=(z60,c):=by unfold parseP;rw [if_neg c0]
  rw [hp]
  exact ⟨_,rfl,vst_zero _ _,fillR_b (below_step HB0.out HB1.out) hwr _ _ _ _ _ _ _ _ _ _ _⟩
end Go.Proofs.YtcgdncpioafbdaaGreatDoor.Q
namespace Go.Proofs.YtcgdncpioafbdaaGreatDoor.Q
open Go Go.RowKit Go.Proofs.YtcgdncpioafbdaaGreatDoorW.PrintWords
theorem good_short {t:Lx.Tk} (h:Lx.Good t):t.s.length ≤ 1000:=by
 rcases h with h | h | h | h
 ·have:=h.len;omega
 ·have:=h.s;rw [this];simp
 ·have:=h.len;omega
 ·rcases h.s with h | ⟨c,_,h⟩
  ·have:∀ x ∈ Lx.twos,x.length ≤ 1000:=by decide +kernel
   exact this _ h
  ·rw [h];simp
theorem toks_few:∀ (n:Nat) (l:List UInt8) (ts:List Lx.Tk),l.length ≤ n → Lx.toks l = .ok ts → ts.length ≤ l.length∧∀ t ∈ ts,Lx.Good t:=by
 intro n
 induction n with
 | zero =>
  intro l ts hl h
  have h0:l=[]:=List.length_eq_zero_iff.1 (by omega)
  subst h0
  rw [Lx.toks_nil (by rfl)] at h
  cases h
  exact ⟨Nat.le_refl _,by simp⟩
 | succ n ih =>
  intro l ts hl h
  cases hs:Lx.skipA false l with
  | nil =>
   rw [Lx.toks_nil hs] at h
   cases h
   exact ⟨Nat.zero_le _,by simp⟩
  | cons c r =>
   have hle:=Lx.skipA_le false l
   rw [hs] at hle
   cases ht:Lx.tokA (c :: r) with
   | error e => rw [Lx.toks_err hs ht] at h;cases h
   | ok p =>
    obtain ⟨t,m⟩:=p
    rw [Lx.toks_ok hs ht] at h
    have h1:=Lx.tokA_le ht
    cases hr:Lx.toks ((c :: r).drop m) with
    | error e => rw [hr] at h;cases h
    | ok us =>
     rw [hr] at h
     cases h
     obtain ⟨g1,g2⟩:=ih _ us (by rw [List.length_drop];omega) hr
     rw [List.length_drop] at g1
     refine ⟨by simp only [List.length_cons] at *;omega,fun u hu => ?_⟩
     rcases List.mem_cons.1 hu with rfl | hu
     ·exact (Lx.tokA_good ht).1
     ·exact g2 u hu
theorem toks_ne0:∀ (n:Nat) (l:List UInt8),l.length ≤ n → Lx.toks l ≠ .error 0:=by
 intro n
 induction n with
 | zero =>
  intro l hl h
  have h0:l=[]:=List.length_eq_zero_iff.1 (by omega)
  subst h0
  rw [Lx.toks_nil (by rfl)] at h
  cases h
 | succ n ih =>
  intro l hl h
  cases hs:Lx.skipA false l with
  | nil => rw [Lx.toks_nil hs] at h;cases h
  | cons c r =>
   have hle:=Lx.skipA_le false l
   rw [hs] at hle
   cases ht:Lx.tokA (c :: r) with
   | error e => rw [Lx.toks_err hs ht] at h;cases h;exact tokA_err ht rfl
   | ok p =>
    obtain ⟨t,m⟩:=p
    rw [Lx.toks_ok hs ht] at h
    have h1:=Lx.tokA_le ht
    cases hr:Lx.toks ((c :: r).drop m) with
    | error e => rw [hr] at h;cases h;exact ih _ (by rw [List.length_drop];omega) hr
    | ok us => rw [hr] at h;cases h
theorem tok_toks {s:ByteArray} {ts:List S32} {c:Int} (h:lex_Tokens.f s=some (ts,c)) (hc:c=0):Toks ts:=by
 subst hc
 unfold lex_Tokens.f tokF at h
 cases hl:Lx.lexA s.data.toList with
 | error e =>
  rw [hl] at h
  simp only [Option.some.injEq,Prod.mk.injEq] at h
  obtain ⟨rfl,h⟩:=h
  have he:e=0:=by omega
  subst he
  rw [Lx.lexA_toks] at hl
  split at hl
  ·cases hl
  ·exact absurd hl (toks_ne0 _ _ (Nat.le_refl _))
 | ok us =>
  rw [hl] at h
  simp only [Option.some.injEq,Prod.mk.injEq] at h
  obtain ⟨rfl,_⟩:=h
  rw [Lx.lexA_toks] at hl
  split at hl
  ·cases hl
  ·rename_i hlen
   obtain ⟨g1,g2⟩:=toks_few _ _ us (Nat.le_refl _) hl
   refine ⟨⟨us.map tk32,z32,rfl,rfl⟩,by simp;omega,fun t ht => ?_⟩
   rcases List.mem_append.1 ht with ht | ht
   ·obtain ⟨u,hu,rfl⟩:=List.mem_map.1 ht
    show (ba u.s).size ≤ 100000
    rw [ba_size]
    have:=good_short (g2 u hu)
    omega
   ·rw [List.mem_singleton.1 ht]
    show (0:Nat) ≤ 100000
    omega
def parseS (s:ByteArray):S60 × Int:=match tokF s with
 | none => (z60,0)
 | some p => parseP p
theorem parse_calls {w:World} (s:ByteArray) (hG:GV w):Calls Tryz.prog 46 #[.string s] w fun e w' => ∃ v,e = .returned (.tuple #[v,.int .i64 (parseS s).2])∧Vst w.heap.size w' (parseS s).1 v∧Below w.heap.size w w':=by
 cases h:tokF s with
 | none =>
  unfold tokF at h
  cases hl:Lx.lexA s.data.toList with
  | error e => rw [hl] at h;cases h
  | ok us => rw [hl] at h;cases h
 | some p =>
  obtain ⟨ts,c⟩:=p
  have e:parseS s=parseP (ts,c):=by unfold parseS;rw [h]
  rw [e]
  exact parse_out hG h (fun hc => tok_toks h hc)
end Go.Proofs.YtcgdncpioafbdaaGreatDoor.Q
namespace Go.Proofs.YtcgdncpioafbdaaGreatDoor.Q
open Go Go.RowKit Go.Proofs.YtcgdncpioafbdaaGreatDoorW.PrintWords Go.Proofs.YtcgdncpioafbdaaGreatDoorW.PrintLast Go.Proofs.YtcgdncpioafbdaaGreatDoorW.PrintMore
theorem eqA40 (d:Nat) (w:World) (x0 y0 x1 y1:Int) (x2 y2:ByteArray) :
  (Op.equalIn (d + 2) 40 (.agg #[.int .i64 x0,.int .i64 x1,.string x2]) (.agg #[.int .i64 y0,.int .i64 y1,.string y2])).run Tryz.prog w = .ok (x0 == y0 && (x1 == y1 && (x2.toList == y2.toList))) w:=by
 refine eqA_of Tryz.underlying40 (by kernel_rfl) ?_
 refine eqf_cons (by rfl) (by go_simp;rfl) (by go_simp;rfl) (by go_simp) ?_
 refine eqf_cons (by rfl) (by go_simp;rfl) (by go_simp;rfl) (by go_simp) ?_
 exact eqf_last (by rfl) (by go_simp;rfl) (by go_simp;rfl) (by go_simp)
theorem eqA128 (d:Nat) (w:World) (x0 y0:ByteArray) (x1 y1:Int) (x2 y2:Int) :
  (Op.equalIn (d + 2) 128 (.agg #[.string x0,.int .i64 x1,.int .i64 x2]) (.agg #[.string y0,.int .i64 y1,.int .i64 y2])).run Tryz.prog w = .ok (x0.toList == y0.toList && (x1 == y1 && (x2 == y2))) w:=by
 refine eqA_of Tryz.underlying128 (by kernel_rfl) ?_
 refine eqf_cons (by rfl) (by go_simp;rfl) (by go_simp;rfl) (by go_simp) ?_
 refine eqf_cons (by rfl) (by go_simp;rfl) (by go_simp;rfl) (by go_simp) ?_
 exact eqf_last (by rfl) (by go_simp;rfl) (by go_simp;rfl) (by go_simp)
attribute [local go_sem high] eqA40 eqA128
def SameListAt (n:Nat):Prop:=∀ (l:List S43) (w:World) (A A':Option Addr) (c c':Nat),fus l ≤ n → l.length ≤ c → l.length ≤ c' → Kd.C k43 w A l.length l → Kd.C k43 w A' l.length l → Calls Tryz.prog 108 #[.slice A l.length c,.slice A' l.length c'] w fun e w' => e = .returned (.bool true)∧Below w.heap.size w w'
def SameExprAt (n:Nat):Prop:=∀ (x:S43) (w:World) (A A':Option Addr) (c c':Nat),fu x ≤ n → x.f3.length ≤ c → x.f3.length ≤ c' → Kd.C k43 w A x.f3.length x.f3 → Kd.C k43 w A' x.f3.length x.f3 → Calls Tryz.prog 47 #[.agg (cells43 x A c).toArray,.agg (cells43 x A' c').toArray] w fun e w' => e = .returned (.bool true)∧Below w.heap.size w w'
set_option maxHeartbeats 2000000 in
set_option maxRecDepth 100000 in
theorem sameExpr_step (n:Nat) (ih:SameListAt n):SameExprAt (n + 1):=by
 intro x w A A' c c' hx hc hc' hC hC'
 have HC:=Aside0.mk hC
 have HC':=Aside0.mk hC'
 have hx2:fus x.f3 ≤ n:=by have:=fu_eq x;omega
 clear hC hC'
 unfold cells43
 go_enter Tryz.func47,Tryz.ntmps47
 go_upto_region 1 with (fail)
 have hB:=below_alloc (below_alloc (Below.refl w.heap.size w) (.cells #[.string x.f0,.int .i64 x.f1.f0,.int .i64 x.f1.f1,.string x.f1.f2,.string x.f2,.slice A x.f3.length c] 43 (0,0))) (.cells #[.string x.f0,.int .i64 x.f1.f0,.int .i64 x.f1.f1,.string x.f1.f2,.string x.f2,.slice A' x.f3.length c'] 43 (0,0))
 have B1:=Aside0.mk (blk_alloc (new_blk (W:=w) (.cells #[.string x.f0,.int .i64 x.f1.f0,.int .i64 x.f1.f1,.string x.f1.f2,.string x.f2,.slice A x.f3.length c] 43 (0,0)) rfl) (.cells #[.string x.f0,.int .i64 x.f1.f0,.int .i64 x.f1.f1,.string x.f1.f2,.string x.f2,.slice A' x.f3.length c'] 43 (0,0)))
 have B2:=Aside0.mk (new_blk (W:=w.alloc (.cells #[.string x.f0,.int .i64 x.f1.f0,.int .i64 x.f1.f1,.string x.f1.f2,.string x.f2,.slice A x.f3.length c] 43 (0,0))) (b:=w.heap.size + 1) (.cells #[.string x.f0,.int .i64 x.f1.f0,.int .i64 x.f1.f1,.string x.f1.f2,.string x.f2,.slice A' x.f3.length c'] 43 (0,0)) (by simp))
 have HB:=Aside0.mk hB
 clear hB
 generalize hb2:w.heap.size + 1=b2 at B2 ⊢
 generalize hb1:w.heap.size=b1 at B1 ⊢
 generalize hW:(w.alloc (.cells #[.string x.f0,.int .i64 x.f1.f0,.int .i64 x.f1.f1,.string x.f1.f2,.string x.f2,.slice A x.f3.length c] 43 (0,0))).alloc (.cells #[.string x.f0,.int .i64 x.f1.f0,.int .i64 x.f1.f1,.string x.f1.f2,.string x.f2,.slice A' x.f3.length c'] 43 (0,0))=W at B1 B2 HB ⊢
 clear hW hb1 hb2
 have ac0:W.cell? ⟨b1,0,none⟩=some (.string x.f0):=(blk_cell B1.out 0).trans rfl
 have ac1:W.cell? ⟨b1,1,none⟩=some (.int .i64 x.f1.f0):=(blk_cell B1.out 1).trans rfl
 have ac2:W.cell? ⟨b1,2,none⟩=some (.int .i64 x.f1.f1):=(blk_cell B1.out 2).trans rfl
 have ac3:W.cell? ⟨b1,3,none⟩=some (.string x.f1.f2):=(blk_cell B1.out 3).trans rfl
 have ac4:W.cell? ⟨b1,4,none⟩=some (.string x.f2):=(blk_cell B1.out 4).trans rfl
 have ac5:W.cell? ⟨b1,5,none⟩=some (.slice A x.f3.length c):=(blk_cell B1.out 5).trans rfl
 have bc0:W.cell? ⟨b2,0,none⟩=some (.string x.f0):=(blk_cell B2.out 0).trans rfl
 have bc1:W.cell? ⟨b2,1,none⟩=some (.int .i64 x.f1.f0):=(blk_cell B2.out 1).trans rfl
 have bc2:W.cell? ⟨b2,2,none⟩=some (.int .i64 x.f1.f1):=(blk_cell B2.out 2).trans rfl
 have bc3:W.cell? ⟨b2,3,none⟩=some (.string x.f1.f2):=(blk_cell B2.out 3).trans rfl
 have bc4:W.cell? ⟨b2,4,none⟩=some (.string x.f2):=(blk_cell B2.out 4).trans rfl
 have bc5:W.cell? ⟨b2,5,none⟩=some (.slice A' x.f3.length c'):=(blk_cell B2.out 5).trans rfl
 have hl1:=blk_lt B1.out
 have hl2:=blk_lt B2.out
 go_wp2_with (first | (go_at_call 108;refine (ih x.f3 W A A' c c' hx2 hc hc' (Kd.C_below HC.out HB.out) (Kd.C_below HC'.out HB.out)).mono ?_;rintro e1 w1 ⟨rfl,hb⟩;have HB1:=Aside0.mk hb;clear hb))
 go_ret
 exact ⟨rfl,below_step HB.out HB1.out⟩
theorem fus_mem2 {x:S43}:∀ {l:List S43},x ∈ l → fu x + 1 ≤ fus l
 | y :: l,h => by
  unfold fus
  rcases List.mem_cons.1 h with rfl | h
  ·omega
  ·have:=fus_mem2 h
   omega
set_option maxHeartbeats 2000000 in
set_option maxRecDepth 100000 in
theorem sameList_step (n:Nat) (hn:n ≤ 4611686018427387904) (ih:SameExprAt n):SameListAt (n + 1):=by
 intro l w A A' c c' hl hc hc' hC hC'
 have HC:=Aside0.mk hC
 have HC':=Aside0.mk hC'
 have HL:=Aside0.mk hl
 have HLB:=Aside0.mk (Nat.le_trans (len_fus l) hl)
 clear hC hC' hl
 go_enter Tryz.func108,Tryz.ntmps108
 go_wp2
 go_loopg [5] l.length (fun kq v5 w' => ∃ j:Nat,v5 = .int .i64 (j:Int)∧Aside0 (j + kq=l.length)∧Aside0 (Below w.heap.size w w'))
 case atStart => exact ⟨0,rfl,⟨by omega⟩,⟨Below.refl _ _⟩⟩
 case round =>
  obtain ⟨j,rfl,HJ,HB⟩:=hrel
  have hjl:=HJ.out
  cases gk with
  | zero =>
   have d0:decide ((j:Int) < (l.length:Int))=false:=decide_eq_false (by omega)
   have d1:decide (j < l.length)=false:=decide_eq_false (by omega)
   clear hjl
   go_wp2
   go_ret
   exact ⟨rfl,HB.out⟩
  | succ k1 =>
   have d0:decide ((j:Int) < (l.length:Int))=true:=decide_eq_true (by omega)
   have d1:decide (j < l.length)=true:=decide_eq_true (by omega)
   have p1:0 ≤ (j:Int):=by omega
   have q1:(j:Int) < (l.length:Int):=by omega
   obtain ⟨ad,A5,c5,e5,x0,x1,x2,x3,x4,x5,hl5,hi5⟩:=at_T43 (Kd.C_below HC.out HB.out) (j:Int) p1 q1
   obtain ⟨ae,A6,c6,e6,y0,y1,y2,y3,y4,y5,hl6,hi6⟩:=at_T43 (Kd.C_below HC'.out HB.out) (j:Int) p1 q1
   cases e5
   cases e6
   have hjn:j < l.length:=by omega
   have hrd:rd_T43 l (j:Int)=l[j]:=by
    unfold rd_T43
    rw [Int.toNat_natCast,List.getD_eq_getElem?_getD,List.getElem?_eq_getElem hjn]
    rfl
   obtain ⟨x,hx⟩:∃ x,rd_T43 l (j:Int)=x:=⟨_,rfl⟩
   rw [hx] at x0 x1 x2 x3 x4 x5 hl5 hi5 y0 y1 y2 y3 y4 y5 hl6 hi6
   simp only [Int.toNat_natCast] at x0 x1 x2 x3 x4 x5 y0 y1 y2 y3 y4 y5
   have hxm:x ∈ l:=by rw [← hx,hrd];exact List.getElem_mem _
   have HFX:=Aside0.mk (show fu x ≤ n by have h1:=fus_mem2 hxm;have:=HL.out;omega)
   have HI:=Aside0.mk hi5
   have HI6:=Aside0.mk hi6
   have HJ1:=Aside0.mk (show j + 1 + k1=l.length by omega)
   have hw1:wrap64 ((j:Int) + 1)=((j + 1:Nat):Int):=by unfold wrap64;have:=HLB.out;omega
   have p2:((j:Int) < 0)=False:=eq_false (by omega)
   replace p1:=eq_true p1
   replace q1:=eq_true q1
   clear hi5 hi6 hx hrd hjl hxm
   go_wp2
   refine start_ (n:=10) (S:=fun w' => w'.cell? (ad.add (j * 6))=some (.string x.f0)∧w'.cell? ⟨(ad.add (j * 6)).block,(ad.add (j * 6)).off + 1,none⟩=some (.int .i64 x.f1.f0)∧w'.cell? ⟨(ad.add (j * 6)).block,(ad.add (j * 6)).off + 2,none⟩=some (.int .i64 x.f1.f1)∧w'.cell? ⟨(ad.add (j * 6)).block,(ad.add (j * 6)).off + 3,none⟩=some (.string x.f1.f2)∧w'.cell? ⟨(ad.add (j * 6)).block,(ad.add (j * 6)).off + 4,none⟩=some (.string x.f2)∧w'.cell? ⟨(ad.add (j * 6)).block,(ad.add (j * 6)).off + 5,none⟩=some (.slice A5 x.f3.length c5)∧w'.cell? (ae.add (j * 6))=some (.string x.f0)∧w'.cell? ⟨(ae.add (j * 6)).block,(ae.add (j * 6)).off + 1,none⟩=some (.int .i64 x.f1.f0)∧w'.cell? ⟨(ae.add (j * 6)).block,(ae.add (j * 6)).off + 2,none⟩=some (.int .i64 x.f1.f1)∧w'.cell? ⟨(ae.add (j * 6)).block,(ae.add (j * 6)).off + 3,none⟩=some (.string x.f1.f2)∧w'.cell? ⟨(ae.add (j * 6)).block,(ae.add (j * 6)).off + 4,none⟩=some (.string x.f2)∧w'.cell? ⟨(ae.add (j * 6)).block,(ae.add (j * 6)).off + 5,none⟩=some (.slice A6 x.f3.length c6)) (ds:=[]) #[false,false,false,false,false,false,false,false,false,false] (by kernel_rfl) rfl rfl ⟨x0,x1,x2,x3,x4,x5,y0,y1,y2,y3,y4,y5⟩ (fun hHeld => ?_)
   refine pure_ (i:=0) (N:=some 17) (v:=?_) (a':=?_) #[true,false,false,false,false,false,false,false,false,false] rfl rfl (by kernel_rfl) (fun _ _ _ h => h) (Or.inl ⟨by rfl,?_⟩) ?_ ?_
   rotate_left
   ·intro w'
    go_simp
    with_reducible rfl
   rotate_left
   ·simp only [Act.put,List.setIfInBounds_toArray,List.set_cons_zero,List.set_cons_succ,i64_w,i32_w]
    rfl
   refine pure_ (i:=1) (N:=some 18) (v:=?_) (a':=?_) #[true,true,false,false,false,false,false,false,false,false] rfl rfl (by kernel_rfl) (fun _ _ _ h => h) (Or.inl ⟨by rfl,?_⟩) ?_ ?_
   rotate_left
   ·intro w'
    go_simp
    with_reducible rfl
   rotate_left
   ·simp only [Act.put,List.setIfInBounds_toArray,List.set_cons_zero,List.set_cons_succ,i64_w,i32_w]
    rfl
   refine pure_ (i:=2) (N:=some 19) (v:=?_) (a':=?_) #[true,true,true,false,false,false,false,false,false,false] rfl rfl (by kernel_rfl) (fun _ _ _ h => h) (Or.inl ⟨by rfl,?_⟩) ?_ ?_
   rotate_left
   ·intro w'
    go_simp
    with_reducible rfl
   rotate_left
   ·simp only [Act.put,List.setIfInBounds_toArray,List.set_cons_zero,List.set_cons_succ,i64_w,i32_w]
    rfl
   refine take_ (i:=3) (N:=some 20) (v:=?_) (a':=?_) #[true,true,true,true,false,false,false,false,false,false] rfl rfl (by kernel_rfl) (fun _ _ _ h => h) (Or.inl ⟨by rfl,?_⟩) hHeld ?_ ?_
   rotate_left
   ·rintro w' ⟨s0,s1,s2,s3,s4,s5,s6,s7,s8,s9,s10,s11⟩
    go_simp
    with_reducible rfl
   rotate_left
   ·simp only [Act.put,List.setIfInBounds_toArray,List.set_cons_zero,List.set_cons_succ,i64_w,i32_w]
    rfl
   refine pure_ (i:=4) (N:=some 21) (v:=?_) (a':=?_) #[true,true,true,true,true,false,false,false,false,false] rfl rfl (by kernel_rfl) (fun _ _ _ h => h) (Or.inl ⟨by rfl,?_⟩) ?_ ?_
   rotate_left
   ·intro w'
    go_simp
    with_reducible rfl
   rotate_left
   ·simp only [Act.put,List.setIfInBounds_toArray,List.set_cons_zero,List.set_cons_succ,i64_w,i32_w]
    rfl
   refine pure_ (i:=5) (N:=some 22) (v:=?_) (a':=?_) #[true,true,true,true,true,true,false,false,false,false] rfl rfl (by kernel_rfl) (fun _ _ _ h => h) (Or.inl ⟨by rfl,?_⟩) ?_ ?_
   rotate_left
   ·intro w'
    go_simp
    with_reducible rfl
   rotate_left
   ·simp only [Act.put,List.setIfInBounds_toArray,List.set_cons_zero,List.set_cons_succ,i64_w,i32_w]
    rfl
   refine pure_ (i:=6) (N:=some 23) (v:=?_) (a':=?_) #[true,true,true,true,true,true,true,false,false,false] rfl rfl (by kernel_rfl) (fun _ _ _ h => h) (Or.inl ⟨by rfl,?_⟩) ?_ ?_
   rotate_left
   ·intro w'
    go_simp
    with_reducible rfl
   rotate_left
   ·simp only [Act.put,List.setIfInBounds_toArray,List.set_cons_zero,List.set_cons_succ,i64_w,i32_w]
    rfl
   refine take_ (i:=7) (N:=some 24) (v:=?_) (a':=?_) #[true,true,true,true,true,true,true,true,false,false] rfl rfl (by kernel_rfl) (fun _ _ _ h => h) (Or.inl ⟨by rfl,?_⟩) hHeld ?_ ?_
   rotate_left
   ·rintro w' ⟨s0,s1,s2,s3,s4,s5,s6,s7,s8,s9,s10,s11⟩
    go_simp
    with_reducible rfl
   rotate_left
   ·simp only [Act.put,List.setIfInBounds_toArray,List.set_cons_zero,List.set_cons_succ,i64_w,i32_w]
    rfl
   refine one_ (i:=8) (N:=some 25) #[true,true,true,true,true,true,true,true,true,false] rfl rfl (by kernel_rfl) (by decide) (fun K hK => ?_)
   refine goes_ Tryz.func47 (by kernel_rfl) rfl #[.agg (cells43 x A5 c5).toArray,.agg (cells43 x A6 c6).toArray] (by rfl) rfl rfl (by (try simp only [List.map_toArray,List.map_cons,List.map_nil]);first | done | rfl) ?_
   refine (ih x wr.drew A5 A6 c5 c6 HFX.out hl5 hl6 (Kd.C_below HI.out (below_drew1 (Below.refl _ _))) (Kd.C_below HI6.out (below_drew1 (Below.refl _ _)))).mono ?_
   rintro e1 w1 ⟨rfl,hb⟩
   have HB1:=Aside0.mk (below_step (below_drew1 (Below.refl wr.heap.size wr)) hb)
   refine ⟨_,rfl,?_⟩
   clear hb
   have z0:=pw_cell_below HB1.out x0
   have z1:=pw_cell_below HB1.out x1
   have z2:=pw_cell_below HB1.out x2
   have z3:=pw_cell_below HB1.out x3
   have z4:=pw_cell_below HB1.out x4
   have z5:=pw_cell_below HB1.out x5
   have z6:=pw_cell_below HB1.out y0
   have z7:=pw_cell_below HB1.out y1
   have z8:=pw_cell_below HB1.out y2
   have z9:=pw_cell_below HB1.out y3
   have z10:=pw_cell_below HB1.out y4
   have z11:=pw_cell_below HB1.out y5
   refine hK.out _ _ ⟨z0,z1,z2,z3,z4,z5,z6,z7,z8,z9,z10,z11⟩ (fun hHeld => ?_)
   clear hK K
   refine norm_ (a':=?_) ?_ ?_
   rotate_left
   ·show Act.put _ (some 25) _=_
    simp only [Act.put,List.setIfInBounds_toArray,List.set_cons_zero,List.set_cons_succ,i64_w,i32_w]
    rfl
   refine pure_ (i:=9) (N:=some 26) (v:=?_) (a':=?_) #[true,true,true,true,true,true,true,true,true,true] rfl rfl (by kernel_rfl) (fun _ _ _ h => h) (Or.inl ⟨by rfl,?_⟩) ?_ ?_
   rotate_left
   ·intro w'
    go_simp
    with_reducible rfl
   rotate_left
   ·simp only [Act.put,List.setIfInBounds_toArray,List.set_cons_zero,List.set_cons_succ,i64_w,i32_w]
    rfl
   refine done_ (by kernel_rfl) ?_
   go_wp2
   go_roundg k1
   case measure => first | exact Nat.lt_succ_self _ | omega
   case rel => exact ⟨j + 1,by rw [hw1],HJ1,⟨below_step HB.out HB1.out⟩⟩
theorem fus_pos (l:List S43):1 ≤ fus l:=by
 cases l with
 | nil => simp [fus]
 | cons x l => unfold fus;omega
theorem same_all:∀ n,n ≤ 4611686018427387904 → SameListAt n∧SameExprAt n:=by
 intro n
 induction n with
 | zero =>
  intro _
  refine ⟨fun l w A A' c c' h => ?_,fun x w A A' c c' h => ?_⟩
  ·have:=fus_pos l;omega
  ·have:=fu_eq x;omega
 | succ n ih =>
  intro hn
  obtain ⟨h1,h2⟩:=ih (by omega)
  exact ⟨sameList_step n (by omega) h2,sameExpr_step n h1⟩
theorem sameExpr_out {x:S43} {w:World} {A A':Option Addr} {c c':Nat} (hx:fu x ≤ 4611686018427387904) (hc:x.f3.length ≤ c) (hc':x.f3.length ≤ c') (hC:Kd.C k43 w A x.f3.length x.f3) (hC':Kd.C k43 w A' x.f3.length x.f3):Calls Tryz.prog 47 #[.agg (cells43 x A c).toArray,.agg (cells43 x A' c').toArray] w fun e w' => e = .returned (.bool true)∧Below w.heap.size w w' :=
 (same_all _ (Nat.le_refl _)).2 x w A A' c c' hx hc hc' hC hC'
end Go.Proofs.YtcgdncpioafbdaaGreatDoor.Q
namespace Go.Proofs.YtcgdncpioafbdaaGreatDoor.Q
open Go Go.RowKit Go.Proofs.YtcgdncpioafbdaaGreatDoorW.PrintWords Go.Proofs.YtcgdncpioafbdaaGreatDoorW.PrintLast Go.Proofs.YtcgdncpioafbdaaGreatDoorW.PrintMore
theorem goesC_ {P : Program} {ops : Array Oper} {Q : Exit → Act → World → Prop} {oi : Oper} {N : Option Tmp} {a : Act} {w : World} {K : Act → World → Prop} {f : FuncId} {fn : Func} {y : Operand} {oa : Array Operand} {ts : Array TypeId} (hf : P.funcs[f]? = some fn) (hname : (fn.name == "runtime.NumGoroutine") = false) (hb : fn.body.isSome = true) (caps args : Array Value)
  (hw:Region.wanted oi (yielded ops a.tmps)=true) (hN:oi.dst=N) (hop:oi.op = .call { callee:=.value y,args:=oa,argTypes:=ts }) (hx:a.eval y = .func (.func f) #[] caps) (hargs:oa.map a.eval ++ caps=args)
  (h:Calls P f args w fun e w' => ∃ v,e = .returned v∧K (a.put N v) w'):if Region.wanted oi (yielded ops a.tmps)=true then Oper.wp P oi a w K Q else K (a.put N undef) w:=by
 refine call_ f args hw hN ?_ h
 have he:=enters_ hf hname hb args w
 unfold execOp
 simp [hop,resolve,Deferred.ofValue,invoke,hx,hargs,he]
def TextAt (n:Nat):Prop:=∀ (x:S43) (w:World) (A:Option Addr) (c:Nat),fu x ≤ n → TG x → (txt x).size ≤ 1000000000 → GV w → x.f3.length ≤ c → Kd.C k43 w A x.f3.length x.f3 → Calls Tryz.prog 41 #[.agg (cells43 x A c).toArray] w fun e w' => e = .returned (.string (txt x))∧Below w.heap.size w w'
def InAt (n:Nat):Prop:=∀ (x:S43) (w:World) (A:Option Addr) (c b:Nat) (iv:Int) (i:Nat),iv=(i:Int) → i < 2 → fus x.f3 ≤ n → TGs x.f3 → (inn x.f3 i).size ≤ 1000000000 → GV w → x.f3.length ≤ c → Kd.C k43 w A x.f3.length x.f3 → w.heap[b]? = some (.cells (cells43 x A c).toArray 43 (0,0)) → Calls Tryz.prog 100 #[.int .i64 iv,.pointer (some ⟨b,0,none⟩)] w fun e w' => e = .returned (.string (inn x.f3 i))∧Below w.heap.size w w'
set_option maxHeartbeats 1000000 in
set_option maxRecDepth 100000 in
theorem in_step (n:Nat) (ih:TextAt n):InAt (n + 1):=by
 intro x w A c b iv i hiv hi2 hx hT hz hG hc hC hB
 subst hiv
 have HC:=Aside0.mk hC
 have HX:=Aside0.mk hx
 have HT:=Aside0.mk hT
 have HZ:=Aside0.mk hz
 have HG:=Aside0.mk hG
 have BK:=Aside0.mk (show w.heap[b]? = some (.cells #[.string x.f0,.int .i64 x.f1.f0,.int .i64 x.f1.f1,.string x.f1.f2,.string x.f2,.slice A x.f3.length c] 43 (0,0)) from hB)
 have cc0:w.cell? ⟨b,0,none⟩=some (.string x.f0):=(blk_cell BK.out 0).trans rfl
 have cc1:w.cell? ⟨b,1,none⟩=some (.int .i64 x.f1.f0):=(blk_cell BK.out 1).trans rfl
 have cc2:w.cell? ⟨b,2,none⟩=some (.int .i64 x.f1.f1):=(blk_cell BK.out 2).trans rfl
 have cc3:w.cell? ⟨b,3,none⟩=some (.string x.f1.f2):=(blk_cell BK.out 3).trans rfl
 have cc4:w.cell? ⟨b,4,none⟩=some (.string x.f2):=(blk_cell BK.out 4).trans rfl
 have cc5:w.cell? ⟨b,5,none⟩=some (.slice A x.f3.length c):=(blk_cell BK.out 5).trans rfl
 have hb:=blk_lt BK.out
 clear hC hx hT hz hG hB
 by_cases hi:i < x.f3.length
 ·have d0:decide ((i:Int) < (x.f3.length:Int))=true:=decide_eq_true (by omega)
  have d1:decide (i < x.f3.length)=true:=decide_eq_true hi
  have p1:0 ≤ (i:Int):=by omega
  have q1:(i:Int) < (x.f3.length:Int):=by omega
  obtain ⟨ad,A5,c5,e5,x0,x1,x2,x3,x4,x5,hl5,hi5⟩:=at_T43 HC.out (i:Int) p1 q1
  cases e5
  have hrd:rd_T43 x.f3 (i:Int)=x.f3[i]:=by
   unfold rd_T43
   rw [Int.toNat_natCast,List.getD_eq_getElem?_getD,List.getElem?_eq_getElem hi]
   rfl
  have HI:=Aside0.mk (inn_some hi)
  obtain ⟨y,hy⟩:∃ y,x.f3[i]=y:=⟨_,rfl⟩
  have HY:=Aside0.mk hy
  rw [hrd,hy] at x0 x1 x2 x3 x4 x5 hl5 hi5
  simp only [Int.toNat_natCast] at x0 x1 x2 x3 x4 x5
  have hym:y ∈ x.f3:=by rw [← hy];exact List.getElem_mem _
  have HFX:=Aside0.mk (show fu y ≤ n by have h1:=fus_mem2 hym;have:=HX.out;omega)
  have HTY:=Aside0.mk (TGs_mem hym HT.out)
  have HL5:=Aside0.mk hl5
  have HC5:=Aside0.mk hi5
  have hz1:(txt y).size + 2 ≤ 1000000000:=by
   have h1:=HZ.out
   rw [HI.out,HY.out] at h1
   have e1:(⟨#[40]⟩:ByteArray).size=1:=rfl
   have e2:(⟨#[41]⟩:ByteArray).size=1:=rfl
   rw [ByteArray.size_append,ByteArray.size_append,e1,e2] at h1
   omega
  have p2:((i:Int) < 0)=False:=eq_false (by omega)
  have HZY:=Aside0.mk (show (txt y).size ≤ 1000000000 by omega)
  replace p1:=eq_true p1
  replace q1:=eq_true q1
  clear hl5 hi5 hrd hym hy
  go_enter Tryz.func100,Tryz.ntmps100
  go_wp2_with (first | (go_at_call 41;go_must (refine (ih y _ A5 c5 HFX.out HTY.out HZY.out HG.out HL5.out HC5.out).mono ?_);rintro e1 w1 ⟨rfl,hb1⟩;have HB1:=Aside0.mk hb1;clear hb1))
  go_ret
  exact ⟨by rw [HI.out,HY.out];rfl,HB1.out⟩
 ·have d0:decide ((i:Int) < (x.f3.length:Int))=false:=decide_eq_false (by omega)
  have d1:decide (i < x.f3.length)=false:=decide_eq_false hi
  have HI:=Aside0.mk (inn_none (Nat.le_of_not_lt hi))
  go_enter Tryz.func100,Tryz.ntmps100
  go_wp2
  go_ret
  exact ⟨by rw [HI.out];rfl,Below.refl _ _⟩
end Go.Proofs.YtcgdncpioafbdaaGreatDoor.Q
namespace Go.Proofs.YtcgdncpioafbdaaGreatDoor.Q
open Go Go.RowKit Go.Proofs.YtcgdncpioafbdaaGreatDoorW.PrintWords Go.Proofs.YtcgdncpioafbdaaGreatDoorW.PrintLast Go.Proofs.YtcgdncpioafbdaaGreatDoorW.PrintMore
theorem bigB_true {s:ByteArray} (h:bigB s=true):Ps.binds s > 3∧(s.toList == [105,115])=false:=by
 unfold bigB at h
 simpa using h
theorem bigB_false {s:ByteArray} (h:¬ bigB s=true):¬ Ps.binds s > 3 ∨ (s.toList == [105,115])=true:=by
 unfold bigB at h
 by_cases h1:Ps.binds s > 3
 ·right
  simpa [h1] using h
 ·exact .inl h1
set_option maxHeartbeats 2000000 in
set_option maxRecDepth 100000 in
theorem text_step (n:Nat) (ih:InAt n):TextAt (n + 1):=by
 intro x w A c hx hT hz hG hc hC
 have HX:=Aside0.mk (show fus x.f3 ≤ n by have:=fu_eq x;omega)
 have HT:=Aside0.mk ((TG_eq x).1 hT).2
 have HN:=Aside0.mk ((TG_eq x).1 hT).1
 have HZ:=Aside0.mk hz
 have HL:=Aside0.mk hc
 clear hx hT hz hc
 unfold cells43
 go_enter Tryz.func41,Tryz.ntmps41
 go_upto_region 1 with (fail)
 have HB:=Aside0.mk (below_alloc (Below.refl w.heap.size w) (.cells #[.string x.f0,.int .i64 x.f1.f0,.int .i64 x.f1.f1,.string x.f1.f2,.string x.f2,.slice A x.f3.length c] 43 (0,0)))
 have HG1:=Aside0.mk (hG.below HB.out)
 have HC1:=Aside0.mk (Kd.C_below hC HB.out)
 have BK:=Aside0.mk (new_blk (W:=w) (.cells #[.string x.f0,.int .i64 x.f1.f0,.int .i64 x.f1.f1,.string x.f1.f2,.string x.f2,.slice A x.f3.length c] 43 (0,0)) rfl)
 clear hG hC
 have HG:=HG1
 have HC:=HC1
 clear HG1 HC1
 generalize hb1:w.heap.size=b at BK ⊢
 generalize hW:w.alloc (.cells #[.string x.f0,.int .i64 x.f1.f0,.int .i64 x.f1.f1,.string x.f1.f2,.string x.f2,.slice A x.f3.length c] 43 (0,0))=W at HB HG HC BK ⊢
 clear hW
 have cc0:W.cell? ⟨b,0,none⟩=some (.string x.f0):=(blk_cell BK.out 0).trans rfl
 have cc1:W.cell? ⟨b,1,none⟩=some (.int .i64 x.f1.f0):=(blk_cell BK.out 1).trans rfl
 have cc2:W.cell? ⟨b,2,none⟩=some (.int .i64 x.f1.f1):=(blk_cell BK.out 2).trans rfl
 have cc3:W.cell? ⟨b,3,none⟩=some (.string x.f1.f2):=(blk_cell BK.out 3).trans rfl
 have cc4:W.cell? ⟨b,4,none⟩=some (.string x.f2):=(blk_cell BK.out 4).trans rfl
 have cc5:W.cell? ⟨b,5,none⟩=some (.slice A x.f3.length c):=(blk_cell BK.out 5).trans rfl
 have hlt:=blk_lt BK.out
 by_cases c0:x.f0.toList=[118,97,108]
 ·have f01:(x.f0.toList == [118,97,108])=true:=beq_iff_eq.mpr c0
  have e0:=txt_eq x
  unfold txtB at e0
  rw [if_pos c0] at e0
  clear c0
  have HL1:=Aside0.mk (pLit (k:=40) (v:=x.f1) (by omega) HN.out.1 HN.out.2.1 (by have h1:=HZ.out;rw [e0] at h1;exact h1))
  have HT0:=Aside0.mk e0
  clear e0
  go_wp2_with (first | (go_at_call 101;refine (parse_literal.calls 40 x.f1.f0 x.f1.f1 x.f1.f2 (lit x.f1) _ HL1.out HG.out).mono ?_;rintro e1 w1 ⟨rfl,hb⟩;have HB1:=Aside0.mk hb;clear hb))
  go_ret
  exact ⟨by rw [HT0.out];rfl,below_step HB.out HB1.out⟩
 ·skip
  by_cases c1:x.f0.toList=[99,111,108]
  ·have f00:(x.f0.toList == [118,97,108])=false:=beq_eq_false_iff_ne.mpr c0
   have f11:(x.f0.toList == [99,111,108])=true:=beq_iff_eq.mpr c1
   have e0:=txt_eq x
   unfold txtB at e0
   rw [if_neg c0,if_pos c1] at e0
   clear c0 c1
   have HT0:=Aside0.mk e0
   clear e0
   go_wp2
   go_ret
   exact ⟨by rw [HT0.out];rfl,HB.out⟩
  ·skip
   by_cases c2:x.f0.toList=[111,114]
   ·have f00:(x.f0.toList == [118,97,108])=false:=beq_eq_false_iff_ne.mpr c0
    have f10:(x.f0.toList == [99,111,108])=false:=beq_eq_false_iff_ne.mpr c1
    have f21:(x.f0.toList == [111,114])=true:=beq_iff_eq.mpr c2
    have e0:=txt_eq x
    unfold txtB at e0
    rw [if_neg c0,if_neg c1,if_pos c2] at e0
    simp only [← inn_def] at e0
    clear c0 c1 c2
    have hz:(inn x.f3 0).size + 1 + x.f0.size + 1 + (inn x.f3 1).size ≤ 1000000000:=by
     have h1:=HZ.out
     rw [e0] at h1
     simp only [ByteArray.size_append,(show (⟨#[32]⟩:ByteArray).size=1 from rfl),(show (⟨#[110,111,116,32]⟩:ByteArray).size=4 from rfl),(show (⟨#[45]⟩:ByteArray).size=1 from rfl),(show (⟨#[32,105,115,32,110,117,108,108]⟩:ByteArray).size=8 from rfl)] at h1
     exact h1
    have HZ0:=Aside0.mk (show (inn x.f3 0).size ≤ 1000000000 by omega)
    have HZ1:=Aside0.mk (show (inn x.f3 1).size ≤ 1000000000 by omega)
    have t0:(9223372036854775807 < (inn x.f3 0).size + 1)=False:=eq_false (by omega)
    have t1:(9223372036854775807 < (inn x.f3 0).size + 1 + x.f0.size)=False:=eq_false (by omega)
    have t2:(9223372036854775807 < (inn x.f3 0).size + 1 + x.f0.size + 1)=False:=eq_false (by omega)
    have t3:(9223372036854775807 < (inn x.f3 0).size + 1 + x.f0.size + 1 + (inn x.f3 1).size)=False:=eq_false (by omega)
    have HT0:=Aside0.mk e0
    clear e0
    go_upto_region 9 with (fail)
    refine start_ (n:=11) (S:=fun w' => w'.cell? ⟨b,0,none⟩=some (.string x.f0)∧Below W.heap.size W w') (ds:=[]) #[false,false,false,false,false,false,false,false,false,false,false] (by kernel_rfl) rfl rfl ⟨cc0,below_drew1 (Below.refl _ _)⟩ (fun hHeld => ?_)
    refine pure_ (i:=0) (N:=some 19) (v:=?_) (a':=?_) #[true,false,false,false,false,false,false,false,false,false,false] rfl rfl (by kernel_rfl) (fun _ _ _ h => h) (Or.inl ⟨by rfl,?_⟩) ?_ ?_
    rotate_left
    ·intro w'
     go_simp
     with_reducible rfl
    rotate_left
    ·simp only [Act.put,List.setIfInBounds_toArray,List.set_cons_zero,List.set_cons_succ,i64_w,i32_w]
     rfl
    refine pure_ (i:=7) (N:=some 26) (v:=?_) (a':=?_) #[true,false,false,false,false,false,false,true,false,false,false] rfl rfl (by kernel_rfl) (fun _ _ _ h => h) (Or.inl ⟨by rfl,?_⟩) ?_ ?_
    rotate_left
    ·intro w'
     go_simp
     with_reducible rfl
    rotate_left
    ·simp only [Act.put,List.setIfInBounds_toArray,List.set_cons_zero,List.set_cons_succ,i64_w,i32_w]
     rfl
    refine pure_ (i:=3) (N:=some 22) (v:=?_) (a':=?_) #[true,false,false,true,false,false,false,true,false,false,false] rfl rfl (by kernel_rfl) (fun _ _ _ h => h) (Or.inl ⟨by rfl,?_⟩) ?_ ?_
    rotate_left
    ·intro w'
     go_simp
     with_reducible rfl
    rotate_left
    ·simp only [Act.put,List.setIfInBounds_toArray,List.set_cons_zero,List.set_cons_succ,i64_w,i32_w]
     rfl
    refine take_ (i:=4) (N:=some 23) (v:=?_) (a':=?_) #[true,false,false,true,true,false,false,true,false,false,false] rfl rfl (by kernel_rfl) (fun _ _ _ h => h) (Or.inl ⟨by rfl,?_⟩) hHeld ?_ ?_
    rotate_left
    ·rintro w' ⟨s0,_⟩
     go_simp
     with_reducible rfl
    rotate_left
    ·simp only [Act.put,List.setIfInBounds_toArray,List.set_cons_zero,List.set_cons_succ,i64_w,i32_w]
     rfl
    refine one_ (i:=1) (N:=some 20) #[true,true,false,true,true,false,false,true,false,false,false] rfl rfl (by kernel_rfl) (by decide) (fun K hK => ?_)
    refine goesC_ Tryz.func100 (by kernel_rfl) rfl #[.pointer (some ⟨b,0,none⟩)] #[.int .i64 0,.pointer (some ⟨b,0,none⟩)] (by rfl) rfl rfl (by rfl) (by simp only [List.map_toArray,List.map_cons,List.map_nil,List.append_toArray,List.cons_append,List.nil_append];rfl) ?_
    refine (ih x _ A c b 0 0 rfl (by omega) HX.out HT.out HZ0.out (HG.out.below (below_drew1 (Below.refl W.heap.size W))) HL.out (Kd.C_below HC.out (below_drew1 (Below.refl W.heap.size W))) (((below_drew1 (Below.refl W.heap.size W))).block b hlt ▸ BK.out)).mono ?_
    rintro e1 w1 ⟨rfl,hb⟩
    have HB1:=Aside0.mk (below_step (below_drew1 (Below.refl W.heap.size W)) hb)
    refine ⟨_,rfl,?_⟩
    clear hb
    have z1:=pw_cell_below HB1.out cc0
    refine hK.out _ _ ⟨z1,HB1.out⟩ (fun hHeld => ?_)
    clear hK K z1
    refine norm_ (a':=?_) ?_ ?_
    rotate_left
    ·show Act.put _ (some 20) _=_
     simp only [Act.put,List.setIfInBounds_toArray,List.set_cons_zero,List.set_cons_succ,i64_w,i32_w]
     rfl
    refine pure_ (i:=2) (N:=some 21) (v:=?_) (a':=?_) #[true,true,true,true,true,false,false,true,false,false,false] rfl rfl (by kernel_rfl) (fun _ _ _ h => h) (Or.inl ⟨by rfl,?_⟩) ?_ ?_
    rotate_left
    ·intro w'
     go_simp
     with_reducible rfl
    rotate_left
    ·simp only [Act.put,List.setIfInBounds_toArray,List.set_cons_zero,List.set_cons_succ,i64_w,i32_w]
     rfl
    refine pure_ (i:=5) (N:=some 24) (v:=?_) (a':=?_) #[true,true,true,true,true,true,false,true,false,false,false] rfl rfl (by kernel_rfl) (fun _ _ _ h => h) (Or.inl ⟨by rfl,?_⟩) ?_ ?_
    rotate_left
    ·intro w'
     go_simp
     with_reducible rfl
    rotate_left
    ·simp only [Act.put,List.setIfInBounds_toArray,List.set_cons_zero,List.set_cons_succ,i64_w,i32_w]
     rfl
    refine pure_ (i:=6) (N:=some 25) (v:=?_) (a':=?_) #[true,true,true,true,true,true,true,true,false,false,false] rfl rfl (by kernel_rfl) (fun _ _ _ h => h) (Or.inl ⟨by rfl,?_⟩) ?_ ?_
    rotate_left
    ·intro w'
     go_simp
     with_reducible rfl
    rotate_left
    ·simp only [Act.put,List.setIfInBounds_toArray,List.set_cons_zero,List.set_cons_succ,i64_w,i32_w]
     rfl
    refine one_ (i:=8) (N:=some 27) #[true,true,true,true,true,true,true,true,true,false,false] rfl rfl (by kernel_rfl) (by decide) (fun K hK => ?_)
    refine goesC_ Tryz.func100 (by kernel_rfl) rfl #[.pointer (some ⟨b,0,none⟩)] #[.int .i64 1,.pointer (some ⟨b,0,none⟩)] (by rfl) rfl rfl (by rfl) (by simp only [List.map_toArray,List.map_cons,List.map_nil,List.append_toArray,List.cons_append,List.nil_append];rfl) ?_
    refine (ih x _ A c b 1 1 rfl (by omega) HX.out HT.out HZ1.out (HG.out.below HB1.out) HL.out (Kd.C_below HC.out HB1.out) ((HB1.out).block b hlt ▸ BK.out)).mono ?_
    rintro e2 w2 ⟨rfl,hb⟩
    have HB2:=Aside0.mk (below_step HB1.out hb)
    refine ⟨_,rfl,?_⟩
    clear hb
    have z2:=pw_cell_below HB2.out cc0
    refine hK.out _ _ ⟨z2,HB2.out⟩ (fun hHeld => ?_)
    clear hK K z2
    refine norm_ (a':=?_) ?_ ?_
    rotate_left
    ·show Act.put _ (some 27) _=_
     simp only [Act.put,List.setIfInBounds_toArray,List.set_cons_zero,List.set_cons_succ,i64_w,i32_w]
     rfl
    refine pure_ (i:=9) (N:=some 28) (v:=?_) (a':=?_) #[true,true,true,true,true,true,true,true,true,true,false] rfl rfl (by kernel_rfl) (fun _ _ _ h => h) (Or.inl ⟨by rfl,?_⟩) ?_ ?_
    rotate_left
    ·intro w'
     go_simp
     with_reducible rfl
    rotate_left
    ·simp only [Act.put,List.setIfInBounds_toArray,List.set_cons_zero,List.set_cons_succ,i64_w,i32_w]
     rfl
    refine pure_ (i:=10) (N:=some 2) (v:=?_) (a':=?_) #[true,true,true,true,true,true,true,true,true,true,true] rfl rfl (by kernel_rfl) (fun _ _ _ h => h) (Or.inl ⟨by rfl,?_⟩) ?_ ?_
    rotate_left
    ·intro w'
     go_simp
     with_reducible rfl
    rotate_left
    ·simp only [Act.put,List.setIfInBounds_toArray,List.set_cons_zero,List.set_cons_succ,i64_w,i32_w]
     rfl
    refine done_ (by kernel_rfl) ?_
    go_wp2
    go_ret
    exact ⟨by rw [HT0.out];rfl,below_step HB.out HB2.out⟩
   ·skip
    by_cases c3:x.f0.toList=[97,110,100]
    ·have f00:(x.f0.toList == [118,97,108])=false:=beq_eq_false_iff_ne.mpr c0
     have f10:(x.f0.toList == [99,111,108])=false:=beq_eq_false_iff_ne.mpr c1
     have f20:(x.f0.toList == [111,114])=false:=beq_eq_false_iff_ne.mpr c2
     have f31:(x.f0.toList == [97,110,100])=true:=beq_iff_eq.mpr c3
     have e0:=txt_eq x
     unfold txtB at e0
     rw [if_neg c0,if_neg c1,if_neg c2,if_pos c3] at e0
     simp only [← inn_def] at e0
     clear c0 c1 c2 c3
     have hz:(inn x.f3 0).size + 1 + x.f0.size + 1 + (inn x.f3 1).size ≤ 1000000000:=by
      have h1:=HZ.out
      rw [e0] at h1
      simp only [ByteArray.size_append,(show (⟨#[32]⟩:ByteArray).size=1 from rfl),(show (⟨#[110,111,116,32]⟩:ByteArray).size=4 from rfl),(show (⟨#[45]⟩:ByteArray).size=1 from rfl),(show (⟨#[32,105,115,32,110,117,108,108]⟩:ByteArray).size=8 from rfl)] at h1
      exact h1
     have HZ0:=Aside0.mk (show (inn x.f3 0).size ≤ 1000000000 by omega)
     have HZ1:=Aside0.mk (show (inn x.f3 1).size ≤ 1000000000 by omega)
     have t0:(9223372036854775807 < (inn x.f3 0).size + 1)=False:=eq_false (by omega)
     have t1:(9223372036854775807 < (inn x.f3 0).size + 1 + x.f0.size)=False:=eq_false (by omega)
     have t2:(9223372036854775807 < (inn x.f3 0).size + 1 + x.f0.size + 1)=False:=eq_false (by omega)
     have t3:(9223372036854775807 < (inn x.f3 0).size + 1 + x.f0.size + 1 + (inn x.f3 1).size)=False:=eq_false (by omega)
     have HT0:=Aside0.mk e0
     clear e0
     go_upto_region 9 with (fail)
     refine start_ (n:=11) (S:=fun w' => w'.cell? ⟨b,0,none⟩=some (.string x.f0)∧Below W.heap.size W w') (ds:=[]) #[false,false,false,false,false,false,false,false,false,false,false] (by kernel_rfl) rfl rfl ⟨cc0,below_drew1 (Below.refl _ _)⟩ (fun hHeld => ?_)
     refine pure_ (i:=0) (N:=some 19) (v:=?_) (a':=?_) #[true,false,false,false,false,false,false,false,false,false,false] rfl rfl (by kernel_rfl) (fun _ _ _ h => h) (Or.inl ⟨by rfl,?_⟩) ?_ ?_
     rotate_left
     ·intro w'
      go_simp
      with_reducible rfl
     rotate_left
     ·simp only [Act.put,List.setIfInBounds_toArray,List.set_cons_zero,List.set_cons_succ,i64_w,i32_w]
      rfl
     refine pure_ (i:=7) (N:=some 26) (v:=?_) (a':=?_) #[true,false,false,false,false,false,false,true,false,false,false] rfl rfl (by kernel_rfl) (fun _ _ _ h => h) (Or.inl ⟨by rfl,?_⟩) ?_ ?_
     rotate_left
     ·intro w'
      go_simp
      with_reducible rfl
     rotate_left
     ·simp only [Act.put,List.setIfInBounds_toArray,List.set_cons_zero,List.set_cons_succ,i64_w,i32_w]
      rfl
     refine pure_ (i:=3) (N:=some 22) (v:=?_) (a':=?_) #[true,false,false,true,false,false,false,true,false,false,false] rfl rfl (by kernel_rfl) (fun _ _ _ h => h) (Or.inl ⟨by rfl,?_⟩) ?_ ?_
     rotate_left
     ·intro w'
      go_simp
      with_reducible rfl
     rotate_left
     ·simp only [Act.put,List.setIfInBounds_toArray,List.set_cons_zero,List.set_cons_succ,i64_w,i32_w]
      rfl
     refine take_ (i:=4) (N:=some 23) (v:=?_) (a':=?_) #[true,false,false,true,true,false,false,true,false,false,false] rfl rfl (by kernel_rfl) (fun _ _ _ h => h) (Or.inl ⟨by rfl,?_⟩) hHeld ?_ ?_
     rotate_left
     ·rintro w' ⟨s0,_⟩
      go_simp
      with_reducible rfl
     rotate_left
     ·simp only [Act.put,List.setIfInBounds_toArray,List.set_cons_zero,List.set_cons_succ,i64_w,i32_w]
      rfl
     refine one_ (i:=1) (N:=some 20) #[true,true,false,true,true,false,false,true,false,false,false] rfl rfl (by kernel_rfl) (by decide) (fun K hK => ?_)
     refine goesC_ Tryz.func100 (by kernel_rfl) rfl #[.pointer (some ⟨b,0,none⟩)] #[.int .i64 0,.pointer (some ⟨b,0,none⟩)] (by rfl) rfl rfl (by rfl) (by simp only [List.map_toArray,List.map_cons,List.map_nil,List.append_toArray,List.cons_append,List.nil_append];rfl) ?_
     refine (ih x _ A c b 0 0 rfl (by omega) HX.out HT.out HZ0.out (HG.out.below (below_drew1 (Below.refl W.heap.size W))) HL.out (Kd.C_below HC.out (below_drew1 (Below.refl W.heap.size W))) (((below_drew1 (Below.refl W.heap.size W))).block b hlt ▸ BK.out)).mono ?_
     rintro e1 w1 ⟨rfl,hb⟩
     have HB1:=Aside0.mk (below_step (below_drew1 (Below.refl W.heap.size W)) hb)
     refine ⟨_,rfl,?_⟩
     clear hb
     have z1:=pw_cell_below HB1.out cc0
     refine hK.out _ _ ⟨z1,HB1.out⟩ (fun hHeld => ?_)
     clear hK K z1
     refine norm_ (a':=?_) ?_ ?_
     rotate_left
     ·show Act.put _ (some 20) _=_
      simp only [Act.put,List.setIfInBounds_toArray,List.set_cons_zero,List.set_cons_succ,i64_w,i32_w]
      rfl
     refine pure_ (i:=2) (N:=some 21) (v:=?_) (a':=?_) #[true,true,true,true,true,false,false,true,false,false,false] rfl rfl (by kernel_rfl) (fun _ _ _ h => h) (Or.inl ⟨by rfl,?_⟩) ?_ ?_
     rotate_left
     ·intro w'
      go_simp
      with_reducible rfl
     rotate_left
     ·simp only [Act.put,List.setIfInBounds_toArray,List.set_cons_zero,List.set_cons_succ,i64_w,i32_w]
      rfl
     refine pure_ (i:=5) (N:=some 24) (v:=?_) (a':=?_) #[true,true,true,true,true,true,false,true,false,false,false] rfl rfl (by kernel_rfl) (fun _ _ _ h => h) (Or.inl ⟨by rfl,?_⟩) ?_ ?_
     rotate_left
     ·intro w'
      go_simp
      with_reducible rfl
     rotate_left
     ·simp only [Act.put,List.setIfInBounds_toArray,List.set_cons_zero,List.set_cons_succ,i64_w,i32_w]
      rfl
     refine pure_ (i:=6) (N:=some 25) (v:=?_) (a':=?_) #[true,true,true,true,true,true,true,true,false,false,false] rfl rfl (by kernel_rfl) (fun _ _ _ h => h) (Or.inl ⟨by rfl,?_⟩) ?_ ?_
     rotate_left
     ·intro w'
      go_simp
      with_reducible rfl
     rotate_left
     ·simp only [Act.put,List.setIfInBounds_toArray,List.set_cons_zero,List.set_cons_succ,i64_w,i32_w]
      rfl
     refine one_ (i:=8) (N:=some 27) #[true,true,true,true,true,true,true,true,true,false,false] rfl rfl (by kernel_rfl) (by decide) (fun K hK => ?_)
     refine goesC_ Tryz.func100 (by kernel_rfl) rfl #[.pointer (some ⟨b,0,none⟩)] #[.int .i64 1,.pointer (some ⟨b,0,none⟩)] (by rfl) rfl rfl (by rfl) (by simp only [List.map_toArray,List.map_cons,List.map_nil,List.append_toArray,List.cons_append,List.nil_append];rfl) ?_
     refine (ih x _ A c b 1 1 rfl (by omega) HX.out HT.out HZ1.out (HG.out.below HB1.out) HL.out (Kd.C_below HC.out HB1.out) ((HB1.out).block b hlt ▸ BK.out)).mono ?_
     rintro e2 w2 ⟨rfl,hb⟩
     have HB2:=Aside0.mk (below_step HB1.out hb)
     refine ⟨_,rfl,?_⟩
     clear hb
     have z2:=pw_cell_below HB2.out cc0
     refine hK.out _ _ ⟨z2,HB2.out⟩ (fun hHeld => ?_)
     clear hK K z2
     refine norm_ (a':=?_) ?_ ?_
     rotate_left
     ·show Act.put _ (some 27) _=_
      simp only [Act.put,List.setIfInBounds_toArray,List.set_cons_zero,List.set_cons_succ,i64_w,i32_w]
      rfl
     refine pure_ (i:=9) (N:=some 28) (v:=?_) (a':=?_) #[true,true,true,true,true,true,true,true,true,true,false] rfl rfl (by kernel_rfl) (fun _ _ _ h => h) (Or.inl ⟨by rfl,?_⟩) ?_ ?_
     rotate_left
     ·intro w'
      go_simp
      with_reducible rfl
     rotate_left
     ·simp only [Act.put,List.setIfInBounds_toArray,List.set_cons_zero,List.set_cons_succ,i64_w,i32_w]
      rfl
     refine pure_ (i:=10) (N:=some 2) (v:=?_) (a':=?_) #[true,true,true,true,true,true,true,true,true,true,true] rfl rfl (by kernel_rfl) (fun _ _ _ h => h) (Or.inl ⟨by rfl,?_⟩) ?_ ?_
     rotate_left
     ·intro w'
      go_simp
      with_reducible rfl
     rotate_left
     ·simp only [Act.put,List.setIfInBounds_toArray,List.set_cons_zero,List.set_cons_succ,i64_w,i32_w]
      rfl
     refine done_ (by kernel_rfl) ?_
     go_wp2
     go_ret
     exact ⟨by rw [HT0.out];rfl,below_step HB.out HB2.out⟩
    ·skip
     by_cases c4:x.f0.toList=[110,111,116]
     ·have f00:(x.f0.toList == [118,97,108])=false:=beq_eq_false_iff_ne.mpr c0
      have f10:(x.f0.toList == [99,111,108])=false:=beq_eq_false_iff_ne.mpr c1
      have f20:(x.f0.toList == [111,114])=false:=beq_eq_false_iff_ne.mpr c2
      have f30:(x.f0.toList == [97,110,100])=false:=beq_eq_false_iff_ne.mpr c3
      have f41:(x.f0.toList == [110,111,116])=true:=beq_iff_eq.mpr c4
      have e0:=txt_eq x
      unfold txtB at e0
      rw [if_neg c0,if_neg c1,if_neg c2,if_neg c3,if_pos c4] at e0
      simp only [← inn_def] at e0
      clear c0 c1 c2 c3 c4
      have hz:4 + (inn x.f3 0).size ≤ 1000000000:=by
       have h1:=HZ.out
       rw [e0] at h1
       simp only [ByteArray.size_append,(show (⟨#[32]⟩:ByteArray).size=1 from rfl),(show (⟨#[110,111,116,32]⟩:ByteArray).size=4 from rfl),(show (⟨#[45]⟩:ByteArray).size=1 from rfl),(show (⟨#[32,105,115,32,110,117,108,108]⟩:ByteArray).size=8 from rfl)] at h1
       exact h1
      have HZ0:=Aside0.mk (show (inn x.f3 0).size ≤ 1000000000 by omega)
      have t0:(9223372036854775807 < 4 + (inn x.f3 0).size)=False:=eq_false (by omega)
      have HT0:=Aside0.mk e0
      clear e0
      go_wp2_with (first | (go_at_call 100;refine (ih x _ A c b 0 0 rfl (by omega) HX.out HT.out HZ0.out HG.out HL.out HC.out BK.out).mono ?_;rintro e1 w1 ⟨rfl,hb⟩;have HB1:=Aside0.mk hb;clear hb))
      go_ret
      exact ⟨by rw [HT0.out];rfl,below_step HB.out HB1.out⟩
     ·skip
      by_cases c5:x.f0.toList=[110,101,103]
      ·have f00:(x.f0.toList == [118,97,108])=false:=beq_eq_false_iff_ne.mpr c0
       have f10:(x.f0.toList == [99,111,108])=false:=beq_eq_false_iff_ne.mpr c1
       have f20:(x.f0.toList == [111,114])=false:=beq_eq_false_iff_ne.mpr c2
       have f30:(x.f0.toList == [97,110,100])=false:=beq_eq_false_iff_ne.mpr c3
       have f40:(x.f0.toList == [110,111,116])=false:=beq_eq_false_iff_ne.mpr c4
       have f51:(x.f0.toList == [110,101,103])=true:=beq_iff_eq.mpr c5
       have e0:=txt_eq x
       unfold txtB at e0
       rw [if_neg c0,if_neg c1,if_neg c2,if_neg c3,if_neg c4,if_pos c5] at e0
       simp only [← inn_def] at e0
       clear c0 c1 c2 c3 c4 c5
       have hz:1 + (inn x.f3 0).size ≤ 1000000000:=by
        have h1:=HZ.out
        rw [e0] at h1
        simp only [ByteArray.size_append,(show (⟨#[32]⟩:ByteArray).size=1 from rfl),(show (⟨#[110,111,116,32]⟩:ByteArray).size=4 from rfl),(show (⟨#[45]⟩:ByteArray).size=1 from rfl),(show (⟨#[32,105,115,32,110,117,108,108]⟩:ByteArray).size=8 from rfl)] at h1
        exact h1
       have HZ0:=Aside0.mk (show (inn x.f3 0).size ≤ 1000000000 by omega)
       have t0:(9223372036854775807 < 1 + (inn x.f3 0).size)=False:=eq_false (by omega)
       have HT0:=Aside0.mk e0
       clear e0
       go_wp2_with (first | (go_at_call 100;refine (ih x _ A c b 0 0 rfl (by omega) HX.out HT.out HZ0.out HG.out HL.out HC.out BK.out).mono ?_;rintro e1 w1 ⟨rfl,hb⟩;have HB1:=Aside0.mk hb;clear hb))
       go_ret
       exact ⟨by rw [HT0.out];rfl,below_step HB.out HB1.out⟩
      ·skip
       by_cases c6:x.f0.toList=[105,115,110,117,108,108]
       ·have f00:(x.f0.toList == [118,97,108])=false:=beq_eq_false_iff_ne.mpr c0
        have f10:(x.f0.toList == [99,111,108])=false:=beq_eq_false_iff_ne.mpr c1
        have f20:(x.f0.toList == [111,114])=false:=beq_eq_false_iff_ne.mpr c2
        have f30:(x.f0.toList == [97,110,100])=false:=beq_eq_false_iff_ne.mpr c3
        have f40:(x.f0.toList == [110,111,116])=false:=beq_eq_false_iff_ne.mpr c4
        have f50:(x.f0.toList == [110,101,103])=false:=beq_eq_false_iff_ne.mpr c5
        have f61:(x.f0.toList == [105,115,110,117,108,108])=true:=beq_iff_eq.mpr c6
        have e0:=txt_eq x
        unfold txtB at e0
        rw [if_neg c0,if_neg c1,if_neg c2,if_neg c3,if_neg c4,if_neg c5,if_pos c6] at e0
        simp only [← inn_def] at e0
        clear c0 c1 c2 c3 c4 c5 c6
        have hz:(inn x.f3 0).size + 8 ≤ 1000000000:=by
         have h1:=HZ.out
         rw [e0] at h1
         simp only [ByteArray.size_append,(show (⟨#[32]⟩:ByteArray).size=1 from rfl),(show (⟨#[110,111,116,32]⟩:ByteArray).size=4 from rfl),(show (⟨#[45]⟩:ByteArray).size=1 from rfl),(show (⟨#[32,105,115,32,110,117,108,108]⟩:ByteArray).size=8 from rfl)] at h1
         exact h1
        have HZ0:=Aside0.mk (show (inn x.f3 0).size ≤ 1000000000 by omega)
        have t0:(9223372036854775807 < (inn x.f3 0).size + 8)=False:=eq_false (by omega)
        have HT0:=Aside0.mk e0
        clear e0
        go_wp2_with (first | (go_at_call 100;refine (ih x _ A c b 0 0 rfl (by omega) HX.out HT.out HZ0.out HG.out HL.out HC.out BK.out).mono ?_;rintro e1 w1 ⟨rfl,hb⟩;have HB1:=Aside0.mk hb;clear hb))
        go_ret
        exact ⟨by rw [HT0.out];rfl,below_step HB.out HB1.out⟩
       ·skip
        by_cases c7:x.f0.toList=[99,111,117,110,116]
        ·have f00:(x.f0.toList == [118,97,108])=false:=beq_eq_false_iff_ne.mpr c0
         have f10:(x.f0.toList == [99,111,108])=false:=beq_eq_false_iff_ne.mpr c1
         have f20:(x.f0.toList == [111,114])=false:=beq_eq_false_iff_ne.mpr c2
         have f30:(x.f0.toList == [97,110,100])=false:=beq_eq_false_iff_ne.mpr c3
         have f40:(x.f0.toList == [110,111,116])=false:=beq_eq_false_iff_ne.mpr c4
         have f50:(x.f0.toList == [110,101,103])=false:=beq_eq_false_iff_ne.mpr c5
         have f60:(x.f0.toList == [105,115,110,117,108,108])=false:=beq_eq_false_iff_ne.mpr c6
         have f71:(x.f0.toList == [99,111,117,110,116])=true:=beq_iff_eq.mpr c7
         have e0:=txt_eq x
         unfold txtB at e0
         rw [if_neg c0,if_neg c1,if_neg c2,if_neg c3,if_neg c4,if_neg c5,if_neg c6,if_pos c7] at e0
         clear c0 c1 c2 c3 c4 c5 c6 c7
         have HT0:=Aside0.mk e0
         clear e0
         go_wp2
         go_ret
         exact ⟨by rw [HT0.out];rfl,HB.out⟩
        ·skip
         by_cases c8:x.f0.toList=[115,117,109]
         ·have f00:(x.f0.toList == [118,97,108])=false:=beq_eq_false_iff_ne.mpr c0
          have f10:(x.f0.toList == [99,111,108])=false:=beq_eq_false_iff_ne.mpr c1
          have f20:(x.f0.toList == [111,114])=false:=beq_eq_false_iff_ne.mpr c2
          have f30:(x.f0.toList == [97,110,100])=false:=beq_eq_false_iff_ne.mpr c3
          have f40:(x.f0.toList == [110,111,116])=false:=beq_eq_false_iff_ne.mpr c4
          have f50:(x.f0.toList == [110,101,103])=false:=beq_eq_false_iff_ne.mpr c5
          have f60:(x.f0.toList == [105,115,110,117,108,108])=false:=beq_eq_false_iff_ne.mpr c6
          have f70:(x.f0.toList == [99,111,117,110,116])=false:=beq_eq_false_iff_ne.mpr c7
          have f81:(x.f0.toList == [115,117,109])=true:=beq_iff_eq.mpr c8
          have e0:=txt_eq x
          unfold txtB at e0
          rw [if_neg c0,if_neg c1,if_neg c2,if_neg c3,if_neg c4,if_neg c5,if_neg c6,if_neg c7,if_pos c8] at e0
          simp only [← inn_def] at e0
          clear c0 c1 c2 c3 c4 c5 c6 c7 c8
          have hz:x.f0.size + (inn x.f3 0).size ≤ 1000000000:=by
           have h1:=HZ.out
           rw [e0] at h1
           simp only [ByteArray.size_append,(show (⟨#[32]⟩:ByteArray).size=1 from rfl),(show (⟨#[110,111,116,32]⟩:ByteArray).size=4 from rfl),(show (⟨#[45]⟩:ByteArray).size=1 from rfl),(show (⟨#[32,105,115,32,110,117,108,108]⟩:ByteArray).size=8 from rfl)] at h1
           exact h1
          have HZ0:=Aside0.mk (show (inn x.f3 0).size ≤ 1000000000 by omega)
          have t0:(9223372036854775807 < x.f0.size + (inn x.f3 0).size)=False:=eq_false (by omega)
          have HT0:=Aside0.mk e0
          clear e0
          go_upto_region 21 with (fail)
          refine start_ (n:=6) (S:=fun w' => w'.cell? ⟨b,0,none⟩=some (.string x.f0)∧Below W.heap.size W w') (ds:=[]) #[false,false,false,false,false,false] (by kernel_rfl) rfl rfl ⟨cc0,below_drew1 (Below.refl _ _)⟩ (fun hHeld => ?_)
          refine pure_ (i:=0) (N:=some 50) (v:=?_) (a':=?_) #[true,false,false,false,false,false] rfl rfl (by kernel_rfl) (fun _ _ _ h => h) (Or.inl ⟨by rfl,?_⟩) ?_ ?_
          rotate_left
          ·intro w'
           go_simp
           with_reducible rfl
          rotate_left
          ·simp only [Act.put,List.setIfInBounds_toArray,List.set_cons_zero,List.set_cons_succ,i64_w,i32_w]
           rfl
          refine pure_ (i:=2) (N:=some 52) (v:=?_) (a':=?_) #[true,false,true,false,false,false] rfl rfl (by kernel_rfl) (fun _ _ _ h => h) (Or.inl ⟨by rfl,?_⟩) ?_ ?_
          rotate_left
          ·intro w'
           go_simp
           with_reducible rfl
          rotate_left
          ·simp only [Act.put,List.setIfInBounds_toArray,List.set_cons_zero,List.set_cons_succ,i64_w,i32_w]
           rfl
          refine take_ (i:=1) (N:=some 51) (v:=?_) (a':=?_) #[true,true,true,false,false,false] rfl rfl (by kernel_rfl) (fun _ _ _ h => h) (Or.inl ⟨by rfl,?_⟩) hHeld ?_ ?_
          rotate_left
          ·rintro w' ⟨s0,_⟩
           go_simp
           with_reducible rfl
          rotate_left
          ·simp only [Act.put,List.setIfInBounds_toArray,List.set_cons_zero,List.set_cons_succ,i64_w,i32_w]
           rfl
          refine one_ (i:=3) (N:=some 53) #[true,true,true,true,false,false] rfl rfl (by kernel_rfl) (by decide) (fun K hK => ?_)
          refine goesC_ Tryz.func100 (by kernel_rfl) rfl #[.pointer (some ⟨b,0,none⟩)] #[.int .i64 0,.pointer (some ⟨b,0,none⟩)] (by rfl) rfl rfl (by rfl) (by simp only [List.map_toArray,List.map_cons,List.map_nil,List.append_toArray,List.cons_append,List.nil_append];rfl) ?_
          refine (ih x _ A c b 0 0 rfl (by omega) HX.out HT.out HZ0.out (HG.out.below (below_drew1 (Below.refl W.heap.size W))) HL.out (Kd.C_below HC.out (below_drew1 (Below.refl W.heap.size W))) (((below_drew1 (Below.refl W.heap.size W))).block b hlt ▸ BK.out)).mono ?_
          rintro e1 w1 ⟨rfl,hb⟩
          have HB1:=Aside0.mk (below_step (below_drew1 (Below.refl W.heap.size W)) hb)
          refine ⟨_,rfl,?_⟩
          clear hb
          have z1:=pw_cell_below HB1.out cc0
          refine hK.out _ _ ⟨z1,HB1.out⟩ (fun hHeld => ?_)
          clear hK K z1
          refine norm_ (a':=?_) ?_ ?_
          rotate_left
          ·show Act.put _ (some 53) _=_
           simp only [Act.put,List.setIfInBounds_toArray,List.set_cons_zero,List.set_cons_succ,i64_w,i32_w]
           rfl
          refine pure_ (i:=4) (N:=some 54) (v:=?_) (a':=?_) #[true,true,true,true,true,false] rfl rfl (by kernel_rfl) (fun _ _ _ h => h) (Or.inl ⟨by rfl,?_⟩) ?_ ?_
          rotate_left
          ·intro w'
           go_simp
           with_reducible rfl
          rotate_left
          ·simp only [Act.put,List.setIfInBounds_toArray,List.set_cons_zero,List.set_cons_succ,i64_w,i32_w]
           rfl
          refine pure_ (i:=5) (N:=some 2) (v:=?_) (a':=?_) #[true,true,true,true,true,true] rfl rfl (by kernel_rfl) (fun _ _ _ h => h) (Or.inl ⟨by rfl,?_⟩) ?_ ?_
          rotate_left
          ·intro w'
           go_simp
           with_reducible rfl
          rotate_left
          ·simp only [Act.put,List.setIfInBounds_toArray,List.set_cons_zero,List.set_cons_succ,i64_w,i32_w]
           rfl
          refine done_ (by kernel_rfl) ?_
          go_wp2
          go_ret
          exact ⟨by rw [HT0.out];rfl,below_step HB.out HB1.out⟩
         ·skip
          by_cases c9:x.f0.toList=[109,105,110]
          ·have f00:(x.f0.toList == [118,97,108])=false:=beq_eq_false_iff_ne.mpr c0
           have f10:(x.f0.toList == [99,111,108])=false:=beq_eq_false_iff_ne.mpr c1
           have f20:(x.f0.toList == [111,114])=false:=beq_eq_false_iff_ne.mpr c2
           have f30:(x.f0.toList == [97,110,100])=false:=beq_eq_false_iff_ne.mpr c3
           have f40:(x.f0.toList == [110,111,116])=false:=beq_eq_false_iff_ne.mpr c4
           have f50:(x.f0.toList == [110,101,103])=false:=beq_eq_false_iff_ne.mpr c5
           have f60:(x.f0.toList == [105,115,110,117,108,108])=false:=beq_eq_false_iff_ne.mpr c6
           have f70:(x.f0.toList == [99,111,117,110,116])=false:=beq_eq_false_iff_ne.mpr c7
           have f80:(x.f0.toList == [115,117,109])=false:=beq_eq_false_iff_ne.mpr c8
           have f91:(x.f0.toList == [109,105,110])=true:=beq_iff_eq.mpr c9
           have e0:=txt_eq x
           unfold txtB at e0
           rw [if_neg c0,if_neg c1,if_neg c2,if_neg c3,if_neg c4,if_neg c5,if_neg c6,if_neg c7,if_neg c8,if_pos c9] at e0
           simp only [← inn_def] at e0
           clear c0 c1 c2 c3 c4 c5 c6 c7 c8 c9
           have hz:x.f0.size + (inn x.f3 0).size ≤ 1000000000:=by
            have h1:=HZ.out
            rw [e0] at h1
            simp only [ByteArray.size_append,(show (⟨#[32]⟩:ByteArray).size=1 from rfl),(show (⟨#[110,111,116,32]⟩:ByteArray).size=4 from rfl),(show (⟨#[45]⟩:ByteArray).size=1 from rfl),(show (⟨#[32,105,115,32,110,117,108,108]⟩:ByteArray).size=8 from rfl)] at h1
            exact h1
           have HZ0:=Aside0.mk (show (inn x.f3 0).size ≤ 1000000000 by omega)
           have t0:(9223372036854775807 < x.f0.size + (inn x.f3 0).size)=False:=eq_false (by omega)
           have HT0:=Aside0.mk e0
           clear e0
           go_upto_region 21 with (fail)
           refine start_ (n:=6) (S:=fun w' => w'.cell? ⟨b,0,none⟩=some (.string x.f0)∧Below W.heap.size W w') (ds:=[]) #[false,false,false,false,false,false] (by kernel_rfl) rfl rfl ⟨cc0,below_drew1 (Below.refl _ _)⟩ (fun hHeld => ?_)
           refine pure_ (i:=0) (N:=some 50) (v:=?_) (a':=?_) #[true,false,false,false,false,false] rfl rfl (by kernel_rfl) (fun _ _ _ h => h) (Or.inl ⟨by rfl,?_⟩) ?_ ?_
           rotate_left
           ·intro w'
            go_simp
            with_reducible rfl
           rotate_left
           ·simp only [Act.put,List.setIfInBounds_toArray,List.set_cons_zero,List.set_cons_succ,i64_w,i32_w]
            rfl
           refine pure_ (i:=2) (N:=some 52) (v:=?_) (a':=?_) #[true,false,true,false,false,false] rfl rfl (by kernel_rfl) (fun _ _ _ h => h) (Or.inl ⟨by rfl,?_⟩) ?_ ?_
           rotate_left
           ·intro w'
            go_simp
            with_reducible rfl
           rotate_left
           ·simp only [Act.put,List.setIfInBounds_toArray,List.set_cons_zero,List.set_cons_succ,i64_w,i32_w]
            rfl
           refine take_ (i:=1) (N:=some 51) (v:=?_) (a':=?_) #[true,true,true,false,false,false] rfl rfl (by kernel_rfl) (fun _ _ _ h => h) (Or.inl ⟨by rfl,?_⟩) hHeld ?_ ?_
           rotate_left
           ·rintro w' ⟨s0,_⟩
            go_simp
            with_reducible rfl
           rotate_left
           ·simp only [Act.put,List.setIfInBounds_toArray,List.set_cons_zero,List.set_cons_succ,i64_w,i32_w]
            rfl
           refine one_ (i:=3) (N:=some 53) #[true,true,true,true,false,false] rfl rfl (by kernel_rfl) (by decide) (fun K hK => ?_)
           refine goesC_ Tryz.func100 (by kernel_rfl) rfl #[.pointer (some ⟨b,0,none⟩)] #[.int .i64 0,.pointer (some ⟨b,0,none⟩)] (by rfl) rfl rfl (by rfl) (by simp only [List.map_toArray,List.map_cons,List.map_nil,List.append_toArray,List.cons_append,List.nil_append];rfl) ?_
           refine (ih x _ A c b 0 0 rfl (by omega) HX.out HT.out HZ0.out (HG.out.below (below_drew1 (Below.refl W.heap.size W))) HL.out (Kd.C_below HC.out (below_drew1 (Below.refl W.heap.size W))) (((below_drew1 (Below.refl W.heap.size W))).block b hlt ▸ BK.out)).mono ?_
           rintro e1 w1 ⟨rfl,hb⟩
           have HB1:=Aside0.mk (below_step (below_drew1 (Below.refl W.heap.size W)) hb)
           refine ⟨_,rfl,?_⟩
           clear hb
           have z1:=pw_cell_below HB1.out cc0
           refine hK.out _ _ ⟨z1,HB1.out⟩ (fun hHeld => ?_)
           clear hK K z1
           refine norm_ (a':=?_) ?_ ?_
           rotate_left
           ·show Act.put _ (some 53) _=_
            simp only [Act.put,List.setIfInBounds_toArray,List.set_cons_zero,List.set_cons_succ,i64_w,i32_w]
            rfl
           refine pure_ (i:=4) (N:=some 54) (v:=?_) (a':=?_) #[true,true,true,true,true,false] rfl rfl (by kernel_rfl) (fun _ _ _ h => h) (Or.inl ⟨by rfl,?_⟩) ?_ ?_
           rotate_left
           ·intro w'
            go_simp
            with_reducible rfl
           rotate_left
           ·simp only [Act.put,List.setIfInBounds_toArray,List.set_cons_zero,List.set_cons_succ,i64_w,i32_w]
            rfl
           refine pure_ (i:=5) (N:=some 2) (v:=?_) (a':=?_) #[true,true,true,true,true,true] rfl rfl (by kernel_rfl) (fun _ _ _ h => h) (Or.inl ⟨by rfl,?_⟩) ?_ ?_
           rotate_left
           ·intro w'
            go_simp
            with_reducible rfl
           rotate_left
           ·simp only [Act.put,List.setIfInBounds_toArray,List.set_cons_zero,List.set_cons_succ,i64_w,i32_w]
            rfl
           refine done_ (by kernel_rfl) ?_
           go_wp2
           go_ret
           exact ⟨by rw [HT0.out];rfl,below_step HB.out HB1.out⟩
          ·skip
           by_cases c10:x.f0.toList=[109,97,120]
           ·have f00:(x.f0.toList == [118,97,108])=false:=beq_eq_false_iff_ne.mpr c0
            have f10:(x.f0.toList == [99,111,108])=false:=beq_eq_false_iff_ne.mpr c1
            have f20:(x.f0.toList == [111,114])=false:=beq_eq_false_iff_ne.mpr c2
            have f30:(x.f0.toList == [97,110,100])=false:=beq_eq_false_iff_ne.mpr c3
            have f40:(x.f0.toList == [110,111,116])=false:=beq_eq_false_iff_ne.mpr c4
            have f50:(x.f0.toList == [110,101,103])=false:=beq_eq_false_iff_ne.mpr c5
            have f60:(x.f0.toList == [105,115,110,117,108,108])=false:=beq_eq_false_iff_ne.mpr c6
            have f70:(x.f0.toList == [99,111,117,110,116])=false:=beq_eq_false_iff_ne.mpr c7
            have f80:(x.f0.toList == [115,117,109])=false:=beq_eq_false_iff_ne.mpr c8
            have f90:(x.f0.toList == [109,105,110])=false:=beq_eq_false_iff_ne.mpr c9
            have f101:(x.f0.toList == [109,97,120])=true:=beq_iff_eq.mpr c10
            have e0:=txt_eq x
            unfold txtB at e0
            rw [if_neg c0,if_neg c1,if_neg c2,if_neg c3,if_neg c4,if_neg c5,if_neg c6,if_neg c7,if_neg c8,if_neg c9,if_pos c10] at e0
            simp only [← inn_def] at e0
            clear c0 c1 c2 c3 c4 c5 c6 c7 c8 c9 c10
            have hz:x.f0.size + (inn x.f3 0).size ≤ 1000000000:=by
             have h1:=HZ.out
             rw [e0] at h1
             simp only [ByteArray.size_append,(show (⟨#[32]⟩:ByteArray).size=1 from rfl),(show (⟨#[110,111,116,32]⟩:ByteArray).size=4 from rfl),(show (⟨#[45]⟩:ByteArray).size=1 from rfl),(show (⟨#[32,105,115,32,110,117,108,108]⟩:ByteArray).size=8 from rfl)] at h1
             exact h1
            have HZ0:=Aside0.mk (show (inn x.f3 0).size ≤ 1000000000 by omega)
            have t0:(9223372036854775807 < x.f0.size + (inn x.f3 0).size)=False:=eq_false (by omega)
            have HT0:=Aside0.mk e0
            clear e0
            go_upto_region 21 with (fail)
            refine start_ (n:=6) (S:=fun w' => w'.cell? ⟨b,0,none⟩=some (.string x.f0)∧Below W.heap.size W w') (ds:=[]) #[false,false,false,false,false,false] (by kernel_rfl) rfl rfl ⟨cc0,below_drew1 (Below.refl _ _)⟩ (fun hHeld => ?_)
            refine pure_ (i:=0) (N:=some 50) (v:=?_) (a':=?_) #[true,false,false,false,false,false] rfl rfl (by kernel_rfl) (fun _ _ _ h => h) (Or.inl ⟨by rfl,?_⟩) ?_ ?_
            rotate_left
            ·intro w'
             go_simp
             with_reducible rfl
            rotate_left
            ·simp only [Act.put,List.setIfInBounds_toArray,List.set_cons_zero,List.set_cons_succ,i64_w,i32_w]
             rfl
            refine pure_ (i:=2) (N:=some 52) (v:=?_) (a':=?_) #[true,false,true,false,false,false] rfl rfl (by kernel_rfl) (fun _ _ _ h => h) (Or.inl ⟨by rfl,?_⟩) ?_ ?_
            rotate_left
            ·intro w'
             go_simp
             with_reducible rfl
            rotate_left
            ·simp only [Act.put,List.setIfInBounds_toArray,List.set_cons_zero,List.set_cons_succ,i64_w,i32_w]
             rfl
            refine take_ (i:=1) (N:=some 51) (v:=?_) (a':=?_) #[true,true,true,false,false,false] rfl rfl (by kernel_rfl) (fun _ _ _ h => h) (Or.inl ⟨by rfl,?_⟩) hHeld ?_ ?_
            rotate_left
            ·rintro w' ⟨s0,_⟩
             go_simp
             with_reducible rfl
            rotate_left
            ·simp only [Act.put,List.setIfInBounds_toArray,List.set_cons_zero,List.set_cons_succ,i64_w,i32_w]
             rfl
            refine one_ (i:=3) (N:=some 53) #[true,true,true,true,false,false] rfl rfl (by kernel_rfl) (by decide) (fun K hK => ?_)
            refine goesC_ Tryz.func100 (by kernel_rfl) rfl #[.pointer (some ⟨b,0,none⟩)] #[.int .i64 0,.pointer (some ⟨b,0,none⟩)] (by rfl) rfl rfl (by rfl) (by simp only [List.map_toArray,List.map_cons,List.map_nil,List.append_toArray,List.cons_append,List.nil_append];rfl) ?_
            refine (ih x _ A c b 0 0 rfl (by omega) HX.out HT.out HZ0.out (HG.out.below (below_drew1 (Below.refl W.heap.size W))) HL.out (Kd.C_below HC.out (below_drew1 (Below.refl W.heap.size W))) (((below_drew1 (Below.refl W.heap.size W))).block b hlt ▸ BK.out)).mono ?_
            rintro e1 w1 ⟨rfl,hb⟩
            have HB1:=Aside0.mk (below_step (below_drew1 (Below.refl W.heap.size W)) hb)
            refine ⟨_,rfl,?_⟩
            clear hb
            have z1:=pw_cell_below HB1.out cc0
            refine hK.out _ _ ⟨z1,HB1.out⟩ (fun hHeld => ?_)
            clear hK K z1
            refine norm_ (a':=?_) ?_ ?_
            rotate_left
            ·show Act.put _ (some 53) _=_
             simp only [Act.put,List.setIfInBounds_toArray,List.set_cons_zero,List.set_cons_succ,i64_w,i32_w]
             rfl
            refine pure_ (i:=4) (N:=some 54) (v:=?_) (a':=?_) #[true,true,true,true,true,false] rfl rfl (by kernel_rfl) (fun _ _ _ h => h) (Or.inl ⟨by rfl,?_⟩) ?_ ?_
            rotate_left
            ·intro w'
             go_simp
             with_reducible rfl
            rotate_left
            ·simp only [Act.put,List.setIfInBounds_toArray,List.set_cons_zero,List.set_cons_succ,i64_w,i32_w]
             rfl
            refine pure_ (i:=5) (N:=some 2) (v:=?_) (a':=?_) #[true,true,true,true,true,true] rfl rfl (by kernel_rfl) (fun _ _ _ h => h) (Or.inl ⟨by rfl,?_⟩) ?_ ?_
            rotate_left
            ·intro w'
             go_simp
             with_reducible rfl
            rotate_left
            ·simp only [Act.put,List.setIfInBounds_toArray,List.set_cons_zero,List.set_cons_succ,i64_w,i32_w]
             rfl
            refine done_ (by kernel_rfl) ?_
            go_wp2
            go_ret
            exact ⟨by rw [HT0.out];rfl,below_step HB.out HB1.out⟩
           ·skip
            by_cases hB:bigB x.f0=true
            ·have g0:=bigB_true hB
             obtain ⟨g1,g2⟩:=g0
             have g3:(x.f0.toList != [105,115])=true:=by unfold bne;rw [g2];rfl
             have g4:decide (3 < Ps.binds x.f0)=true:=decide_eq_true g1
             have BI:=Aside0.mk (binds_is x.f0)
             generalize Ps.binds x.f0=bv at BI g4 g1
             have f00:(x.f0.toList == [118,97,108])=false:=beq_eq_false_iff_ne.mpr c0
             have f10:(x.f0.toList == [99,111,108])=false:=beq_eq_false_iff_ne.mpr c1
             have f20:(x.f0.toList == [111,114])=false:=beq_eq_false_iff_ne.mpr c2
             have f30:(x.f0.toList == [97,110,100])=false:=beq_eq_false_iff_ne.mpr c3
             have f40:(x.f0.toList == [110,111,116])=false:=beq_eq_false_iff_ne.mpr c4
             have f50:(x.f0.toList == [110,101,103])=false:=beq_eq_false_iff_ne.mpr c5
             have f60:(x.f0.toList == [105,115,110,117,108,108])=false:=beq_eq_false_iff_ne.mpr c6
             have f70:(x.f0.toList == [99,111,117,110,116])=false:=beq_eq_false_iff_ne.mpr c7
             have f80:(x.f0.toList == [115,117,109])=false:=beq_eq_false_iff_ne.mpr c8
             have f90:(x.f0.toList == [109,105,110])=false:=beq_eq_false_iff_ne.mpr c9
             have f100:(x.f0.toList == [109,97,120])=false:=beq_eq_false_iff_ne.mpr c10
             have e0:=txt_eq x
             unfold txtB at e0
             rw [if_neg c0,if_neg c1,if_neg c2,if_neg c3,if_neg c4,if_neg c5,if_neg c6,if_neg c7,if_neg c8,if_neg c9,if_neg c10,if_pos hB] at e0
             simp only [← inn_def] at e0
             clear c0 c1 c2 c3 c4 c5 c6 c7 c8 c9 c10 hB
             have hz:(inn x.f3 0).size + x.f0.size + (inn x.f3 1).size ≤ 1000000000:=by
              have h1:=HZ.out
              rw [e0] at h1
              simp only [ByteArray.size_append,(show (⟨#[32]⟩:ByteArray).size=1 from rfl),(show (⟨#[110,111,116,32]⟩:ByteArray).size=4 from rfl),(show (⟨#[45]⟩:ByteArray).size=1 from rfl),(show (⟨#[32,105,115,32,110,117,108,108]⟩:ByteArray).size=8 from rfl)] at h1
              exact h1
             have HZ0:=Aside0.mk (show (inn x.f3 0).size ≤ 1000000000 by omega)
             have HZ1:=Aside0.mk (show (inn x.f3 1).size ≤ 1000000000 by omega)
             have t0:(9223372036854775807 < (inn x.f3 0).size + x.f0.size)=False:=eq_false (by omega)
             have t1:(9223372036854775807 < (inn x.f3 0).size + x.f0.size + (inn x.f3 1).size)=False:=eq_false (by omega)
             have HT0:=Aside0.mk e0
             clear e0
             go_upto_region 23 with (first | (go_at_call 102;refine (parse_binds.calls 3 _ _ _ BI.out).mono ?_;rintro e w4 ⟨rfl,⟨nd,rfl⟩⟩))
             refine start_ (n:=9) (S:=fun w' => w'.cell? ⟨b,0,none⟩=some (.string x.f0)∧Below W.heap.size W w') (ds:=[]) #[false,false,false,false,false,false,false,false,false] (by kernel_rfl) rfl rfl ⟨pw_cell_below (below_drew1 (pw_below_drewN (Below.refl W.heap.size W) nd)) cc0,below_drew1 (pw_below_drewN (Below.refl _ _) nd)⟩ (fun hHeld => ?_)
             refine pure_ (i:=0) (N:=some 64) (v:=?_) (a':=?_) #[true,false,false,false,false,false,false,false,false] rfl rfl (by kernel_rfl) (fun _ _ _ h => h) (Or.inl ⟨by rfl,?_⟩) ?_ ?_
             rotate_left
             ·intro w'
              go_simp
              with_reducible rfl
             rotate_left
             ·simp only [Act.put,List.setIfInBounds_toArray,List.set_cons_zero,List.set_cons_succ,i64_w,i32_w]
              rfl
             refine pure_ (i:=5) (N:=some 69) (v:=?_) (a':=?_) #[true,false,false,false,false,true,false,false,false] rfl rfl (by kernel_rfl) (fun _ _ _ h => h) (Or.inl ⟨by rfl,?_⟩) ?_ ?_
             rotate_left
             ·intro w'
              go_simp
              with_reducible rfl
             rotate_left
             ·simp only [Act.put,List.setIfInBounds_toArray,List.set_cons_zero,List.set_cons_succ,i64_w,i32_w]
              rfl
             refine pure_ (i:=2) (N:=some 66) (v:=?_) (a':=?_) #[true,false,true,false,false,true,false,false,false] rfl rfl (by kernel_rfl) (fun _ _ _ h => h) (Or.inl ⟨by rfl,?_⟩) ?_ ?_
             rotate_left
             ·intro w'
              go_simp
              with_reducible rfl
             rotate_left
             ·simp only [Act.put,List.setIfInBounds_toArray,List.set_cons_zero,List.set_cons_succ,i64_w,i32_w]
              rfl
             refine take_ (i:=3) (N:=some 67) (v:=?_) (a':=?_) #[true,false,true,true,false,true,false,false,false] rfl rfl (by kernel_rfl) (fun _ _ _ h => h) (Or.inl ⟨by rfl,?_⟩) hHeld ?_ ?_
             rotate_left
             ·rintro w' ⟨s0,_⟩
              go_simp
              with_reducible rfl
             rotate_left
             ·simp only [Act.put,List.setIfInBounds_toArray,List.set_cons_zero,List.set_cons_succ,i64_w,i32_w]
              rfl
             refine one_ (i:=1) (N:=some 65) #[true,true,true,true,false,true,false,false,false] rfl rfl (by kernel_rfl) (by decide) (fun K hK => ?_)
             refine goesC_ Tryz.func100 (by kernel_rfl) rfl #[.pointer (some ⟨b,0,none⟩)] #[.int .i64 0,.pointer (some ⟨b,0,none⟩)] (by rfl) rfl rfl (by rfl) (by simp only [List.map_toArray,List.map_cons,List.map_nil,List.append_toArray,List.cons_append,List.nil_append];rfl) ?_
             refine (ih x _ A c b 0 0 rfl (by omega) HX.out HT.out HZ0.out (HG.out.below (below_drew1 (pw_below_drewN (Below.refl W.heap.size W) nd))) HL.out (Kd.C_below HC.out (below_drew1 (pw_below_drewN (Below.refl W.heap.size W) nd))) (((below_drew1 (pw_below_drewN (Below.refl W.heap.size W) nd))).block b hlt ▸ BK.out)).mono ?_
             rintro e1 w1 ⟨rfl,hb⟩
             have HB1:=Aside0.mk (below_step (below_drew1 (pw_below_drewN (Below.refl W.heap.size W) nd)) hb)
             refine ⟨_,rfl,?_⟩
             clear hb
             have z1:=pw_cell_below HB1.out cc0
             refine hK.out _ _ ⟨z1,HB1.out⟩ (fun hHeld => ?_)
             clear hK K z1
             refine norm_ (a':=?_) ?_ ?_
             rotate_left
             ·show Act.put _ (some 65) _=_
              simp only [Act.put,List.setIfInBounds_toArray,List.set_cons_zero,List.set_cons_succ,i64_w,i32_w]
              rfl
             refine pure_ (i:=4) (N:=some 68) (v:=?_) (a':=?_) #[true,true,true,true,true,true,false,false,false] rfl rfl (by kernel_rfl) (fun _ _ _ h => h) (Or.inl ⟨by rfl,?_⟩) ?_ ?_
             rotate_left
             ·intro w'
              go_simp
              with_reducible rfl
             rotate_left
             ·simp only [Act.put,List.setIfInBounds_toArray,List.set_cons_zero,List.set_cons_succ,i64_w,i32_w]
              rfl
             refine one_ (i:=6) (N:=some 70) #[true,true,true,true,true,true,true,false,false] rfl rfl (by kernel_rfl) (by decide) (fun K hK => ?_)
             refine goesC_ Tryz.func100 (by kernel_rfl) rfl #[.pointer (some ⟨b,0,none⟩)] #[.int .i64 1,.pointer (some ⟨b,0,none⟩)] (by rfl) rfl rfl (by rfl) (by simp only [List.map_toArray,List.map_cons,List.map_nil,List.append_toArray,List.cons_append,List.nil_append];rfl) ?_
             refine (ih x _ A c b 1 1 rfl (by omega) HX.out HT.out HZ1.out (HG.out.below HB1.out) HL.out (Kd.C_below HC.out HB1.out) ((HB1.out).block b hlt ▸ BK.out)).mono ?_
             rintro e2 w2 ⟨rfl,hb⟩
             have HB2:=Aside0.mk (below_step HB1.out hb)
             refine ⟨_,rfl,?_⟩
             clear hb
             have z2:=pw_cell_below HB2.out cc0
             refine hK.out _ _ ⟨z2,HB2.out⟩ (fun hHeld => ?_)
             clear hK K z2
             refine norm_ (a':=?_) ?_ ?_
             rotate_left
             ·show Act.put _ (some 70) _=_
              simp only [Act.put,List.setIfInBounds_toArray,List.set_cons_zero,List.set_cons_succ,i64_w,i32_w]
              rfl
             refine pure_ (i:=7) (N:=some 71) (v:=?_) (a':=?_) #[true,true,true,true,true,true,true,true,false] rfl rfl (by kernel_rfl) (fun _ _ _ h => h) (Or.inl ⟨by rfl,?_⟩) ?_ ?_
             rotate_left
             ·intro w'
              go_simp
              with_reducible rfl
             rotate_left
             ·simp only [Act.put,List.setIfInBounds_toArray,List.set_cons_zero,List.set_cons_succ,i64_w,i32_w]
              rfl
             refine pure_ (i:=8) (N:=some 2) (v:=?_) (a':=?_) #[true,true,true,true,true,true,true,true,true] rfl rfl (by kernel_rfl) (fun _ _ _ h => h) (Or.inl ⟨by rfl,?_⟩) ?_ ?_
             rotate_left
             ·intro w'
              go_simp
              with_reducible rfl
             rotate_left
             ·simp only [Act.put,List.setIfInBounds_toArray,List.set_cons_zero,List.set_cons_succ,i64_w,i32_w]
              rfl
             refine done_ (by kernel_rfl) ?_
             go_wp2
             go_ret
             exact ⟨by rw [HT0.out];rfl,below_step HB.out HB2.out⟩
            ·have g0:=bigB_false hB
             have BI:=Aside0.mk (binds_is x.f0)
             have f00:(x.f0.toList == [118,97,108])=false:=beq_eq_false_iff_ne.mpr c0
             have f10:(x.f0.toList == [99,111,108])=false:=beq_eq_false_iff_ne.mpr c1
             have f20:(x.f0.toList == [111,114])=false:=beq_eq_false_iff_ne.mpr c2
             have f30:(x.f0.toList == [97,110,100])=false:=beq_eq_false_iff_ne.mpr c3
             have f40:(x.f0.toList == [110,111,116])=false:=beq_eq_false_iff_ne.mpr c4
             have f50:(x.f0.toList == [110,101,103])=false:=beq_eq_false_iff_ne.mpr c5
             have f60:(x.f0.toList == [105,115,110,117,108,108])=false:=beq_eq_false_iff_ne.mpr c6
             have f70:(x.f0.toList == [99,111,117,110,116])=false:=beq_eq_false_iff_ne.mpr c7
             have f80:(x.f0.toList == [115,117,109])=false:=beq_eq_false_iff_ne.mpr c8
             have f90:(x.f0.toList == [109,105,110])=false:=beq_eq_false_iff_ne.mpr c9
             have f100:(x.f0.toList == [109,97,120])=false:=beq_eq_false_iff_ne.mpr c10
             have e0:=txt_eq x
             unfold txtB at e0
             rw [if_neg c0,if_neg c1,if_neg c2,if_neg c3,if_neg c4,if_neg c5,if_neg c6,if_neg c7,if_neg c8,if_neg c9,if_neg c10,if_neg hB] at e0
             clear c0 c1 c2 c3 c4 c5 c6 c7 c8 c9 c10 hB
             have HT0:=Aside0.mk e0
             clear e0
             rcases g0 with g0 | g0
             ·have g4:decide (3 < Ps.binds x.f0)=false:=decide_eq_false (by omega)
              generalize Ps.binds x.f0=bv at BI g4 g0
              go_wp2_with (first | (go_at_call 102;refine (parse_binds.calls 3 _ _ _ BI.out).mono ?_;rintro e w4 ⟨rfl,⟨nd,rfl⟩⟩))
              go_ret
              exact ⟨by rw [HT0.out];rfl,pw_below_drewN HB.out nd⟩
             ·have g2:(x.f0.toList == [105,115])=true:=g0
              have g3:(x.f0.toList != [105,115])=false:=by unfold bne;rw [g2];rfl
              by_cases g1:Ps.binds x.f0 > 3
              ·have g4:decide (3 < Ps.binds x.f0)=true:=decide_eq_true g1
               generalize Ps.binds x.f0=bv at BI g4 g1
               go_wp2_with (first | (go_at_call 102;refine (parse_binds.calls 3 _ _ _ BI.out).mono ?_;rintro e w4 ⟨rfl,⟨nd,rfl⟩⟩))
               go_ret
               exact ⟨by rw [HT0.out];rfl,pw_below_drewN HB.out nd⟩
              ·have g4:decide (3 < Ps.binds x.f0)=false:=decide_eq_false g1
               generalize Ps.binds x.f0=bv at BI g4 g1
               go_wp2_with (first | (go_at_call 102;refine (parse_binds.calls 3 _ _ _ BI.out).mono ?_;rintro e w4 ⟨rfl,⟨nd,rfl⟩⟩))
               go_ret
               exact ⟨by rw [HT0.out];rfl,pw_below_drewN HB.out nd⟩
theorem all_txtP:∀ n,InAt n∧TextAt n:=by
 intro n
 induction n with
 | zero =>
  refine ⟨fun x w A c b iv i _ _ h => ?_,fun x w A c h => ?_⟩
  ·have:=fus_pos x.f3;omega
  ·have:=fu_eq x;omega
 | succ n ih => exact ⟨in_step n ih.2,text_step n ih.1⟩
theorem text_out {x:S43} {w:World} {A:Option Addr} {c:Nat} (hT:TG x) (hz:(txt x).size ≤ 1000000000) (hG:GV w) (hc:x.f3.length ≤ c) (hC:Kd.C k43 w A x.f3.length x.f3):Calls Tryz.prog 41 #[.agg (cells43 x A c).toArray] w fun e w' => e = .returned (.string (txt x))∧Below w.heap.size w w' :=
 (all_txtP _).2 x w A c (Nat.le_refl _) hT hz hG hc hC
end Go.Proofs.YtcgdncpioafbdaaGreatDoor.Q
namespace Go.Proofs.YtcgdncpioafbdaaGreatDoor.Q
open Go Go.RowKit Go.Proofs.YtcgdncpioafbdaaGreatDoorW.PrintWords Go.Proofs.YtcgdncpioafbdaaGreatDoorW.PrintLast Go.Proofs.YtcgdncpioafbdaaGreatDoorW.PrintMore
def awS:ByteArray:=⟨#[115,101,108,101,99,116,32,97,32,102,114,111,109,32,116,32,119,104,101,114,101,32,97,32,43,32,49,32,42,32,50,32,61,32,51,32,108,105,109,105,116,32,52,59]⟩
def awT:ByteArray:=⟨#[115,101,108,101,99,116]⟩
theorem aw0:(parseS awS).2=0:=by decide +kernel
theorem aw1:(parseS awT).2=20:=by decide +kernel
theorem aw2:(parseS awS).1.f0=4:=by decide +kernel
theorem aw3:(parseS awS).1.f1.data.toList=[116]:=by decide +kernel
theorem aw4:(parseS awS).1.f10=4:=by decide +kernel
theorem aw5:(parseS awS).1.f7.length=1:=by decide +kernel
theorem aw7:TG (rd_T43 (parseS awS).1.f7 0):=by
 exact TG_of _ (by decide +kernel)
theorem tl_data (s:ByteArray):s.toList=s.data.toList:=Lib.toList_data s
theorem aw6:((parseS awS).1.f7.map fun e => (txt e).data.toList)=[[40,40,97,41,43,40,40,49,41,42,40,50,41,41,41,61,40,51,41]]:=by decide +kernel
structure Held (B:Nat) (w:World) (b:Nat) (x:S60) (a:Ads):Prop where
 blk:w.heap[b]? = some (.cells (celA x a) 60 (0,0))
 low:B ≤ b
 fr:StA (fun q => B ≤ q) w x a
theorem Held.below {B:Nat} {w w':World} {b:Nat} {x:S60} {a:Ads} (h:Held B w b x a) (hb:Below w.heap.size w w'):Held B w' b x a :=
 ⟨(hb.block b (blk_lt h.blk)).trans h.blk,h.low,h.fr.below hb⟩
theorem Held.lt {B:Nat} {w:World} {b:Nat} {x:S60} {a:Ads} (h:Held B w b x a):b < w.heap.size:=blk_lt h.blk
theorem Held.new {B:Nat} {w:World} {x:S60} {a:Ads} (h:StA (fun q => B ≤ q) w x a) (hB:B ≤ w.heap.size):Held B (w.alloc (.cells (celA x a) 60 (0,0))) w.heap.size x a :=
 ⟨new_blk _ rfl,hB,h.below (below_alloc (Below.refl _ _) _)⟩
set_option maxHeartbeats 1000000 in
set_option maxRecDepth 100000 in
theorem store60 (w1:World) (x:S60) (a:Ads):Sem.run Tryz.prog (storeCells ⟨w1.heap.size,0,none⟩ (cells60 x a.a2 a.c2 a.a4 a.c4 a.a5 a.c5 a.a6 a.c6 a.a7 a.c7)) (w1.alloc (.cells #[.int .i64 0,.string ⟨#[]⟩,.slice none 0 0,.string ⟨#[]⟩,.slice none 0 0,.slice none 0 0,.slice none 0 0,.slice none 0 0,.string ⟨#[]⟩,.bool false,.int .i64 0] 60 (0,0))) = .ok () (w1.alloc (.cells (celA x a) 60 (0,0))):=by
 unfold cells60 celA
 go_simp
 rfl
theorem cells60_len (x:S60) (A2:Option Addr) (c2:Nat) (A4:Option Addr) (c4:Nat) (A5:Option Addr) (c5:Nat) (A6:Option Addr) (c6:Nat) (A7:Option Addr) (c7:Nat):(cells60 x A2 c2 A4 c4 A5 c5 A6 c6 A7 c7).length=11:=rfl
attribute [local go_sem high] store60 cells60_len
set_option maxHeartbeats 1000000 in
set_option maxRecDepth 100000 in
theorem awake_calls {w:World} (hG:GV w):Calls Tryz.prog 40 #[] w fun e w' => e = .returned (.bool true)∧Below w.heap.size w w':=by
 have HG:=Aside0.mk hG
 clear hG
 have HB:=Aside0.mk (Below.refl w.heap.size w)
 go_enter Tryz.func40,Tryz.ntmps40
 obtain ⟨x1,hx1⟩:∃ x,(parseS (awS)).1=x:=⟨_,rfl⟩
 obtain ⟨c1,hc1⟩:∃ c,(parseS (awS)).2=c:=⟨_,rfl⟩
 have HX1:=Aside0.mk hx1
 have E1:=Aside0.mk hc1
 have PC1:Aside0 (∀ v:World,GV v → Calls Tryz.prog 46 #[.string (awS)] v fun e w' => ∃ a:Ads,e = .returned (.tuple #[.agg (celA x1 a),.int .i64 c1])∧StA (fun q => v.heap.size ≤ q) w' x1 a∧Below v.heap.size v w'):=⟨by
  intro v hv
  refine (parse_calls (awS) hv).mono ?_
  rintro e w' ⟨u,rfl,⟨a,rfl,hF⟩,hb⟩
  exact ⟨a,by rw [HX1.out,E1.out],by rw [← HX1.out];exact hF,hb⟩⟩
 clear hx1 hc1
 go_upto_region 2 with (first | (go_at_call 46;refine (PC1.out _ HG.out).mono ?_;rintro e v1 ⟨a1,rfl,hF,hb⟩;have HF1:=Aside0.mk hF;have HV1:=Aside0.mk (below_step HB.out hb);have HW1:=Aside0.mk hb;clear hF hb))
 have HD1:=Aside0.mk (Held.new HF1.out HW1.out.size)
 have HA1:=Aside0.mk (below_alloc HV1.out (.cells (celA x1 a1) 60 (0,0)))
 have HU1:=Aside0.mk (below_alloc HW1.out (.cells (celA x1 a1) 60 (0,0)))
 have HG1:=Aside0.mk (HG.out.below HU1.out)
 generalize hb1:v1.heap.size=b1 at HD1 ⊢
 generalize hW1:v1.alloc (.cells (celA x1 a1) 60 (0,0))=W1 at HD1 HA1 HG1  ⊢
 clear hb1 hW1 HF1 HV1 HW1 HU1 PC1
 obtain ⟨x2,hx2⟩:∃ x,(parseS (awT)).1=x:=⟨_,rfl⟩
 obtain ⟨c2,hc2⟩:∃ c,(parseS (awT)).2=c:=⟨_,rfl⟩
 have HX2:=Aside0.mk hx2
 have E2:=Aside0.mk hc2
 have PC2:Aside0 (∀ v:World,GV v → Calls Tryz.prog 46 #[.string (awT)] v fun e w' => ∃ a:Ads,e = .returned (.tuple #[.agg (celA x2 a),.int .i64 c2])∧StA (fun q => v.heap.size ≤ q) w' x2 a∧Below v.heap.size v w'):=⟨by
  intro v hv
  refine (parse_calls (awT) hv).mono ?_
  rintro e w' ⟨u,rfl,⟨a,rfl,hF⟩,hb⟩
  exact ⟨a,by rw [HX2.out,E2.out],by rw [← HX2.out];exact hF,hb⟩⟩
 clear hx2 hc2
 go_upto_region 3 with (first | (go_at_call 46;refine (PC2.out _ HG1.out).mono ?_;rintro e v2 ⟨a2,rfl,hF,hb⟩;have HF2:=Aside0.mk hF;have HV2:=Aside0.mk (below_step HA1.out hb);have HW2:=Aside0.mk hb;clear hF hb))
 have HD2:=Aside0.mk (Held.new HF2.out HW2.out.size)
 have HA2:=Aside0.mk (below_alloc HV2.out (.cells (celA x2 a2) 60 (0,0)))
 have HU2:=Aside0.mk (below_alloc HW2.out (.cells (celA x2 a2) 60 (0,0)))
 have HD1_:=Aside0.mk (HD1.out.below HU2.out)
 clear HD1
 have HD1:=HD1_
 clear HD1_
 have HG2:=Aside0.mk (HG1.out.below HU2.out)
 generalize hb2:v2.heap.size=b2 at HD2 ⊢
 generalize hW2:v2.alloc (.cells (celA x2 a2) 60 (0,0))=W2 at HD2 HA2 HG2 HD1 ⊢
 clear hb2 hW2 HF2 HV2 HW2 HU2 PC2
 have r1c0:W2.cell? ⟨b1,0,none⟩=some (.int .i64 x1.f0):=(blk_cell HD1.out.blk 0).trans rfl
 have r1c1:W2.cell? ⟨b1,1,none⟩=some (.string x1.f1):=(blk_cell HD1.out.blk 1).trans rfl
 have r1c7:W2.cell? ⟨b1,7,none⟩=some (.slice a1.a7 x1.f7.length a1.c7):=(blk_cell HD1.out.blk 7).trans rfl
 have r1c10:W2.cell? ⟨b1,10,none⟩=some (.int .i64 x1.f10):=(blk_cell HD1.out.blk 10).trans rfl
 have r1lt:=HD1.out.lt
 have y0:c1=0:=by rw [← E1.out];exact aw0
 have y1:c2=20:=by rw [← E2.out];exact aw1
 have y2:(x1.f0 == 4)=true:=by rw [← HX1.out,aw2];decide
 have y3:(x1.f1.toList == [116])=true:=by rw [← HX1.out,tl_data,aw3];decide
 have y4:(x1.f10 == 4)=true:=by rw [← HX1.out,aw4];decide
 have l7:x1.f7.length=1:=by rw [← HX1.out];exact aw5
 have HC:=Aside0.mk (Kd.F_now HD1.out.fr.f7)
 have p1:(0:Int) < (x1.f7.length:Int):=by omega
 obtain ⟨ad,A5,c5,e5,q0,q1,q2,q3,q4,q5,hl5,hi5⟩:=at_T43 HC.out 0 (by omega) p1
 have y5:((x1.f7.length:Int) == 1)=true:=by rw [l7];decide
 have htx:(txt (rd_T43 x1.f7 0)).data.toList=[40,40,97,41,43,40,40,49,41,42,40,50,41,41,41,61,40,51,41]:=by
  have h:=aw6
  rw [HX1.out] at h
  cases hf:x1.f7 with
  | nil => rw [hf] at l7;cases l7
  | cons z r => rw [hf] at h;simp only [List.map_cons,List.cons.injEq] at h;exact h.1
 have y6:((txt (rd_T43 x1.f7 0)).toList == [40,40,97,41,43,40,40,49,41,42,40,50,41,41,41,61,40,51,41])=true:=by rw [tl_data,htx];decide
 have HS:=Aside0.mk (show (txt (rd_T43 x1.f7 0)).size ≤ 1000000000 by rw [← len_data,htx];decide)
 have HT:=Aside0.mk (show TG (rd_T43 x1.f7 0) by rw [← HX1.out];exact aw7)
 generalize rd_T43 x1.f7 0=z at q0 q1 q2 q3 q4 q5 hl5 hi5 y6 HS HT
 have HL:=Aside0.mk hl5
 have HI:=Aside0.mk hi5
 subst y0 y1
 have p2:(0 < x1.f7.length)=True:=eq_true (by omega)
 replace p1:=eq_true p1
 simp only [Int.toNat_zero,Nat.zero_mul,addr0] at q0 q1 q2 q3 q4 q5
 clear hl5 hi5 htx l7
 rw [e5] at r1c7
 go_wp2_with (first | (go_at_call 41;refine (text_out (x:=z) (A:=A5) (c:=c5) HT.out HS.out HG2.out HL.out HI.out).mono ?_;rintro e w3 ⟨rfl,hb⟩;have HB3:=Aside0.mk hb;clear hb))
 go_ret
 exact ⟨rfl,below_step HA2.out HB3.out⟩
end Go.Proofs.YtcgdncpioafbdaaGreatDoor.Q
namespace Go.Proofs.YtcgdncpioafbdaaGreatDoor.Lx
open Go Go.Proofs.YtcgdncpioafbdaaGreatDoor.Q
def nextOk (t:Tk) (c:UInt8):Bool:=if t.kind=1 ∨ t.kind=2 then !isPart c else if t.kind=3 then c != 39 else t.s.length == 2 || (!twos.contains (t.s ++ [c]) && !(t.s == [45] && c == 45))
theorem tw_app {α} (p:α → Bool) (l g:List α) (h:∀ x ∈ l,p x=true) (hg:∀ c r,g=c :: r → p c=false):(l ++ g).takeWhile p=l∧(l ++ g).dropWhile p=g:=by
 induction l with
 | nil =>
  cases g with
  | nil => exact ⟨rfl,rfl⟩
  | cons c r => simp [List.takeWhile,List.dropWhile,hg c r rfl]
 | cons c r ih =>
  obtain ⟨h1,h2⟩:=ih (fun x hx => h x (by simp [hx]))
  simp [List.takeWhile,List.dropWhile,h c (by simp),h1,h2]
theorem digit_part {c:UInt8} (h:isPart c=false):isDigit c=false:=by
 unfold isPart at h
 simp only [Bool.or_eq_false_iff] at h
 exact h.1.2
theorem strA_glue (g:List UInt8) (hg:∀ c r,g=c :: r → c ≠ 39):∀ (t:List UInt8),strA (dupQ t ++ 39 :: g)=some (t,(dupQ t).length + 1)
 | [] => by
  show strA (39 :: g)=some ([],1)
  cases g with
  | nil => rfl
  | cons c r =>
   have:(c == 39)=false:=by simpa using hg c r rfl
   simp [strA,this]
 | c :: r => by
  have ih:=strA_glue g hg r
  by_cases hc:c=39
  ·subst hc
   show strA (39 :: 39 :: (dupQ r ++ 39 :: g))=_
   rw [strA_two,ih]
   simp [dupQ]
  ·have h1:(c == 39)=false:=by simpa using hc
   have e:dupQ (c :: r)=c :: dupQ r:=by simp [dupQ,hc]
   rw [e]
   show strA (c :: (dupQ r ++ 39 :: g))=_
   rw [strA_one c _ h1,ih]
   simp
theorem tokA_glue {t:Tk} (h:Good t) (g:List UInt8) (hg:∀ c r,g=c :: r → nextOk t c=true):tokA (piece t ++ g) = .ok (t,(piece t).length):=by
 rcases h with ⟨hk,hn,⟨c,r,hs,hl⟩,hp,hlow,hlen⟩ | ⟨hk,hs,hn⟩ | ⟨hk,hn,hlen⟩ | ⟨hk,hn,hs⟩
 ·obtain ⟨k,s,n⟩:=t
  simp only at hk hn hs hp hlow hlen
  subst hk hn hs
  have e:piece ⟨1,c :: r,0⟩=c :: r:=rfl
  have h1:=(tw_app isPart (c :: r) g hp (fun d q hd => by have:=hg d q hd;simpa [nextOk] using this)).1
  rw [e,List.cons_append]
  rw [List.cons_append] at h1
  simp only [tokA,hl,if_true]
  unfold wordA
  rw [h1,hlow,if_neg (by omega)]
 ·obtain ⟨k,s,n⟩:=t
  simp only at hk hn hs
  subst hk hs
  have hd:=digA_digit 20 n
  have hv:=digA_val 20 n (by decide) (pow20 hn)
  have hne:=digA_ne 20 n (by decide)
  have e:piece ⟨2,[],n⟩=digA 20 n:=rfl
  rw [e]
  have hgp:∀ c r,g=c :: r → isPart c=false:=fun d q hd => by have:=hg d q hd;simpa [nextOk] using this
  obtain ⟨h1,h2⟩:=tw_app isDigit (digA 20 n) g hd (fun c r hc => digit_part (hgp c r hc))
  cases hx:digA 20 n with
  | nil => exact absurd hx hne
  | cons c r =>
   rw [hx] at hd hv h1 h2
   have hc:=hd c (by simp)
   rw [List.cons_append]
   rw [List.cons_append] at h1 h2
   simp only [tokA,digit_letter c hc,hc,if_true]
   unfold numA
   have h3:((c :: (r ++ g)).dropWhile isDigit).head?.any isPart=false:=by
    rw [h2]
    cases g with
    | nil => rfl
    | cons d q => simp [hgp d q rfl]
   rw [h1,h3,hv,if_neg (Nat.not_lt.2 hn)]
   rfl
 ·obtain ⟨k,s,n⟩:=t
  simp only at hk hn hlen
  subst hk hn
  have e:piece ⟨3,s,0⟩=39 :: (dupQ s ++ [39]):=rfl
  rw [e]
  have h1:isLetter 39=false:=by decide
  have h2:isDigit 39=false:=by decide
  show tokA (39 :: ((dupQ s ++ [39]) ++ g))=_
  simp only [tokA,h1,h2]
  unfold textA
  have e2:(dupQ s ++ [39]) ++ g=dupQ s ++ 39 :: g:=by simp
  rw [e2,strA_glue g (fun d q hd => by have:=hg d q hd;simpa [nextOk] using this)]
  simp only
  rw [if_neg (Nat.not_lt.2 hlen)]
  simp
 ·obtain ⟨k,s,n⟩:=t
  simp only at hk hn hs
  subst hk hn
  have e:piece ⟨4,s,0⟩=s:=rfl
  rw [e]
  have hS:∀ s,(s ∈ twos ∨ s ∈ ones.map (fun c => [c])) → (∀ c r,g=c :: r → nextOk ⟨4,s,0⟩ c=true) → tokA (s ++ g) = .ok (⟨4,s,0⟩,s.length):=by
   intro s h hg
   have two:∀ a b:UInt8,isLetter a=false → isDigit a=false → (a == 39)=false → twos.contains [a,b]=true → tokA ([a,b] ++ g) = .ok (⟨4,[a,b],0⟩,2):=by
    intro a b h1 h2 h3 h4
    show tokA (a :: b :: g)=_
    simp only [tokA,h1,h2,h3]
    unfold signT signA
    have e3:(a :: b :: g).take 2=[a,b]:=rfl
    rw [e3,h4]
    rfl
   have one:∀ a:UInt8,isLetter a=false → isDigit a=false → (a == 39)=false → ones.contains a=true → twos.contains [a]=false → (∀ c r,g=c :: r → twos.contains [a,c]=false) → tokA ([a] ++ g) = .ok (⟨4,[a],0⟩,1):=by
    intro a h1 h2 h3 h4 h5 h6
    show tokA (a :: g)=_
    simp only [tokA,h1,h2,h3]
    unfold signT signA
    have e3:twos.contains ((a :: g).take 2)=false:=by
     cases g with
     | nil => exact h5
     | cons c r => exact h6 c r rfl
    rw [e3]
    simp only [Bool.false_eq_true,if_false,h4,if_true]
    rfl
   have hg2:s.length=1 → ∀ c r,g=c :: r → twos.contains (s ++ [c])=false:=fun hl c r hc => by
    have:=hg c r hc
    simp only [nextOk,hl] at this
    rw [if_neg (by decide),if_neg (by decide)] at this
    cases h2:twos.contains (s ++ [c]) with
    | false => rfl
    | true => rw [h2] at this;cases this
   simp only [twos,ones,List.map_cons,List.map_nil,List.mem_cons,List.mem_nil_iff,or_false] at h
   rcases h with (rfl | rfl | rfl | rfl) | (rfl | rfl | rfl | rfl | rfl | rfl | rfl | rfl | rfl | rfl | rfl | rfl)
   ·exact two _ _ (by decide) (by decide) (by decide) (by decide)
   ·exact two _ _ (by decide) (by decide) (by decide) (by decide)
   ·exact two _ _ (by decide) (by decide) (by decide) (by decide)
   ·exact two _ _ (by decide) (by decide) (by decide) (by decide)
   all_goals exact one _ (by decide) (by decide) (by decide) (by decide) (by decide) (hg2 rfl)
  refine hS s ?_ hg
  rcases hs with h | ⟨c,hc,rfl⟩
  ·exact .inl h
  ·exact .inr (List.mem_map.2 ⟨c,hc,rfl⟩)
theorem toks_glue {t:Tk} (h:Good t) (g:List UInt8) (hg:∀ c r,g=c :: r → nextOk t c=true):toks (piece t ++ g)=bindTok t (toks g):=by
 obtain ⟨c,r,hp,ht,hb,h45⟩:=tokA_piece h
 have h2:=tokA_glue h g hg
 rw [hp] at h2 ⊢
 rw [List.cons_append] at h2 ⊢
 have hs:skipA false (c :: (r ++ g))=c :: (r ++ g):=by
  simp only [skipA,hb]
  by_cases hc:c=45
  ·subst hc
   rw [h45 rfl] at hp ⊢
   have hh:((45:UInt8) == 45 && (([] ++ g).head? == some 45))=false:=by
    cases g with
    | nil => rfl
    | cons d q =>
     have h3:=hg d q rfl
     have hk:t.kind=4∧t.s=[45]:=by
      rcases h with h | h | h | h
      ·have:piece t=t.s:=by unfold piece;rw [h.kind];rfl
       rw [this] at hp
       obtain ⟨a,b,hs,hl⟩:=h.head
       rw [hp] at hs
       cases hs
       exact absurd hl (by decide)
      ·have hd:=digA_digit 20 t.n
       have:piece t=digA 20 t.n:=by unfold piece;rw [h.kind];rfl
       rw [this] at hp
       rw [hp] at hd
       exact absurd (hd 45 (by simp)) (by decide)
      ·have:piece t=39 :: (dupQ t.s ++ [39]):=by unfold piece;rw [h.kind];rfl
       rw [this] at hp
       simp at hp
      ·have:piece t=t.s:=by unfold piece;rw [h.kind];rfl
       exact ⟨h.kind,by rw [← this,hp]⟩
     simp only [nextOk,hk.1,hk.2] at h3
     simp at h3
     simp [h3.2]
   rw [hh]
   rfl
  ·have:(c == 45)=false:=by simpa using hc
   simp [this]
 rw [toks_ok hs h2]
 have e:(c :: (r ++ g)).drop (c :: r).length=g:=by rw [← List.cons_append,List.drop_left]
 rw [e]
theorem toks_blank (g:List UInt8):toks (32 :: g)=toks g:=toks_cong (l:=32 :: g) (m:=g) rfl
inductive It where
 | bl
 | tk (t:Tk)
def It.text:It → List UInt8
 | .bl => [32]
 | .tk t => piece t
def textIt (l:List It):List UInt8:=(l.map It.text).flatten
def toksIt:List It → List Tk
 | [] => []
 | .bl :: l => toksIt l
 | .tk t :: l => t :: toksIt l
def fits:List It → Prop
 | [] => True
 | .bl :: l => fits l
 | .tk t :: l => Good t∧(∀ c r,textIt l=c :: r → nextOk t c=true)∧fits l
theorem textIt_cons (i:It) (l:List It):textIt (i :: l)=i.text ++ textIt l:=rfl
theorem toks_it:∀ l:List It,fits l → toks (textIt l) = .ok (toksIt l)
 | [],_ => toks_nil rfl
 | .bl :: l,h => by
  rw [textIt_cons]
  show toks (32 :: textIt l)=_
  rw [toks_blank,toks_it l h]
  rfl
 | .tk t :: l,h => by
  rw [textIt_cons]
  show toks (piece t ++ textIt l)=_
  rw [toks_glue h.1 _ h.2.1,toks_it l h.2.2]
  rfl
theorem good_word {l:List UInt8} (h:(match l with | [] => false | c :: _ => isLetter c && l.all (fun c => isPart c && lowerB c == c) && decide (l.length ≤ 30))=true):Good ⟨1,l,0⟩:=by
 cases l with
 | nil => simp at h
 | cons c r =>
  simp only [Bool.and_eq_true,decide_eq_true_eq] at h
  obtain ⟨⟨h1,h2⟩,h3⟩:=h
  have h4:=List.all_eq_true.1 h2
  refine .inl ⟨rfl,rfl,⟨c,r,rfl,h1⟩,fun x hx => by have:=h4 x hx;simp only [Bool.and_eq_true] at this;exact this.1,?_,h3⟩
  have:∀ m:List UInt8,(∀ x ∈ m,lowerB x=x) → m.map lowerB=m:=by
   intro m hm
   induction m with
   | nil => rfl
   | cons a b ih => rw [List.map_cons,hm a (by simp),ih (fun x hx => hm x (by simp [hx]))]
  exact this _ (fun x hx => by have:=h4 x hx;simp only [Bool.and_eq_true] at this;simpa using this.2)
theorem good_sign {l:List UInt8} (h:(twos.contains l || ones.any (fun c => l == [c]))=true):Good ⟨4,l,0⟩:=by
 refine .inr (.inr (.inr ⟨rfl,rfl,?_⟩))
 simp only [Bool.or_eq_true] at h
 rcases h with h | h
 ·left
  simpa using h
 ·right
  obtain ⟨c,hc,he⟩:=List.any_eq_true.1 h
  exact ⟨c,hc,by simpa using he⟩
theorem good_num {n:Nat} (h:n ≤ 9223372036854775807):Good ⟨2,[],n⟩:=.inr (.inl ⟨rfl,rfl,h⟩)
theorem good_str {l:List UInt8} (h:l.length ≤ 200):Good ⟨3,l,0⟩:=.inr (.inr (.inl ⟨rfl,rfl,h⟩))
end Go.Proofs.YtcgdncpioafbdaaGreatDoor.Lx
namespace Go.Proofs.YtcgdncpioafbdaaGreatDoor.Q
open Go Go.RowKit Go.Proofs.YtcgdncpioafbdaaGreatDoorW.PrintWords
theorem tl_mk (a:Array UInt8):(⟨a⟩:ByteArray).toList=a.toList:=tl_data _
theorem res_l (s:ByteArray) (x5:List ByteArray) (hl:x5.length < 4611686018427387904):∀ (n k i:Nat),x5.length - i=n → n < k → i ≤ x5.length → vidimusref17_Reserved.l0 k s x5 (x5.length:Int) (i:Int)=some ((x5.drop i).any fun x => x.toList == s.toList)
 | n,0,i,_,h,_ => by omega
 | 0,k + 1,i,hn,_,hi => by
  rw [vidimusref17_Reserved.l0,if_neg (by omega),List.drop_of_length_le (by omega)]
  rfl
 | n + 1,k + 1,i,hn,hk,hi => by
  have hlt:i < x5.length:=by omega
  rw [vidimusref17_Reserved.l0,if_pos (by omega),if_pos (by omega),if_pos (by omega)]
  have e:rdOf ByteArray.empty x5 (i:Int)=x5[i]:=by
   unfold rdOf
   rw [Int.toNat_natCast,List.getD_eq_getElem?_getD,List.getElem?_eq_getElem hlt]
   rfl
  have ew:wrap64 ((i:Int) + 1)=((i + 1:Nat):Int):=by rw [w64 (by omega) (by omega)];omega
  rw [e,List.drop_eq_getElem_cons hlt,List.any_cons,ew]
  by_cases h:x5[i].toList=s.toList
  ·rw [if_pos h,h]
   simp
  ·rw [if_neg h,res_l s x5 hl n k (i + 1) (by omega) (by omega) (by omega),beq_eq_false_iff_ne.mpr h]
   rfl
theorem Reserved_is (s:ByteArray) (k:Nat) (hk:40 ≤ k):vidimusref17_Reserved.f k s=some (Ps.reserved s):=by
 unfold vidimusref17_Reserved.f
 simp only [Option.bind_some]
 rw [show (0:Int)=((0:Nat):Int) from rfl,res_l s _ (by decide) 29 k 0 rfl (by omega) (by omega)]
 unfold Ps.reserved Ps.resL
 rw [List.drop_zero,List.contains_eq_any_beq]
 simp only [List.any_cons,List.any_nil,tl_mk,Bool.beq_comm (a:=s.toList)]
theorem data_app (a b:ByteArray):(a ++ b).data.toList=a.data.toList ++ b.data.toList:=by simp
structure SmallW (s:ByteArray):Prop where
 low:∀ c ∈ s.data.toList,97 ≤ c∧c ≤ 122
 one:1 ≤ s.size
 len:s.size ≤ 30
theorem small_letter (c:UInt8):97 ≤ c∧c ≤ 122 → Lx.isLetter c=true∧Lx.isPart c=true∧Lx.lowerB c=c∧Lx.isBlank c=false:=Lx.all8 (p:=fun c => 97 ≤ c∧c ≤ 122 → Lx.isLetter c=true∧Lx.isPart c=true∧Lx.lowerB c=c∧Lx.isBlank c=false) (by decide +kernel) c
theorem SmallW.good {s:ByteArray} (h:SmallW s):Lx.Good ⟨1,s.data.toList,0⟩:=by
 refine Lx.good_word ?_
 have h1:=h.one
 have h2:=h.len
 have hl:=len_data s
 cases e:s.data.toList with
 | nil => rw [e] at hl;simp at hl;omega
 | cons c r =>
  simp only [Bool.and_eq_true,decide_eq_true_eq]
  refine ⟨⟨(small_letter c (h.low c (by rw [e];simp))).1,List.all_eq_true.2 fun x hx => ?_⟩,?_⟩
  ·obtain ⟨_,p1,p2,_⟩:=small_letter x (h.low x (by rw [e];exact hx))
   simp [p1,p2]
  ·rw [← e,hl];exact h2
theorem parseS_toks {s:ByteArray} {ts:List Lx.Tk} (hs:s.size ≤ 4000) (h:Lx.toks s.data.toList = .ok ts):parseS s=parseA (ts.map tk32 ++ [z32]):=by
 unfold parseS tokF
 rw [Lx.lexA_toks,if_neg (by rw [len_data];omega),h]
 rfl
theorem fits_bl {t:Lx.Tk} {l:List Lx.It} (hg:Lx.Good t) (h:Lx.nextOk t 32=true) (hl:Lx.fits l):Lx.fits (.tk t :: .bl :: l) :=
 ⟨hg,fun c r hc => by
  rw [Lx.textIt_cons] at hc
  simp only [Lx.It.text,List.cons_append,List.cons.injEq] at hc
  rw [← hc.1];exact h,hl⟩
theorem ok_open (c:UInt8):Lx.nextOk ⟨4,[40],0⟩ c=true:=by
 have h1:Lx.twos.contains [40,c]=false:=by simp [Lx.twos]
 have:Lx.nextOk ⟨4,[40],0⟩ c=(false || (!Lx.twos.contains [40,c] && !(([40]:List UInt8) == [45] && c == 45))):=rfl
 rw [this,h1]
 rfl
theorem word_blank (l:List UInt8):Lx.nextOk ⟨1,l,0⟩ 32=true:=by
 have:Lx.nextOk ⟨1,l,0⟩ 32 = !Lx.isPart 32:=rfl
 rw [this];decide
def T4 (s:ByteArray):ByteArray:=(⟨#[100,101,108,101,116,101,32,102,114,111,109,32,116,32,119,104,101,114,101,32]⟩:ByteArray) ++ s
theorem not_res {s:ByteArray} (hr:Ps.reserved s=false):∀ x ∈ Ps.resL,s.toList ≠ x:=by
 intro x hx e
 unfold Ps.reserved at hr
 rw [e] at hr
 have:=List.contains_iff_mem.2 hx
 rw [hr] at this
 cases this
theorem t_free:Ps.reserved ⟨#[116]⟩=false:=by decide +kernel
theorem b_none:Ps.binds ⟨#[]⟩=0:=by decide +kernel
end Go.Proofs.YtcgdncpioafbdaaGreatDoor.Q
namespace Go.Proofs.YtcgdncpioafbdaaGreatDoor.Q
open Go Go.RowKit Go.Proofs.YtcgdncpioafbdaaGreatDoorW.PrintWords
structure NameOk (r:ByteArray):Prop where
 small:SmallW r
 free:Ps.reserved r=false
theorem x_ok:NameOk ⟨#[120]⟩:=⟨⟨by decide,by decide,by decide⟩,by decide +kernel⟩
theorem pre_ok {s:ByteArray} {n:Nat} (h1:1 ≤ n) (h2:n ≤ s.size) (h3:n ≤ 10) (hl:∀ j,j < n → 97 ≤ bt s (j:Int)∧bt s (j:Int) ≤ 122) (hr:Ps.reserved (s.extract 0 n)=false):NameOk (s.extract 0 n):=by
 have hd:(s.extract 0 n).data.toList=s.data.toList.take n:=by simp
 have hz:(s.extract 0 n).size=n:=by simp;omega
 refine ⟨⟨fun c hc => ?_,by omega,by omega⟩,hr⟩
 rw [hd] at hc
 obtain ⟨j,hj,rfl⟩:=List.getElem_of_mem hc
 rw [List.length_take] at hj
 have hjn:j < n:=by omega
 have hjs:j < s.size:=by omega
 have hb:=hl j hjn
 rw [bt_get s j hjs] at hb
 have e:(s.data.toList.take n)[j]=s[j]'hjs:=by
  rw [List.getElem_take]
  rfl
 rw [e]
 exact ⟨UInt8.le_iff_toNat_le.2 (by have:=hb.1;show 97 ≤ (s[j]'hjs).toNat;omega),UInt8.le_iff_toNat_le.2 (by have:=hb.2;show (s[j]'hjs).toNat ≤ 122;omega)⟩
theorem name_end {s:ByteArray} {k i:Nat} (hk:40 ≤ k) (h2:i ≤ s.size) (h3:i ≤ 10) (hl:∀ j,j < i → 97 ≤ bt s (j:Int)∧bt s (j:Int) ≤ 122):∃ r,(if (i:Int)=0 then (some (⟨#[120]⟩:ByteArray)) else (if (i:Int) ≤ (s.size:Int) then ((vidimusref17_Reserved.f k (s.extract 0 (i:Int).toNat)).bind fun t122 => (if t122=true then (some (⟨#[120]⟩:ByteArray)) else (some (s.extract 0 (i:Int).toNat)))) else (none)))=some r∧NameOk r:=by
 by_cases h0:i=0
 ·subst h0
  exact ⟨_,by rw [if_pos (by omega)],x_ok⟩
 ·rw [if_neg (by omega),if_pos (by omega),Int.toNat_natCast,Reserved_is _ k hk,Option.bind_some]
  cases hr:Ps.reserved (s.extract 0 i) with
  | true => exact ⟨_,by rw [if_pos rfl],x_ok⟩
  | false => exact ⟨_,by rw [if_neg (by simp)],pre_ok (by omega) h2 h3 hl hr⟩
theorem name_l (s:ByteArray):∀ (n k i:Nat),10 - i ≤ n → n + 41 ≤ k → i ≤ s.size → i ≤ 10 → (∀ j,j < i → 97 ≤ bt s (j:Int)∧bt s (j:Int) ≤ 122) → ∃ r,vidimuslaw17_Name.l0 k s (i:Int)=some r∧NameOk r
 | n,0,i,_,h,_,_,_ => by omega
 | n,k + 1,i,hn,hk,hs,h10,hl => by
  have hE:=name_end (s:=s) (k:=k) (i:=i) (by omega) hs h10 hl
  rw [vidimuslaw17_Name.l0]
  by_cases c1:(i:Int) < (s.size:Int)
  ·rw [if_pos c1]
   by_cases c2:(i:Int) < 10
   ·rw [if_pos c2,if_pos (by omega)]
    by_cases c3:bt s (i:Int) ≥ 97
    ·rw [if_pos c3]
     by_cases c4:bt s (i:Int) ≤ 122
     ·rw [if_pos c4]
      obtain ⟨n,rfl⟩:∃ m,n=m + 1:=⟨n - 1,by omega⟩
      have ew:wrap64 ((i:Int) + 1)=((i + 1:Nat):Int):=by rw [w64 (by omega) (by omega)];omega
      rw [ew]
      refine name_l s n k (i + 1) (by omega) (by omega) (by omega) (by omega) (fun j hj => ?_)
      rcases Nat.lt_or_ge j i with h | h
      ·exact hl j h
      ·have:j=i:=by omega
       subst this
       exact ⟨c3,c4⟩
     ·rw [if_neg c4]
      exact hE
    ·rw [if_neg c3]
     exact hE
   ·rw [if_neg c2]
    by_cases h0:(i:Int)=0
    ·omega
    ·rw [if_neg h0,if_pos (by omega)]
     rw [if_neg h0] at hE
     exact hE
  ·rw [if_neg c1]
   by_cases h0:(i:Int)=0
   ·rw [if_pos h0]
    exact ⟨_,rfl,x_ok⟩
   ·rw [if_neg h0,if_pos (by omega)]
    rw [if_neg h0] at hE
    exact hE
theorem name_is (s:ByteArray):vidimuslaw17_Name.f 100 s=some (nameOf s)∧NameOk (nameOf s):=by
 obtain ⟨r,h,hr⟩:=name_l s 10 100 0 (by omega) (by omega) (by omega) (by omega) (fun j hj => by omega)
 have h2:vidimuslaw17_Name.f 100 s=some r:=h
 unfold nameOf
 rw [h2]
 exact ⟨rfl,hr⟩
inductive GE:S43 → Prop
 | nul:GE (Ps.val ⟨0,0,⟨#[]⟩⟩)
 | num (n:Int) (h1:-9223372036854775808 ≤ n) (h2:n ≤ 9223372036854775807):GE (Ps.val ⟨1,n,⟨#[]⟩⟩)
 | str (s:ByteArray) (h:s.size ≤ 60):GE (Ps.val ⟨2,0,s⟩)
 | col (s:ByteArray) (h:NameOk s):GE ⟨Ps.sCol,Ps.v0,s,[]⟩
 | count:GE (Ps.op Ps.sCount [])
 | one (w:ByteArray) (a:S43) (hw:w ∈ onesL) (ha:GE a):GE (Ps.op w [a])
 | two (w:ByteArray) (a b:S43) (hw:w ∈ twosL) (ha:GE a) (hb:GE b):GE (Ps.op w [a,b])
mutual
def cnt:S43 → Nat
 | ⟨_,_,_,l⟩ => cnts l + 1
def cnts:List S43 → Nat
 | [] => 0
 | x :: l => cnt x + cnts l
end
theorem cnt_op1 (w:ByteArray) (a:S43):cnt (Ps.op w [a])=cnt a + 1:=by unfold Ps.op;rw [cnt,cnts,cnts]
theorem cnt_op2 (w:ByteArray) (a b:S43):cnt (Ps.op w [a,b])=cnt a + cnt b + 1:=by unfold Ps.op;rw [cnt,cnts,cnts,cnts];omega
theorem cnts_app:∀ a b:List S43,cnts (a ++ b)=cnts a + cnts b
 | [],b => by rw [cnts,List.nil_append];omega
 | x :: a,b => by rw [List.cons_append,cnts,cnts,cnts_app a b];omega
theorem cnts_mem {x:S43}:∀ {l:List S43},x ∈ l → cnt x ≤ cnts l
 | y :: l,h => by
  rw [cnts]
  rcases List.mem_cons.1 h with rfl | h
  ·omega
  ·have:=cnts_mem h
   omega
theorem leaf_cnt (o:ByteArray) (v:S40) (n:ByteArray):cnts [⟨o,v,n,[]⟩]=1:=by rw [cnts,cnts,cnt,cnts]
structure StepOk (s:S114):Prop where
 lo:-9223372036854775808 ≤ s.f1
 hi:s.f1 ≤ 9223372036854775807
theorem last1 {xs:List S43} {m:Nat} (h:xs.length=m + 1):∃ ys y,xs=ys ++ [y]∧ys.length=m:=by
 have hne:xs ≠ []:=fun e => by rw [e] at h;simp at h
 exact ⟨xs.dropLast,xs.getLast hne,(List.dropLast_concat_getLast hne).symm,by rw [List.length_dropLast,h];rfl⟩
theorem last2 {xs:List S43} {m:Nat} (h:xs.length=m + 2):∃ ys y z,xs=ys ++ [y,z]∧ys.length=m:=by
 obtain ⟨ys,z,rfl,h1⟩:=last1 (m:=m + 1) h
 obtain ⟨us,y,rfl,h2⟩:=last1 (m:=m) h1
 exact ⟨us,y,z,by simp,h2⟩
theorem step_good {s:S114} {xs:List S43} (hs:StepOk s) (hz:s.f2.size ≤ 60) (hx:∀ x ∈ xs,GE x):(∀ x ∈ stepE s xs,GE x)∧cnts (stepE s xs) ≤ cnts xs + 1:=by
 have app:∀ {l:List S43} {x:S43},(∀ y ∈ l,GE y) → GE x → ∀ y ∈ l ++ [x],GE y:=by
  intro l x hl hx y hy
  rcases List.mem_append.1 hy with h | h
  ·exact hl y h
  ·rw [List.mem_singleton.1 h];exact hx
 unfold stepE
 split
 ·exact ⟨app hx (GE.num s.f1 hs.lo hs.hi),by rw [cnts_app,leaf_cnt];omega⟩
 split
 ·exact ⟨app hx (GE.str s.f2 hz),by rw [cnts_app,leaf_cnt];omega⟩
 split
 ·exact ⟨app hx GE.nul,by rw [cnts_app,leaf_cnt];omega⟩
 split
 ·exact ⟨app hx (GE.col _ (name_is s.f2).2),by rw [cnts_app,leaf_cnt];omega⟩
 split
 ·exact ⟨app hx GE.count,by rw [cnts_app,leaf_cnt];omega⟩
 split
 ·rename_i h
  obtain ⟨m,hm⟩:∃ m,xs.length=m + 1:=⟨xs.length - 1,by omega⟩
  obtain ⟨ys,y,rfl,hy⟩:=last1 hm
  have e1:(ys ++ [y]).length - 1=ys.length:=by simp
  have hw:onesL.getD (s.f0 - 5).toNat (⟨#[]⟩:ByteArray) ∈ onesL:=by
   have hl:(s.f0 - 5).toNat < onesL.length:=by show (s.f0 - 5).toNat < 6;omega
   rw [List.getD_eq_getElem?_getD,List.getElem?_eq_getElem hl]
   exact List.getElem_mem _
  have hg:(ys ++ [y]).getD ys.length z43=y:=by rw [List.getD_eq_getElem?_getD];simp
  have hset:(ys ++ [y]).set ys.length (Ps.op (onesL.getD (s.f0 - 5).toNat (⟨#[]⟩:ByteArray)) [y])=ys ++ [Ps.op (onesL.getD (s.f0 - 5).toNat (⟨#[]⟩:ByteArray)) [y]]:=by rw [List.set_append_right _ _ (Nat.le_refl _),Nat.sub_self,List.set_cons_zero]
  rw [e1,hg]
  show (∀ x ∈ (ys ++ [y]).set ys.length (Ps.op (onesL.getD (s.f0 - 5).toNat (⟨#[]⟩:ByteArray)) [y]),GE x)∧cnts ((ys ++ [y]).set ys.length (Ps.op (onesL.getD (s.f0 - 5).toNat (⟨#[]⟩:ByteArray)) [y])) ≤ _
  rw [hset]
  refine ⟨app (fun x h => hx x (by simp [h])) (GE.one _ y hw (hx y (by simp))),?_⟩
  rw [cnts_app,cnts_app,cnts,cnts,cnts,cnts,cnt_op1]
  omega
 split
 ·rename_i h
  obtain ⟨m,hm⟩:∃ m,xs.length=m + 2:=⟨xs.length - 2,by omega⟩
  obtain ⟨ys,y,z,rfl,hy⟩:=last2 hm
  have e1:(ys ++ [y,z]).length - 2=ys.length:=by simp
  have e2:(ys ++ [y,z]).length - 1=ys.length + 1:=by simp
  have hw:twosL.getD (s.f0 - 11).toNat (⟨#[]⟩:ByteArray) ∈ twosL:=by
   have hl:(s.f0 - 11).toNat < twosL.length:=by show (s.f0 - 11).toNat < 14;omega
   rw [List.getD_eq_getElem?_getD,List.getElem?_eq_getElem hl]
   exact List.getElem_mem _
  have g1:(ys ++ [y,z]).getD ys.length z43=y:=by rw [List.getD_eq_getElem?_getD];simp
  have g2:(ys ++ [y,z]).getD (ys.length + 1) z43=z:=by rw [List.getD_eq_getElem?_getD,List.getElem?_append_right (by omega)];simp
  have g3:(ys ++ [y,z]).take ys.length=ys:=by simp
  rw [e1,e2,g1,g2,g3]
  refine ⟨app (fun x h => hx x (by simp [h])) (GE.two _ y z hw (hx y (by simp)) (hx z (by simp))),?_⟩
  show cnts (ys ++ [Ps.op (twosL.getD (s.f0 - 11).toNat (⟨#[]⟩:ByteArray)) [y,z]]) ≤ _
  rw [cnts_app,cnts_app,cnts,cnts,cnts,cnts,cnts,cnt_op2]
  omega
 ·exact ⟨hx,by omega⟩
theorem pile_good:∀ (l:List S114) (xs r:List S43),(∀ s ∈ l,StepOk s) → (∀ x ∈ xs,GE x) → pileE l xs=some r → (∀ x ∈ r,GE x)∧cnts r ≤ cnts xs + l.length
 | [],xs,r,_,hx,h => by
  rw [pileE] at h
  obtain rfl:=Option.some.inj h
  exact ⟨hx,by simp⟩
 | s :: l,xs,r,hs,hx,h => by
  rw [pileE] at h
  split at h
  ·cases h
  ·rename_i hz
   obtain ⟨h1,h2⟩:=step_good (hs s (by simp)) (by omega) hx
   obtain ⟨h3,h4⟩:=pile_good l _ r (fun t ht => hs t (by simp [ht])) h1 h
   exact ⟨h3,by simp only [List.length_cons];omega⟩
theorem pileR_good {l:List S114} {x:S43} (hs:∀ s ∈ l,StepOk s) (h:pileR l=some x):GE x∧cnt x ≤ 40:=by
 unfold pileR at h
 split at h
 ·cases h
 ·rename_i hl
  cases hp:pileE l [] with
  | none => rw [hp] at h;cases h
  | some r =>
   rw [hp,Option.bind_some] at h
   obtain ⟨h1,h2⟩:=pile_good l [] r hs (by simp) hp
   have hm:=List.mem_of_getLast? h
   have:=cnts_mem hm
   rw [cnts] at h2
   exact ⟨h1 x hm,by omega⟩
theorem GE.tg {x:S43} (h:GE x):TG x:=by
 induction h with
 | nul => exact TG_of _ (by decide)
 | num n h1 h2 => rw [TG_eq];exact ⟨⟨h1,h2,Nat.zero_le _⟩,by show TGs [];rw [TGs];trivial⟩
 | str s h => rw [TG_eq];exact ⟨⟨(show (-9223372036854775808:Int) ≤ 0 by decide),(show (0:Int) ≤ 9223372036854775807 by decide),by show s.size ≤ 500;omega⟩,by show TGs [];rw [TGs];trivial⟩
 | col s h => rw [TG_eq];exact ⟨⟨(show (-9223372036854775808:Int) ≤ 0 by decide),(show (0:Int) ≤ 9223372036854775807 by decide),Nat.zero_le _⟩,by show TGs [];rw [TGs];trivial⟩
 | count => exact TG_of _ (by decide)
 | one w a _ _ ih => rw [TG_eq];exact ⟨⟨(show (-9223372036854775808:Int) ≤ 0 by decide),(show (0:Int) ≤ 9223372036854775807 by decide),Nat.zero_le _⟩,by show TGs [a];rw [TGs,TGs];exact ⟨ih,trivial⟩⟩
 | two w a b _ _ _ ih1 ih2 => rw [TG_eq];exact ⟨⟨(show (-9223372036854775808:Int) ≤ 0 by decide),(show (0:Int) ≤ 9223372036854775807 by decide),Nat.zero_le _⟩,by show TGs [a,b];rw [TGs,TGs,TGs];exact ⟨ih1,ih2,trivial⟩⟩
theorem GE.fu {x:S43} (h:GE x):fu x ≤ 4 * cnt x:=by
 induction h with
 | nul => decide
 | num n h1 h2 => show 2 ≤ 4 * _;unfold Ps.val;rw [cnt,cnts];omega
 | str s h => show 2 ≤ 4 * _;unfold Ps.val;rw [cnt,cnts];omega
 | col s h => rw [cnt,cnts];show 2 ≤ 4;omega
 | count => decide
 | one w a _ _ ih => have:=fu_op1 w a;rw [cnt_op1];omega
 | two w a b _ _ _ ih1 ih2 => have:=fu_op2 w a b;rw [cnt_op2];omega
end Go.Proofs.YtcgdncpioafbdaaGreatDoor.Q
namespace Go.Proofs.YtcgdncpioafbdaaGreatDoor.Q
open Go Go.RowKit Go.Proofs.YtcgdncpioafbdaaGreatDoorW.PrintWords
open Lx (It)
def par (t:ByteArray):ByteArray:=((⟨#[40]⟩:ByteArray) ++ t) ++ (⟨#[41]⟩:ByteArray)
theorem par_list (t:ByteArray):(par t).data.toList=40 :: (t.data.toList ++ [41]):=by
 unfold par
 simp only [data_app]
 simp
theorem txt_one (w:ByteArray) (a:S43):txt (Ps.op w [a])=txtB w Ps.v0 ⟨#[]⟩ [txt a]:=by
 rw [txt_eq]
 show txtB w Ps.v0 ⟨#[]⟩ (txts [a])=_
 rw [txts_map]
 rfl
theorem txt_two (w:ByteArray) (a b:S43):txt (Ps.op w [a,b])=txtB w Ps.v0 ⟨#[]⟩ [txt a,txt b]:=by
 rw [txt_eq]
 show txtB w Ps.v0 ⟨#[]⟩ (txts [a,b])=_
 rw [txts_map]
 rfl
theorem t_not (v:S40) (n A:ByteArray):txtB Ps.sNot v n [A]=(⟨#[110,111,116,32]⟩:ByteArray) ++ par A:=by kernel_rfl
theorem t_neg (v:S40) (n A:ByteArray):txtB Ps.sNeg v n [A]=(⟨#[45]⟩:ByteArray) ++ par A:=by kernel_rfl
theorem t_isn (v:S40) (n A:ByteArray):txtB Ps.sIsnull v n [A]=par A ++ (⟨#[32,105,115,32,110,117,108,108]⟩:ByteArray):=by kernel_rfl
theorem t_sum (v:S40) (n A:ByteArray):txtB Ps.sSum v n [A]=Ps.sSum ++ par A:=by kernel_rfl
theorem t_min (v:S40) (n A:ByteArray):txtB Ps.sMin v n [A]=Ps.sMin ++ par A:=by kernel_rfl
theorem t_max (v:S40) (n A:ByteArray):txtB Ps.sMax v n [A]=Ps.sMax ++ par A:=by kernel_rfl
theorem t_or (v:S40) (n A B:ByteArray):txtB Ps.sOr v n [A,B]=(((par A ++ (⟨#[32]⟩:ByteArray)) ++ Ps.sOr) ++ (⟨#[32]⟩:ByteArray)) ++ par B:=by kernel_rfl
theorem t_and (v:S40) (n A B:ByteArray):txtB Ps.sAnd v n [A,B]=(((par A ++ (⟨#[32]⟩:ByteArray)) ++ Ps.sAnd) ++ (⟨#[32]⟩:ByteArray)) ++ par B:=by kernel_rfl
theorem t_val (v:S40) (n:ByteArray):txtB Ps.sVal v n []=lit v:=by kernel_rfl
theorem t_col (v:S40) (n:ByteArray):txtB Ps.sCol v n []=n:=by kernel_rfl
theorem t_count (v:S40) (n:ByteArray):txtB Ps.sCount v n []=⟨#[99,111,117,110,116,40,42,41]⟩:=by kernel_rfl
theorem txt_val (v:S40):txt (Ps.val v)=lit v:=by
 rw [txt_eq]
 show txtB Ps.sVal v ⟨#[]⟩ (txts [])=_
 rw [txts,t_val]
theorem txt_col (n:ByteArray):txt ⟨Ps.sCol,Ps.v0,n,[]⟩=n:=by
 rw [txt_eq]
 show txtB Ps.sCol Ps.v0 n (txts [])=_
 rw [txts,t_col]
theorem txt_count:txt (Ps.op Ps.sCount [])=⟨#[99,111,117,110,116,40,42,41]⟩:=by
 rw [txt_eq]
 show txtB Ps.sCount Ps.v0 ⟨#[]⟩ (txts [])=_
 rw [txts,t_count]
def signL:List (List UInt8):=[[61],[60,62],[60],[60,61],[62],[62,61],[43],[45],[124,124],[42],[47],[37]]
theorem sign_eqs:∀ s ∈ signL,(ba s).toList ≠ [118,97,108]∧(ba s).toList ≠ [99,111,108]∧(ba s).toList ≠ [111,114]∧(ba s).toList ≠ [97,110,100]∧(ba s).toList ≠ [110,111,116]∧(ba s).toList ≠ [110,101,103]∧(ba s).toList ≠ [105,115,110,117,108,108]∧(ba s).toList ≠ [99,111,117,110,116]∧(ba s).toList ≠ [115,117,109]∧(ba s).toList ≠ [109,105,110]∧(ba s).toList ≠ [109,97,120]∧bigB (ba s)=true∧Ps.binds (ba s) ≠ 0∧0 ≤ Ps.binds (ba s)∧(ba s).toList ≠ [105,115]∧Lx.nextOk ⟨4,s,0⟩ 40=true∧(Lx.twos.contains s || Lx.ones.any (fun c => s == [c]))=true:=by decide +kernel
theorem t_sign {s:List UInt8} (h:s ∈ signL) (v:S40) (n A B:ByteArray):txtB (ba s) v n [A,B]=(par A ++ ba s) ++ par B:=by
 obtain ⟨h1,h2,h3,h4,h5,h6,h7,h8,h9,h10,h11,h12,_⟩:=sign_eqs s h
 unfold txtB
 rw [if_neg h1,if_neg h2,if_neg h3,if_neg h4,if_neg h5,if_neg h6,if_neg h7,if_neg h8,if_neg h9,if_neg h10,if_neg h11,if_pos h12]
 rfl
theorem twos_split {w:ByteArray} (h:w ∈ twosL):w=Ps.sOr ∨ w=Ps.sAnd ∨ ∃ s ∈ signL,w=ba s:=by
 simp only [twosL,List.mem_cons,List.mem_nil_iff,or_false] at h
 rcases h with h | h | h | h | h | h | h | h | h | h | h | h | h | h
 ·exact .inl h
 ·exact .inr (.inl h)
 ·exact .inr (.inr ⟨[61],by decide,h⟩)
 ·exact .inr (.inr ⟨[60,62],by decide,h⟩)
 ·exact .inr (.inr ⟨[60],by decide,h⟩)
 ·exact .inr (.inr ⟨[60,61],by decide,h⟩)
 ·exact .inr (.inr ⟨[62],by decide,h⟩)
 ·exact .inr (.inr ⟨[62,61],by decide,h⟩)
 ·exact .inr (.inr ⟨[43],by decide,h⟩)
 ·exact .inr (.inr ⟨[45],by decide,h⟩)
 ·exact .inr (.inr ⟨[124,124],by decide,h⟩)
 ·exact .inr (.inr ⟨[42],by decide,h⟩)
 ·exact .inr (.inr ⟨[47],by decide,h⟩)
 ·exact .inr (.inr ⟨[37],by decide,h⟩)
theorem ones_split {w:ByteArray} (h:w ∈ onesL):w=Ps.sNot ∨ w=Ps.sNeg ∨ w=Ps.sIsnull ∨ w=Ps.sSum ∨ w=Ps.sMin ∨ w=Ps.sMax:=by
 simp only [onesL,List.mem_cons,List.mem_nil_iff,or_false] at h
 exact h
theorem par_size (t:ByteArray):(par t).size=t.size + 2:=by
 rw [← len_data,par_list]
 simp
theorem sign_len:∀ s ∈ signL,s.length ≤ 2:=by decide
theorem lit_le {v:S40} (h1:-9223372036854775808 ≤ v.f1) (h2:v.f1 ≤ 9223372036854775807) (h3:v.f2.size ≤ 60):(lit v).size ≤ 122:=by
 unfold lit
 split
 ·show 4 ≤ 122;omega
 split
 ·split
  ·rw [ByteArray.size_append,ba_size]
   have:=Lx.digA_len 20 (-v.f1).toNat (by decide) (pow20b (by omega))
   have:(⟨#[45]⟩:ByteArray).size=1:=rfl
   omega
  ·rw [ba_size]
   have:=Lx.digA_len 20 v.f1.toNat (by decide) (pow20b (by omega))
   omega
 ·rw [ba_size]
  have:=dupQ_le v.f2.data.toList
  rw [len_data] at this
  simp
  omega
theorem GE.size {x:S43} (h:GE x):(txt x).size ≤ 200 * cnt x:=by
 induction h with
 | nul => rw [txt_val];exact Nat.le_trans (lit_le (by decide) (by decide) (by decide)) (by show 122 ≤ 200 * 1;omega)
 | num n h1 h2 => rw [txt_val];exact Nat.le_trans (lit_le h1 h2 (show (0:Nat) ≤ 60 by decide)) (by show 122 ≤ 200 * 1;omega)
 | str s h => rw [txt_val];exact Nat.le_trans (lit_le (v:=⟨2,0,s⟩) (show (-9223372036854775808:Int) ≤ 0 by decide) (show (0:Int) ≤ 9223372036854775807 by decide) h) (by show 122 ≤ 200 * 1;omega)
 | col s h => rw [txt_col];have:=h.small.len;show s.size ≤ 200 * 1;omega
 | count => rw [txt_count];decide
 | one w a hw _ ih =>
  rw [cnt_op1,txt_one]
  rcases ones_split hw with rfl | rfl | rfl | rfl | rfl | rfl
  ·rw [t_not,ByteArray.size_append,par_size];have:(⟨#[110,111,116,32]⟩:ByteArray).size=4:=rfl;omega
  ·rw [t_neg,ByteArray.size_append,par_size];have:(⟨#[45]⟩:ByteArray).size=1:=rfl;omega
  ·rw [t_isn,ByteArray.size_append,par_size];have:(⟨#[32,105,115,32,110,117,108,108]⟩:ByteArray).size=8:=rfl;omega
  ·rw [t_sum,ByteArray.size_append,par_size];have:(Ps.sSum:ByteArray).size=3:=rfl;omega
  ·rw [t_min,ByteArray.size_append,par_size];have:(Ps.sMin:ByteArray).size=3:=rfl;omega
  ·rw [t_max,ByteArray.size_append,par_size];have:(Ps.sMax:ByteArray).size=3:=rfl;omega
 | two w a b hw _ _ ih1 ih2 =>
  rw [cnt_op2,txt_two]
  have hb:(⟨#[32]⟩:ByteArray).size=1:=rfl
  rcases twos_split hw with rfl | rfl | ⟨s,hs,rfl⟩
  ·rw [t_or];simp only [ByteArray.size_append,par_size,hb];have:(Ps.sOr:ByteArray).size=2:=rfl;omega
  ·rw [t_and];simp only [ByteArray.size_append,par_size,hb];have:(Ps.sAnd:ByteArray).size=3:=rfl;omega
  ·rw [t_sign hs];simp only [ByteArray.size_append,par_size,ba_size];have:=sign_len s hs;omega
theorem dep_op1 (w:ByteArray) (a:S43):dep (Ps.op w [a])=dep a + 1:=by
 rw [dep_eq];show deps [a] + 1=_;rw [deps_cons,deps_nil];omega
theorem dep_op2 (w:ByteArray) (a b:S43):dep (Ps.op w [a,b])=max (dep a) (dep b) + 1:=by
 rw [dep_eq];show deps [a,b] + 1=_;rw [deps_cons,deps_cons,deps_nil];omega
theorem dep_leaf (w n:ByteArray) (v:S40):dep ⟨w,v,n,[]⟩=1:=by rw [dep_eq];show deps [] + 1=_;rw [deps_nil]
mutual
def minusB:S43 → Bool
 | ⟨_,v,_,l⟩ => decide (v.f1 < 0) || minusBs l
def minusBs:List S43 → Bool
 | [] => false
 | x :: l => minusB x || minusBs l
end
theorem min_op1 {w:ByteArray} {a:S43} (h:minusB (Ps.op w [a])=false):minusB a=false:=by
 unfold Ps.op at h
 rw [minusB,minusBs,minusBs] at h
 simp only [Bool.or_eq_false_iff] at h
 exact h.2.1
theorem min_op2 {w:ByteArray} {a b:S43} (h:minusB (Ps.op w [a,b])=false):minusB a=false∧minusB b=false:=by
 unfold Ps.op at h
 rw [minusB,minusBs,minusBs,minusBs] at h
 simp only [Bool.or_eq_false_iff] at h
 exact ⟨h.2.1,h.2.2.1⟩
def after (g:List It):Prop:=∀ c r,Lx.textIt g=c :: r → c=41
abbrev kO:It:=.tk ⟨4,[40],0⟩
abbrev kC:It:=.tk ⟨4,[41],0⟩
def tkI (l:List It):List S32:=(Lx.toksIt l).map tk32
theorem textIt_app (a b:List It):Lx.textIt (a ++ b)=Lx.textIt a ++ Lx.textIt b:=by
 unfold Lx.textIt
 rw [List.map_append,List.flatten_append]
theorem toksIt_app:∀ a b:List It,Lx.toksIt (a ++ b)=Lx.toksIt a ++ Lx.toksIt b
 | [],b => rfl
 | .bl :: a,b => toksIt_app a b
 | .tk t :: a,b => by
  show t :: Lx.toksIt (a ++ b)=t :: (Lx.toksIt a ++ Lx.toksIt b)
  rw [toksIt_app a b]
theorem tkI_app (a b:List It):tkI (a ++ b)=tkI a ++ tkI b:=by unfold tkI;rw [toksIt_app,List.map_append]
theorem tkI_tk (t:Lx.Tk) (l:List It):tkI (.tk t :: l)=tk32 t :: tkI l:=rfl
theorem tkI_nil:tkI []=[]:=rfl
structure Given (x:S43) (l:List It):Prop where
 text:Lx.textIt l=(txt x).data.toList
 fits:∀ g,after g → Lx.fits g → Lx.fits (l ++ g)
 expr:∀ r,Ps.binds (Ps.pk r)=0 → ∀ k,4 * dep x + 4 ≤ k → Ps.expr k 0 (tkI l ++ r)=some (x,r)
def parI (l:List It):List It:=kO :: (l ++ [kC])
theorem parI_text {x:S43} {l:List It} (G:Given x l):Lx.textIt (parI l)=(par (txt x)).data.toList:=by
 unfold parI
 rw [Lx.textIt_cons,textIt_app,G.text,par_list]
 rfl
theorem ok_close (c:UInt8):Lx.nextOk ⟨4,[41],0⟩ c=true:=by
 have h1:Lx.twos.contains [41,c]=false:=by simp [Lx.twos]
 have:Lx.nextOk ⟨4,[41],0⟩ c=(false || (!Lx.twos.contains [41,c] && !(([41]:List UInt8) == [45] && c == 45))):=rfl
 rw [this,h1]
 rfl
theorem parI_fits {x:S43} {l:List It} (G:Given x l) {g:List It} (hg:Lx.fits g):Lx.fits (parI l ++ g):=by
 have e:parI l ++ g=kO :: (l ++ (kC :: g)):=by unfold parI;simp
 rw [e]
 refine ⟨Lx.good_sign (by decide),fun c r _ => ok_open c,G.fits _ ?_ ⟨Lx.good_sign (by decide),fun c r _ => ok_close c,hg⟩⟩
 intro c r h
 rw [Lx.textIt_cons] at h
 have:Lx.It.text kC=[41]:=rfl
 rw [this,List.cons_append] at h
 exact (List.cons.inj h).1.symm
theorem tk_before {t:Lx.Tk} {d:UInt8} {q:List UInt8} {g:List It} (hg:Lx.Good t) (hn:Lx.nextOk t d=true) (ht:Lx.textIt g=d :: q) (hf:Lx.fits g):Lx.fits (.tk t :: g) :=
 ⟨hg,fun c r h => by rw [ht] at h;rw [← (List.cons.inj h).1];exact hn,hf⟩
theorem tk_after {t:Lx.Tk} {g:List It} (hg:Lx.Good t) (hn:Lx.nextOk t 41=true) (ha:after g) (hf:Lx.fits g):Lx.fits (.tk t :: g) :=
 ⟨hg,fun c r h => by rw [ha c r h];exact hn,hf⟩
theorem par_front (l g:List It):∃ q,Lx.textIt (parI l ++ g)=40 :: q:=⟨_,by unfold parI;rw [List.cons_append,Lx.textIt_cons];rfl⟩
theorem tkI_par (l:List It) (r:List S32):tkI (parI l) ++ r=(⟨4,⟨#[40]⟩,0⟩:S32) :: (tkI l ++ ((⟨4,⟨#[41]⟩,0⟩:S32) :: r)):=by
 unfold parI
 rw [tkI_tk,tkI_app,tkI_tk,tkI_nil]
 simp [tk32,ba]
theorem close_binds (r:List S32):Ps.binds (Ps.pk ((⟨4,⟨#[41]⟩,0⟩:S32) :: r))=0:=by
 have:Ps.pk ((⟨4,⟨#[41]⟩,0⟩:S32) :: r)=⟨#[41]⟩:=rfl
 rw [this]
 decide +kernel
theorem par_first {x:S43} {l:List It} (G:Given x l) {k:Nat} (r:List S32) (hk:4 * dep x + 4 ≤ k):Ps.first (k + 1) (tkI (parI l) ++ r)=some (x,r):=by
 rw [tkI_par,Ps.first]
 have h:=G.expr _ (close_binds r) k hk
 simp [Ps.nx,tl_mk,h,Ps.ms,Ps.tk,Ps.pk]
theorem par_pk (l:List It) (r:List S32):Ps.pk (tkI (parI l) ++ r)=⟨#[40]⟩:=by rw [tkI_par];rfl
theorem more_end {r:List S32} (hb:Ps.binds (Ps.pk r)=0) (k:Nat) (least:Int) (x:S43):Ps.more (k + 1) least x r=some (x,r):=by rw [Ps.more,if_pos hb]
theorem par_expr {x:S43} {l:List It} (G:Given x l) {k:Nat} {r:List S32} {least:Int} (hk:4 * dep x + 4 ≤ k) (hb:Ps.binds (Ps.pk r)=0):Ps.expr (k + 2) least (tkI (parI l) ++ r)=some (x,r):=by
 rw [Ps.expr,par_pk,if_neg (by simp [tl_mk]),par_first G r hk]
 exact more_end hb _ _ _
theorem expr_at1 {ts r:List S32} {x:S43} {k:Nat} (hf:Ps.first (k + 1) ts=some (x,r)) (hb:Ps.binds (Ps.pk r)=0):Ps.expr (k + 2) 0 ts=some (x,r):=by
 rw [Ps.expr,if_neg (by omega),hf]
 exact more_end hb _ _ _
theorem suc2 {n k:Nat} (h:n + 2 ≤ k):∃ m,k=m + 2∧n ≤ m:=⟨k - 2,by omega,by omega⟩
theorem given_tok {x:S43} {t:Lx.Tk} (hg:Lx.Good t) (hn:Lx.nextOk t 41=true) (ht:Lx.piece t=(txt x).data.toList) (hp:∀ (k:Nat) (r:List S32),Ps.first (k + 1) (tk32 t :: r)=some (x,r)):Given x [.tk t] where
 text:=by
  rw [Lx.textIt_cons,← ht]
  show Lx.piece t ++ []=_
  rw [List.append_nil]
 fits g ha hf:=tk_after hg hn ha hf
 expr r hb k hk:=by
  obtain ⟨m,rfl,_⟩:=suc2 (n:=0) (k:=k) (by omega)
  exact expr_at1 (hp m r) hb
theorem given_nul:Given (Ps.val ⟨0,0,⟨#[]⟩⟩) [.tk ⟨1,[110,117,108,108],0⟩]:=by
 refine given_tok (Lx.good_word (by decide)) (by decide) (by rw [txt_val];rfl) (fun k r => ?_)
 show Ps.first (k + 1) ((⟨1,Ps.sNull,0⟩:S32) :: r)=_
 rw [Ps.first]
 simp [Ps.nx,tl_mk]
theorem given_num {n:Int} (h0:0 ≤ n) (h2:n ≤ 9223372036854775807):Given (Ps.val ⟨1,n,⟨#[]⟩⟩) [.tk ⟨2,[],n.toNat⟩]:=by
 refine given_tok (Lx.good_num (by omega)) rfl ?_ (fun k r => ?_)
 ·rw [txt_val]
  unfold lit
  rw [if_neg (show ¬ (1:Int)=0 by decide),if_pos rfl,if_neg (show ¬ n < 0 by omega),ba_data]
  rfl
 ·show Ps.first (k + 1) ((⟨2,ba [],(n.toNat:Int)⟩:S32) :: r)=_
  rw [Ps.first]
  have e:(n.toNat:Int)=n:=by omega
  simp [Ps.nx,e]
theorem given_str {s:ByteArray} (h:s.size ≤ 60):Given (Ps.val ⟨2,0,s⟩) [.tk ⟨3,s.data.toList,0⟩]:=by
 refine given_tok (Lx.good_str (by rw [len_data];omega)) rfl ?_ (fun k r => ?_)
 ·rw [txt_val]
  unfold lit
  rw [if_neg (show ¬ (2:Int)=0 by decide),if_neg (show ¬ (2:Int)=1 by decide),ba_data]
  rfl
 ·show Ps.first (k + 1) ((⟨3,ba s.data.toList,0⟩:S32) :: r)=_
  rw [Ps.first,ba_of]
  simp [Ps.nx]
theorem word_close (l:List UInt8):Lx.nextOk ⟨1,l,0⟩ 41=true:=by
 have:Lx.nextOk ⟨1,l,0⟩ 41 = !Lx.isPart 41:=rfl
 rw [this];decide
theorem word_open (l:List UInt8):Lx.nextOk ⟨1,l,0⟩ 40=true:=by
 have:Lx.nextOk ⟨1,l,0⟩ 40 = !Lx.isPart 40:=rfl
 rw [this];decide
theorem given_col {s:ByteArray} (h:NameOk s):Given ⟨Ps.sCol,Ps.v0,s,[]⟩ [.tk ⟨1,s.data.toList,0⟩]:=by
 refine given_tok h.small.good (word_close _) ?_ (fun k r => ?_)
 ·rw [txt_col]
  rfl
 ·show Ps.first (k + 1) ((⟨1,ba s.data.toList,0⟩:S32) :: r)=_
  rw [Ps.first,ba_of]
  have hn:=not_res h.free
  have n1:=hn [110,111,116] (by decide)
  have n2:=hn [110,117,108,108] (by decide)
  have n3:=hn [99,111,117,110,116] (by decide)
  have n4:=hn [115,117,109] (by decide)
  have n5:=hn [109,105,110] (by decide)
  have n6:=hn [109,97,120] (by decide)
  have low:∀ c,c < 97 → s.toList ≠ [c]:=fun c hc e => by
   rw [tl_data] at e
   have:=(h.small.low c (by rw [e];simp)).1
   exact absurd this (UInt8.not_le.2 hc)
  have n7:=low 45 (by decide)
  have n8:=low 40 (by decide)
  simp [Ps.nx,tl_mk,h.free,n1,n2,n3,n4,n5,n6,n7,n8]
theorem given_count:Given (Ps.op Ps.sCount []) [.tk ⟨1,[99,111,117,110,116],0⟩,kO,.tk ⟨4,[42],0⟩,kC] where
 text:=by rw [txt_count];rfl
 fits g _ hf:=tk_before (Lx.good_word (by decide)) (word_open _) rfl (tk_before (d:=42) (Lx.good_sign (by decide)) (ok_open _) rfl (tk_before (d:=41) (Lx.good_sign (by decide)) (by decide) rfl ⟨Lx.good_sign (by decide),fun c _ _ => ok_close c,hf⟩))
 expr r hb k hk:=by
  obtain ⟨m,rfl,_⟩:=suc2 (n:=0) (k:=k) (by omega)
  refine expr_at1 ?_ hb
  show Ps.first (m + 1) ((⟨1,Ps.sCount,0⟩:S32) :: (⟨4,Ps.sOpen,0⟩:S32) :: (⟨4,Ps.sStar,0⟩:S32) :: (⟨4,Ps.sClose,0⟩:S32) :: r)=_
  rw [Ps.first]
  simp [Ps.nx,tl_mk,Ps.ms,Ps.tk,Ps.pk]
section
variable {a:S43} {la:List It} (G:Given a la)
include G
theorem given_not:Given (Ps.op Ps.sNot [a]) (.tk ⟨1,[110,111,116],0⟩ :: .bl :: parI la) where
 text:=by
  rw [Lx.textIt_cons,Lx.textIt_cons,parI_text G,txt_one,t_not,data_app]
  rfl
 fits g _ hf:=tk_before (d:=32) (Lx.good_word (by decide)) (word_blank _) rfl (parI_fits G hf)
 expr r hb k hk:=by
  rw [dep_op1] at hk
  obtain ⟨m,rfl,hm⟩:=suc2 (n:=4 * dep a + 6) (k:=k) (by omega)
  obtain ⟨m,rfl,hm2⟩:=suc2 hm
  refine expr_at1 ?_ hb
  show Ps.first (m + 3) ((⟨1,Ps.sNot,0⟩:S32) :: (tkI (parI la) ++ r))=_
  rw [Ps.first]
  have h:=par_expr G (least:=3) hm2 hb
  simp [Ps.nx,tl_mk,h]
theorem given_neg:Given (Ps.op Ps.sNeg [a]) (.tk ⟨4,[45],0⟩ :: parI la) where
 text:=by
  rw [Lx.textIt_cons,parI_text G,txt_one,t_neg,data_app]
  rfl
 fits g _ hf:=by
  obtain ⟨q,hq⟩:=par_front la g
  exact tk_before (Lx.good_sign (by decide)) (by decide) hq (parI_fits G hf)
 expr r hb k hk:=by
  rw [dep_op1] at hk
  obtain ⟨m,rfl,hm⟩:=suc2 (n:=4 * dep a + 6) (k:=k) (by omega)
  obtain ⟨m,rfl,hm2⟩:=suc2 hm
  refine expr_at1 ?_ hb
  show Ps.first (m + 3) ((⟨4,Ps.sMinus,0⟩:S32) :: (tkI (parI la) ++ r))=_
  rw [Ps.first]
  have h:=par_expr G (least:=7) hm2 hb
  simp [Ps.nx,tl_mk,h]
theorem given_agg {w:List UInt8} (hw:w=[115,117,109] ∨ w=[109,105,110] ∨ w=[109,97,120]) (ht:txtB (ba w) Ps.v0 ⟨#[]⟩ [txt a]=ba w ++ par (txt a)):Given (Ps.op (ba w) [a]) (.tk ⟨1,w,0⟩ :: parI la) where
 text:=by
  rw [Lx.textIt_cons,parI_text G,txt_one,ht,data_app,ba_data]
  rfl
 fits g _ hf:=by
  obtain ⟨q,hq⟩:=par_front la g
  refine tk_before ?_ (word_open _) hq (parI_fits G hf)
  rcases hw with rfl | rfl | rfl <;> exact Lx.good_word (by decide)
 expr r hb k hk:=by
  rw [dep_op1] at hk
  obtain ⟨m,rfl,hm⟩:=suc2 (n:=4 * dep a + 6) (k:=k) (by omega)
  obtain ⟨m,rfl,hm2⟩:=suc2 hm
  refine expr_at1 ?_ hb
  show Ps.first (m + 3) ((⟨1,ba w,0⟩:S32) :: (tkI (parI la) ++ r))=_
  rw [Ps.first,tkI_par]
  have h:=G.expr ((⟨4,⟨#[41]⟩,0⟩:S32) :: r) (close_binds r) (m + 2) (by omega)
  rcases hw with rfl | rfl | rfl <;> simp [Ps.nx,ba,tl_mk,h,Ps.ms,Ps.tk,Ps.pk]
theorem given_isn:Given (Ps.op Ps.sIsnull [a]) (parI la ++ [.bl,.tk ⟨1,[105,115],0⟩,.bl,.tk ⟨1,[110,117,108,108],0⟩]) where
 text:=by
  rw [textIt_app,parI_text G,txt_one,t_isn,data_app]
  rfl
 fits g ha hf:=by
  rw [List.append_assoc]
  refine parI_fits G ?_
  exact tk_before (t:=⟨1,[105,115],0⟩) (d:=32) (Lx.good_word (by decide)) (word_blank _) rfl (tk_after (t:=⟨1,[110,117,108,108],0⟩) (Lx.good_word (by decide)) (word_close _) ha hf)
 expr r hb k hk:=by
  rw [dep_op1] at hk
  obtain ⟨m,rfl,hm⟩:=suc2 (n:=4 * dep a + 6) (k:=k) (by omega)
  obtain ⟨m,rfl,hm2⟩:=suc2 hm
  rw [tkI_app,List.append_assoc]
  have e:tkI [.bl,.tk ⟨1,[105,115],0⟩,.bl,.tk ⟨1,[110,117,108,108],0⟩] ++ r=(⟨1,Ps.sIs,0⟩:S32) :: (⟨1,Ps.sNull,0⟩:S32) :: r:=rfl
  rw [e,Ps.expr,if_neg (by omega),par_first G _ (by omega)]
  show Ps.more (m + 3) 0 a _=_
  have h4:Ps.binds Ps.sIs=4:=by decide +kernel
  rw [Ps.more]
  have hp:Ps.pk ((⟨1,Ps.sIs,0⟩:S32) :: (⟨1,Ps.sNull,0⟩:S32) :: r)=Ps.sIs:=rfl
  have hm:=more_end hb (m + 1) 0 (Ps.op Ps.sIsnull [a])
  rw [hp,h4,if_neg (by decide),if_neg (by decide)]
  simp [Ps.nx,tl_mk,Ps.tk,Ps.ms,Ps.pk,hm]
end
theorem given_two {a b:S43} {la lb mid:List It} (Ga:Given a la) (Gb:Given b lb) {w:ByteArray} {kd:Int} (hkd:kd=1 ∨ kd=4) (ht:txtB w Ps.v0 ⟨#[]⟩ [txt a,txt b]=(par (txt a) ++ ba (Lx.textIt mid)) ++ par (txt b)) (hm:tkI mid=[⟨kd,w,0⟩]) (hf:∀ g q,Lx.textIt g=40 :: q → Lx.fits g → Lx.fits (mid ++ g)) (h1:Ps.binds w ≠ 0) (h2:0 ≤ Ps.binds w) (h3:w.toList ≠ [105,115]):Given (Ps.op w [a,b]) (parI la ++ (mid ++ parI lb)) where
 text:=by
  rw [textIt_app,textIt_app,parI_text Ga,parI_text Gb,txt_two,ht,data_app,data_app,ba_data,List.append_assoc]
 fits g _ hg:=by
  rw [List.append_assoc,List.append_assoc]
  obtain ⟨q,hq⟩:=par_front lb g
  exact parI_fits Ga (hf _ q hq (parI_fits Gb hg))
 expr r hb k hk:=by
  rw [dep_op2] at hk
  obtain ⟨m,rfl,hk2⟩:=suc2 (n:=4 * max (dep a) (dep b) + 6) (k:=k) (by omega)
  obtain ⟨m,rfl,hk3⟩:=suc2 hk2
  rw [tkI_app,tkI_app,hm,List.append_assoc]
  show Ps.expr (m + 2 + 2) 0 (tkI (parI la) ++ ((⟨kd,w,0⟩:S32) :: (tkI (parI lb) ++ r)))=_
  rw [Ps.expr,if_neg (by omega),par_first Ga _ (by omega)]
  show Ps.more (m + 3) 0 a _=_
  have hp:Ps.pk ((⟨kd,w,0⟩:S32) :: (tkI (parI lb) ++ r))=w:=by
   unfold Ps.pk
   exact if_pos hkd
  have hx:Ps.nx ((⟨kd,w,0⟩:S32) :: (tkI (parI lb) ++ r))=some (⟨kd,w,0⟩,tkI (parI lb) ++ r):=by
   unfold Ps.nx
   exact if_neg (by show ¬ kd=0;omega)
  have he:=par_expr Gb (k:=m) (least:=Ps.binds w + 1) (by omega) hb
  rw [Ps.more,hp,if_neg h1,if_neg (by omega),hx]
  show (if w.toList=Ps.sIs.toList then _ else _)=_
  rw [if_neg (by rw [show Ps.sIs.toList=[105,115] from tl_mk _];exact h3),he]
  exact more_end hb _ _ _
theorem given {x:S43} (h:GE x):minusB x=false → ∃ l,Given x l:=by
 induction h with
 | nul => exact fun _ => ⟨_,given_nul⟩
 | num n h1 h2 =>
  intro hm
  unfold Ps.val at hm
  rw [minusB] at hm
  simp only [Bool.or_eq_false_iff,decide_eq_false_iff_not] at hm
  exact ⟨_,given_num (by omega) h2⟩
 | str s h => exact fun _ => ⟨_,given_str h⟩
 | col s h => exact fun _ => ⟨_,given_col h⟩
 | count => exact fun _ => ⟨_,given_count⟩
 | one w a hw _ ih =>
  intro hm
  obtain ⟨l,G⟩:=ih (min_op1 hm)
  rcases ones_split hw with rfl | rfl | rfl | rfl | rfl | rfl
  ·exact ⟨_,given_not G⟩
  ·exact ⟨_,given_neg G⟩
  ·exact ⟨_,given_isn G⟩
  ·exact ⟨_,given_agg G (w:=[115,117,109]) (by decide) (t_sum _ _ _)⟩
  ·exact ⟨_,given_agg G (w:=[109,105,110]) (by decide) (t_min _ _ _)⟩
  ·exact ⟨_,given_agg G (w:=[109,97,120]) (by decide) (t_max _ _ _)⟩
 | two w a b hw _ _ ih1 ih2 =>
  intro hm
  obtain ⟨hm1,hm2⟩:=min_op2 hm
  obtain ⟨la,Ga⟩:=ih1 hm1
  obtain ⟨lb,Gb⟩:=ih2 hm2
  have word:∀ {l:List UInt8},Lx.Good ⟨1,l,0⟩ → ∀ g q,Lx.textIt g=40 :: q → Lx.fits g → Lx.fits ([It.bl,It.tk ⟨1,l,0⟩,It.bl] ++ g):=fun hl g q hq hg => tk_before (d:=32) hl (word_blank _) rfl hg
  rcases twos_split hw with rfl | rfl | ⟨s,hs,rfl⟩
  ·exact ⟨_,given_two (mid:=[.bl,.tk ⟨1,[111,114],0⟩,.bl]) (kd:=1) Ga Gb (.inl rfl) (by rw [t_or];simp only [ByteArray.append_assoc];rfl) rfl (word (Lx.good_word (by decide))) (by decide +kernel) (by decide +kernel) (by decide +kernel)⟩
  ·exact ⟨_,given_two (mid:=[.bl,.tk ⟨1,[97,110,100],0⟩,.bl]) (kd:=1) Ga Gb (.inl rfl) (by rw [t_and];simp only [ByteArray.append_assoc];rfl) rfl (word (Lx.good_word (by decide))) (by decide +kernel) (by decide +kernel) (by decide +kernel)⟩
  ·obtain ⟨_,_,_,_,_,_,_,_,_,_,_,_,h1,h2,h3,h4,h5⟩:=sign_eqs s hs
   refine ⟨_,given_two (mid:=[.tk ⟨4,s,0⟩]) (kd:=4) Ga Gb (.inr rfl) ?_ rfl (fun g q hq hg => tk_before (Lx.good_sign h5) h4 hq hg) h1 h2 h3⟩
   rw [t_sign hs]
   have:Lx.textIt [.tk ⟨4,s,0⟩]=s:=by
    rw [Lx.textIt_cons]
    show s ++ []=s
    rw [List.append_nil]
   rw [this]
theorem dep_cnt {x:S43} (h:GE x):dep x ≤ cnt x:=by
 induction h with
 | nul => decide
 | num n h1 h2 => unfold Ps.val;rw [dep_leaf,cnt];omega
 | str s h => unfold Ps.val;rw [dep_leaf,cnt];omega
 | col s h => rw [dep_leaf,cnt];omega
 | count => decide
 | one w a _ _ ih => rw [dep_op1,cnt_op1];omega
 | two w a b _ _ _ ih1 ih2 => rw [dep_op2,cnt_op2];omega
def xD (e:S43):S60:={ Ps.st0 with f0:=6,f1:=⟨#[116]⟩,f7:=[e] }
theorem xD_deep (e:S43):longB (xD e)=deepB e:=by
 have:longB (xD e)=(false || (([e]:List S43).any deepB)):=by kernel_rfl
 rw [this]
 simp
theorem xD_twice (e:S43):twiceB (xD e)=false:=by kernel_rfl
theorem texts_back {e:S43} (h:GE e) (hc:cnt e ≤ 40) (hm:minusB e=false) (hz:(txt e).size ≤ 3900):parseS (T4 (txt e))=if deepB e=true then (z60,28) else (xD e,0):=by
 obtain ⟨l,G⟩:=given h hm
 have hf:Lx.fits ([.tk ⟨1,[100,101,108,101,116,101],0⟩,.bl,.tk ⟨1,[102,114,111,109],0⟩,.bl,.tk ⟨1,[116],0⟩,.bl,.tk ⟨1,[119,104,101,114,101],0⟩,.bl] ++ l) :=
  fits_bl (Lx.good_word (by decide)) (word_blank _) (fits_bl (Lx.good_word (by decide)) (word_blank _) (fits_bl (Lx.good_word (by decide)) (word_blank _) (fits_bl (Lx.good_word (by decide)) (word_blank _) (by have:=G.fits [] (fun c r h => by cases h) trivial;rw [List.append_nil] at this;exact this))))
 have ht:=Lx.toks_it _ hf
 rw [textIt_app,G.text] at ht
 have e1:(T4 (txt e)).data.toList=Lx.textIt [.tk ⟨1,[100,101,108,101,116,101],0⟩,.bl,.tk ⟨1,[102,114,111,109],0⟩,.bl,.tk ⟨1,[116],0⟩,.bl,.tk ⟨1,[119,104,101,114,101],0⟩,.bl] ++ (txt e).data.toList:=by
  unfold T4
  rw [data_app]
  rfl
 rw [← e1] at ht
 rw [parseS_toks (by unfold T4;rw [ByteArray.size_append,show (⟨#[100,101,108,101,116,101,32,102,114,111,109,32,116,32,119,104,101,114,101,32]⟩:ByteArray).size=20 from rfl];omega) ht]
 have e2:(Lx.toksIt ([.tk ⟨1,[100,101,108,101,116,101],0⟩,.bl,.tk ⟨1,[102,114,111,109],0⟩,.bl,.tk ⟨1,[116],0⟩,.bl,.tk ⟨1,[119,104,101,114,101],0⟩,.bl] ++ l)).map tk32=(⟨1,Ps.sDelete,0⟩:S32) :: (⟨1,Ps.sFrom,0⟩:S32) :: (⟨1,⟨#[116]⟩,0⟩:S32) :: (⟨1,Ps.sWhere,0⟩:S32) :: tkI l:=rfl
 rw [e2]
 have hx:=G.expr [z32] b_none KP (by have:=dep_cnt h;show _ ≤ 8100;omega)
 have hr:Ps.read KP ((⟨1,Ps.sDelete,0⟩:S32) :: (⟨1,Ps.sFrom,0⟩:S32) :: (⟨1,⟨#[116]⟩,0⟩:S32) :: (⟨1,Ps.sWhere,0⟩:S32) :: (tkI l ++ [z32]))=some (xD e):=by
  have hz:Ps.fin (xD e) [z32]=some (xD e):=by kernel_rfl
  simp [Ps.read,Ps.stmt,Ps.head,Ps.ms,Ps.tk,Ps.pk,Ps.nx,Ps.nm,Ps.whr,tl_mk,t_free,hx]
  exact hz
 show parseA ((⟨1,Ps.sDelete,0⟩:S32) :: (⟨1,Ps.sFrom,0⟩:S32) :: (⟨1,⟨#[116]⟩,0⟩:S32) :: (⟨1,Ps.sWhere,0⟩:S32) :: (tkI l ++ [z32]))=_
 unfold parseA
 rw [hr]
 simp only [xD_deep,xD_twice]
 rfl
theorem minusBs_cons (x:S43) (l:List S43):minusBs (x :: l)=(minusB x || minusBs l):=by rw [minusBs]
theorem minusB_eq (x:S43):minusB x=(decide (x.f1.f1 < 0) || minusBs x.f3):=by cases x;rw [minusB]
theorem minus_loop {n:Nat} (ih:∀ x:S43,fu x < n → fu x < 4611686018427387904 → ∀ k,fu x ≤ k → vidimuslaw17_minus.f k x.f0 x.f1.f0 x.f1.f1 x.f1.f2 x.f2 x.f3=some (minusB x)) :
  ∀ (l pre:List S43),fus l ≤ n → pre.length + fus l < 4611686018427387904 → ∀ (k:Nat),fus l ≤ k → vidimuslaw17_minus.l0 k (pre ++ l) ((pre ++ l).length:Int) (pre.length:Int)=some (minusBs l)
 | [],pre,h1,h2,k,hk => by
  cases k with
  | zero => simp [fus] at hk
  | succ k =>
   unfold vidimuslaw17_minus.l0
   rw [if_neg (by simp)]
   unfold minusBs
   rfl
 | x :: l,pre,h1,h2,k,hk => by
  unfold fus at h1 h2 hk
  cases k with
  | zero => omega
  | succ k =>
   have hx:rd_T43 (pre ++ x :: l) (pre.length:Int)=x:=by
    unfold rd_T43
    rw [Int.toNat_natCast,List.getD_eq_getElem?_getD,List.getElem?_append_right (Nat.le_refl _),Nat.sub_self]
    rfl
   unfold vidimuslaw17_minus.l0
   rw [if_pos (by simp;omega),if_pos (by omega),if_pos (by simp;omega),hx,ih x (by omega) (by omega) k (by omega)]
   simp only [Option.bind_some]
   have hw:wrap64 ((pre.length:Int) + 1)=((pre ++ [x]).length:Int):=by
    rw [List.length_append]
    simp only [List.length_cons,List.length_nil]
    unfold wrap64
    omega
   have h:=minus_loop ih l (pre ++ [x]) (by omega) (by simp;omega) k (by omega)
   rw [List.append_assoc,show [x] ++ l=x :: l from rfl] at h
   rw [hw,h,minusBs_cons]
   cases minusB x <;> simp
theorem minus_is (x:S43) (hx:fu x < 4611686018427387904):∀ k,fu x ≤ k → vidimuslaw17_minus.f k x.f0 x.f1.f0 x.f1.f1 x.f1.f2 x.f2 x.f3=some (minusB x):=by
 have key:∀ n,∀ x:S43,fu x < n → fu x < 4611686018427387904 → ∀ k,fu x ≤ k → vidimuslaw17_minus.f k x.f0 x.f1.f0 x.f1.f1 x.f1.f2 x.f2 x.f3=some (minusB x):=by
  intro n
  induction n with
  | zero => intro x h;omega
  | succ n ih =>
   intro x h1 h2 k hk
   have he:=fu_eq x
   cases k with
   | zero => omega
   | succ k =>
    unfold vidimuslaw17_minus.f
    have h:=minus_loop (n:=n) ih x.f3 [] (by omega) (by simp;omega) k (by omega)
    simp only [List.nil_append,List.length_nil] at h
    have h0:((0:Nat):Int)=0:=rfl
    rw [h0] at h
    rw [minusB_eq]
    by_cases c:x.f1.f1 < 0
    ·rw [if_pos c,decide_eq_true c]
     rfl
    ·rw [if_neg c,h,decide_eq_false c]
     rfl
 exact key (fu x + 1) x (by omega) hx
theorem rDepth_loop {n:Nat} (ih:∀ x:S43,fu x < n → fu x < 4611686018427387904 → ∀ k,fu x ≤ k → vidimusref17_Depth.f k x.f0 x.f1.f0 x.f1.f1 x.f1.f2 x.f2 x.f3=some (dep x:Int)) (o:ByteArray) (v0 v1:Int) (v2 nm:ByteArray) :
  ∀ (l pre:List S43),fus l ≤ n → pre.length + fus l < 4611686018427387904 → ∀ (k m:Nat),m < 4611686018427387904 → fus l ≤ k → vidimusref17_Depth.l0 k (m:Int) (pre.length:Int) o v0 v1 v2 nm (pre ++ l)=some ((max m (deps l) + 1:Nat):Int)
 | [],pre,h1,h2,k,m,hm,hk => by
  cases k with
  | zero => simp [fus] at hk
  | succ k =>
   unfold vidimusref17_Depth.l0
   rw [if_neg (by simp)]
   unfold deps
   congr 1
   unfold wrap64
   omega
 | x :: l,pre,h1,h2,k,m,hm,hk => by
  unfold fus at h1 h2 hk
  cases k with
  | zero => omega
  | succ k =>
   have hx:rd_T43 (pre ++ x :: l) (pre.length:Int)=x:=by
    unfold rd_T43
    rw [Int.toNat_natCast,List.getD_eq_getElem?_getD,List.getElem?_append_right (Nat.le_refl _),Nat.sub_self]
    rfl
   unfold vidimusref17_Depth.l0
   rw [if_pos (by simp;omega),if_pos (by omega),hx,ih x (by omega) (by omega) k (by omega)]
   simp only [Option.bind_some]
   have hd:=dep_fu x
   have hmx:mx (m:Int) (dep x:Int)=((max m (dep x):Nat):Int):=by
    unfold mx
    split <;> omega
   have hw:wrap64 ((pre.length:Int) + 1)=((pre ++ [x]).length:Int):=by
    rw [List.length_append]
    simp only [List.length_cons,List.length_nil]
    unfold wrap64
    omega
   rw [hmx,hw,show pre ++ x :: l=(pre ++ [x]) ++ l by simp]
   have h:=rDepth_loop ih o v0 v1 v2 nm l (pre ++ [x]) (by omega) (by simp;omega) k (max m (dep x)) (by omega) (by omega)
   rw [h,deps_cons]
   congr 2
   omega
theorem rDepth_is (x:S43) (hx:fu x < 4611686018427387904):∀ k,fu x ≤ k → vidimusref17_Depth.f k x.f0 x.f1.f0 x.f1.f1 x.f1.f2 x.f2 x.f3=some (dep x:Int):=by
 have key:∀ n,∀ x:S43,fu x < n → fu x < 4611686018427387904 → ∀ k,fu x ≤ k → vidimusref17_Depth.f k x.f0 x.f1.f0 x.f1.f1 x.f1.f2 x.f2 x.f3=some (dep x:Int):=by
  intro n
  induction n with
  | zero => intro x h;omega
  | succ n ih =>
   intro x h1 h2 k hk
   have he:=fu_eq x
   cases k with
   | zero => omega
   | succ k =>
    unfold vidimusref17_Depth.f
    have h:=rDepth_loop (n:=n) ih x.f0 x.f1.f0 x.f1.f1 x.f1.f2 x.f2 x.f3 [] (by omega) (by simp;omega) k 0 (by omega) (by omega)
    simp only [List.nil_append,List.length_nil] at h
    rw [dep_eq]
    have h0:((0:Nat):Int)=0:=rfl
    rw [h0] at h
    rw [h]
    congr 2
    first | done | omega
 exact key (fu x + 1) x (by omega) hx
end Go.Proofs.YtcgdncpioafbdaaGreatDoor.Q
namespace Go.Proofs.YtcgdncpioafbdaaGreatDoor.Q
open Go Go.RowKit Go.Proofs.YtcgdncpioafbdaaGreatDoorW.PrintWords Go.Proofs.YtcgdncpioafbdaaGreatDoorW.PrintLast Go.Proofs.YtcgdncpioafbdaaGreatDoorW.PrintMore
def binL:List (List UInt8):=[[61],[60,62],[60],[60,61],[62],[62,61],[43],[45],[124,124],[42],[47],[37]]
theorem bigB_is (s:ByteArray):bigB s=binL.contains s.toList:=by
 unfold bigB Ps.binds
 by_cases h1:s.toList=[111,114]
 ·simp [h1,binL]
 ·rw [if_neg h1]
  by_cases h2:s.toList=[97,110,100]
  ·simp [h2,binL]
  ·rw [if_neg h2]
   by_cases h3:s.toList=[105,115]
   ·simp [h3,binL]
   ·have e3:(s.toList == [105,115])=false:=beq_eq_false_iff_ne.mpr h3
    simp only [List.contains_cons,List.contains_nil,e3,binL,Bool.or_false]
    generalize (s.toList == [61])=b1
    generalize (s.toList == [60,62])=b2
    generalize (s.toList == [60])=b3
    generalize (s.toList == [60,61])=b4
    generalize (s.toList == [62])=b5
    generalize (s.toList == [62,61])=b6
    generalize (s.toList == [43])=b7
    generalize (s.toList == [45])=b8
    generalize (s.toList == [124,124])=b9
    generalize (s.toList == [42])=b10
    generalize (s.toList == [47])=b11
    generalize (s.toList == [37])=b12
    clear h1 h2 h3 e3
    revert b1 b2 b3 b4 b5 b6 b7 b8 b9 b10 b11 b12
    decide +kernel
theorem bigB_mem {s:ByteArray} (h:bigB s=true):s.toList=[61] ∨ s.toList=[60,62] ∨ s.toList=[60] ∨ s.toList=[60,61] ∨ s.toList=[62] ∨ s.toList=[62,61] ∨ s.toList=[43] ∨ s.toList=[45] ∨ s.toList=[124,124] ∨ s.toList=[42] ∨ s.toList=[47] ∨ s.toList=[37]:=by
 rw [bigB_is] at h
 simpa [binL] using h
theorem bigB_no {s:ByteArray} (h:¬ bigB s=true):s.toList ∉ binL:=by
 rw [bigB_is] at h
 simpa using h
def RTextAt (n:Nat):Prop:=∀ (x:S43) (w:World) (A:Option Addr) (c:Nat),fu x ≤ n → TG x → (txt x).size ≤ 1000000000 → x.f3.length ≤ c → Kd.C k43 w A x.f3.length x.f3 → Calls Tryz.prog 42 #[.agg (cells43 x A c).toArray] w fun e w' => e = .returned (.string (txt x))∧Below w.heap.size w w'
def RInAt (n:Nat):Prop:=∀ (x:S43) (w:World) (A:Option Addr) (c:Nat) (iv:Int) (i:Nat),iv=(i:Int) → i < 2 → fus x.f3 ≤ n → TGs x.f3 → (inn x.f3 i).size ≤ 1000000000 → x.f3.length ≤ c → Kd.C k43 w A x.f3.length x.f3 → Calls Tryz.prog 104 #[.agg (cells43 x A c).toArray,.int .i64 iv] w fun e w' => e = .returned (.string (inn x.f3 i))∧Below w.heap.size w w'
set_option maxHeartbeats 1000000 in
set_option maxRecDepth 100000 in
theorem rin_step (n:Nat) (ih:RTextAt n):RInAt (n + 1):=by
 intro x w A c iv i hiv hi2 hx hT hz hc hC
 subst hiv
 have HX:=Aside0.mk hx
 have HT:=Aside0.mk hT
 have HZ:=Aside0.mk hz
 clear hx hT hz
 unfold cells43
 go_enter Tryz.func104,Tryz.ntmps104
 go_upto_region 1 with (fail)
 have HB:=Aside0.mk (below_alloc (Below.refl w.heap.size w) (.cells #[.string x.f0,.int .i64 x.f1.f0,.int .i64 x.f1.f1,.string x.f1.f2,.string x.f2,.slice A x.f3.length c] 43 (0,0)))
 have HC:=Aside0.mk (Kd.C_below hC HB.out)
 have BK:=Aside0.mk (new_blk (W:=w) (.cells #[.string x.f0,.int .i64 x.f1.f0,.int .i64 x.f1.f1,.string x.f1.f2,.string x.f2,.slice A x.f3.length c] 43 (0,0)) rfl)
 clear hC
 generalize hb1:w.heap.size=b at BK ⊢
 generalize hW:w.alloc (.cells #[.string x.f0,.int .i64 x.f1.f0,.int .i64 x.f1.f1,.string x.f1.f2,.string x.f2,.slice A x.f3.length c] 43 (0,0))=W at HB HC BK ⊢
 clear hW hb1
 have cc0:W.cell? ⟨b,0,none⟩=some (.string x.f0):=(blk_cell BK.out 0).trans rfl
 have cc1:W.cell? ⟨b,1,none⟩=some (.int .i64 x.f1.f0):=(blk_cell BK.out 1).trans rfl
 have cc2:W.cell? ⟨b,2,none⟩=some (.int .i64 x.f1.f1):=(blk_cell BK.out 2).trans rfl
 have cc3:W.cell? ⟨b,3,none⟩=some (.string x.f1.f2):=(blk_cell BK.out 3).trans rfl
 have cc4:W.cell? ⟨b,4,none⟩=some (.string x.f2):=(blk_cell BK.out 4).trans rfl
 have cc5:W.cell? ⟨b,5,none⟩=some (.slice A x.f3.length c):=(blk_cell BK.out 5).trans rfl
 have hlt:=blk_lt BK.out
 by_cases hi:i < x.f3.length
 ·have d0:decide ((i:Int) < (x.f3.length:Int))=true:=decide_eq_true (by omega)
  have d1:decide (i < x.f3.length)=true:=decide_eq_true hi
  have p1:0 ≤ (i:Int):=by omega
  have q1:(i:Int) < (x.f3.length:Int):=by omega
  obtain ⟨ad,A5,c5,e5,x0,x1,x2,x3,x4,x5,hl5,hi5⟩:=at_T43 HC.out (i:Int) p1 q1
  cases e5
  have hrd:rd_T43 x.f3 (i:Int)=x.f3[i]:=by
   unfold rd_T43
   rw [Int.toNat_natCast,List.getD_eq_getElem?_getD,List.getElem?_eq_getElem hi]
   rfl
  have HI:=Aside0.mk (inn_some hi)
  obtain ⟨y,hy⟩:∃ y,x.f3[i]=y:=⟨_,rfl⟩
  have HY:=Aside0.mk hy
  rw [hrd,hy] at x0 x1 x2 x3 x4 x5 hl5 hi5
  simp only [Int.toNat_natCast] at x0 x1 x2 x3 x4 x5
  have hym:y ∈ x.f3:=by rw [← hy];exact List.getElem_mem _
  have HFX:=Aside0.mk (show fu y ≤ n by have h1:=fus_mem2 hym;have:=HX.out;omega)
  have HTY:=Aside0.mk (TGs_mem hym HT.out)
  have HL5:=Aside0.mk hl5
  have HC5:=Aside0.mk hi5
  have hz1:(txt y).size + 2 ≤ 1000000000:=by
   have h1:=HZ.out
   rw [HI.out,HY.out] at h1
   have e1:(⟨#[40]⟩:ByteArray).size=1:=rfl
   have e2:(⟨#[41]⟩:ByteArray).size=1:=rfl
   rw [ByteArray.size_append,ByteArray.size_append,e1,e2] at h1
   omega
  have p2:((i:Int) < 0)=False:=eq_false (by omega)
  have HZY:=Aside0.mk (show (txt y).size ≤ 1000000000 by omega)
  replace p1:=eq_true p1
  replace q1:=eq_true q1
  clear hl5 hi5 hrd hym hy
  go_wp2_with (first | (go_at_call 42;refine (ih y _ A5 c5 HFX.out HTY.out HZY.out HL5.out HC5.out).mono ?_;rintro e1 w1 ⟨rfl,hb1⟩;have HB1:=Aside0.mk hb1;clear hb1))
  go_ret
  exact ⟨by rw [HI.out,HY.out];rfl,below_step HB.out HB1.out⟩
 ·have d0:decide ((i:Int) < (x.f3.length:Int))=false:=decide_eq_false (by omega)
  have d1:decide (i < x.f3.length)=false:=decide_eq_false hi
  have HI:=Aside0.mk (inn_none (Nat.le_of_not_lt hi))
  go_wp2
  go_ret
  exact ⟨by rw [HI.out];rfl,HB.out⟩
set_option maxHeartbeats 4000000 in
set_option maxRecDepth 100000 in
theorem rtext_step (n:Nat) (ih:RInAt n):RTextAt (n + 1):=by
 intro x w A c hx hT hz hc hC
 have HX:=Aside0.mk (show fus x.f3 ≤ n by have:=fu_eq x;omega)
 have HT:=Aside0.mk ((TG_eq x).1 hT).2
 have HN:=Aside0.mk ((TG_eq x).1 hT).1
 have HZ:=Aside0.mk hz
 have HL:=Aside0.mk hc
 clear hx hT hz hc
 unfold cells43
 go_enter Tryz.func42,Tryz.ntmps42
 go_upto_region 1 with (fail)
 have HB:=Aside0.mk (below_alloc (Below.refl w.heap.size w) (.cells #[.string x.f0,.int .i64 x.f1.f0,.int .i64 x.f1.f1,.string x.f1.f2,.string x.f2,.slice A x.f3.length c] 43 (0,0)))
 have HC1:=Aside0.mk (Kd.C_below hC HB.out)
 have BK:=Aside0.mk (new_blk (W:=w) (.cells #[.string x.f0,.int .i64 x.f1.f0,.int .i64 x.f1.f1,.string x.f1.f2,.string x.f2,.slice A x.f3.length c] 43 (0,0)) rfl)
 clear hC
 have HC:=HC1
 clear HC1
 generalize hb1:w.heap.size=b at BK ⊢
 generalize hW:w.alloc (.cells #[.string x.f0,.int .i64 x.f1.f0,.int .i64 x.f1.f1,.string x.f1.f2,.string x.f2,.slice A x.f3.length c] 43 (0,0))=W at HB HC BK ⊢
 clear hW hb1
 have cc0:W.cell? ⟨b,0,none⟩=some (.string x.f0):=(blk_cell BK.out 0).trans rfl
 have cc1:W.cell? ⟨b,1,none⟩=some (.int .i64 x.f1.f0):=(blk_cell BK.out 1).trans rfl
 have cc2:W.cell? ⟨b,2,none⟩=some (.int .i64 x.f1.f1):=(blk_cell BK.out 2).trans rfl
 have cc3:W.cell? ⟨b,3,none⟩=some (.string x.f1.f2):=(blk_cell BK.out 3).trans rfl
 have cc4:W.cell? ⟨b,4,none⟩=some (.string x.f2):=(blk_cell BK.out 4).trans rfl
 have cc5:W.cell? ⟨b,5,none⟩=some (.slice A x.f3.length c):=(blk_cell BK.out 5).trans rfl
 have hlt:=blk_lt BK.out
 by_cases c0:x.f0.toList=[118,97,108]
 ·have f01:(x.f0.toList == [118,97,108])=true:=beq_iff_eq.mpr c0
  have e0:=txt_eq x
  unfold txtB at e0
  rw [if_pos c0] at e0
  clear c0
  have HT0:=Aside0.mk e0
  clear e0
  unfold lit at HT0
  by_cases k0:x.f1.f0=0
  ·have b0:(x.f1.f0 == 0)=true:=beq_iff_eq.mpr k0
   rw [if_pos k0] at HT0
   clear k0
   go_wp2
   go_ret
   exact ⟨by rw [HT0.out];rfl,HB.out⟩
  ·have b0:(x.f1.f0 == 0)=false:=beq_eq_false_iff_ne.mpr k0
   rw [if_neg k0] at HT0
   by_cases k1:x.f1.f0=1
   ·have b1:(x.f1.f0 == 1)=true:=beq_iff_eq.mpr k1
    rw [if_pos k1] at HT0
    clear k0 k1
    have HL1:=Aside0.mk (rNumber (k:=40) (n:=x.f1.f1) (by omega) HN.out.1 HN.out.2.1)
    generalize (if x.f1.f1 < 0 then (⟨#[45]⟩:ByteArray) ++ ba (digA 20 (-x.f1.f1).toNat) else ba (digA 20 x.f1.f1.toNat))=rr at HL1 HT0
    go_wp2_with (first | (go_at_call 103;refine (vidimusref17_number.calls 40 x.f1.f1 _ _ HL1.out).mono ?_;rintro e1 w1 ⟨rfl,hb⟩;have HB1:=Aside0.mk hb;clear hb))
    go_ret
    exact ⟨by rw [HT0.out];rfl,below_step HB.out HB1.out⟩
   ·have b1:(x.f1.f0 == 1)=false:=beq_eq_false_iff_ne.mpr k1
    rw [if_neg k1] at HT0
    clear k0 k1
    have HL1:=Aside0.mk (refQuoted x.f1.f2 600 (by have:=HN.out.2.2;omega) HN.out.2.2)
    go_wp2_with (first | (go_at_call 68;refine (vidimusref16_Quoted.calls 600 x.f1.f2 _ _ HL1.out).mono ?_;rintro e1 w1 ⟨rfl,⟨nd,rfl⟩⟩))
    go_ret
    exact ⟨by rw [HT0.out];rfl,pw_below_drewN HB.out nd⟩
 ·skip
  by_cases c1:x.f0.toList=[99,111,108]
  ·have f00:(x.f0.toList == [118,97,108])=false:=beq_eq_false_iff_ne.mpr c0
   have f11:(x.f0.toList == [99,111,108])=true:=beq_iff_eq.mpr c1
   have e0:=txt_eq x
   unfold txtB at e0
   rw [if_neg c0,if_pos c1] at e0
   clear c0 c1
   have HT0:=Aside0.mk e0
   clear e0
   go_wp2
   go_ret
   exact ⟨by rw [HT0.out];rfl,HB.out⟩
  ·skip
   by_cases c2:x.f0.toList=[111,114]
   ·have f00:(x.f0.toList == [118,97,108])=false:=beq_eq_false_iff_ne.mpr c0
    have f10:(x.f0.toList == [99,111,108])=false:=beq_eq_false_iff_ne.mpr c1
    have f21:(x.f0.toList == [111,114])=true:=beq_iff_eq.mpr c2
    have e0:=txt_eq x
    unfold txtB at e0
    rw [if_neg c0,if_neg c1,if_pos c2] at e0
    simp only [← inn_def] at e0
    clear c0 c1 c2
    have hz:(inn x.f3 0).size + 1 + x.f0.size + 1 + (inn x.f3 1).size ≤ 1000000000:=by
     have h1:=HZ.out
     rw [e0] at h1
     simp only [ByteArray.size_append,(show (⟨#[32]⟩:ByteArray).size=1 from rfl),(show (⟨#[110,111,116,32]⟩:ByteArray).size=4 from rfl),(show (⟨#[45]⟩:ByteArray).size=1 from rfl),(show (⟨#[32,105,115,32,110,117,108,108]⟩:ByteArray).size=8 from rfl)] at h1
     exact h1
    have HZ0:=Aside0.mk (show (inn x.f3 0).size ≤ 1000000000 by omega)
    have HZ1:=Aside0.mk (show (inn x.f3 1).size ≤ 1000000000 by omega)
    have t0:(9223372036854775807 < (inn x.f3 0).size + 1)=False:=eq_false (by omega)
    have t1:(9223372036854775807 < (inn x.f3 0).size + 1 + x.f0.size)=False:=eq_false (by omega)
    have t2:(9223372036854775807 < (inn x.f3 0).size + 1 + x.f0.size + 1)=False:=eq_false (by omega)
    have t3:(9223372036854775807 < (inn x.f3 0).size + 1 + x.f0.size + 1 + (inn x.f3 1).size)=False:=eq_false (by omega)
    have HT0:=Aside0.mk e0
    clear e0
    go_upto_region 13 with (fail)
    refine start_ (n:=11) (S:=fun w' => w'.cell? ⟨b,0,none⟩=some (.string x.f0)∧w'.cell? ⟨b,1,none⟩=some (.int .i64 x.f1.f0)∧w'.cell? ⟨b,2,none⟩=some (.int .i64 x.f1.f1)∧w'.cell? ⟨b,3,none⟩=some (.string x.f1.f2)∧w'.cell? ⟨b,4,none⟩=some (.string x.f2)∧w'.cell? ⟨b,5,none⟩=some (.slice A x.f3.length c)∧Below W.heap.size W w') (ds:=[]) #[false,false,false,false,false,false,false,false,false,false,false] (by kernel_rfl) rfl rfl ⟨cc0,cc1,cc2,cc3,cc4,cc5,below_drew1 (Below.refl _ _)⟩ (fun hHeld => ?_)
    refine pure_ (i:=3) (N:=some 32) (v:=?_) (a':=?_) #[false,false,false,true,false,false,false,false,false,false,false] rfl rfl (by kernel_rfl) (fun _ _ _ h => h) (Or.inl ⟨by rfl,?_⟩) ?_ ?_
    rotate_left
    ·intro w'
     go_simp
     with_reducible rfl
    rotate_left
    ·simp only [Act.put,List.setIfInBounds_toArray,List.set_cons_zero,List.set_cons_succ,i64_w,i32_w]
     rfl
    refine take_ (i:=0) (N:=some 29) (v:=?_) (a':=?_) #[true,false,false,true,false,false,false,false,false,false,false] rfl rfl (by kernel_rfl) (fun _ _ _ h => h) (Or.inl ⟨by rfl,?_⟩) hHeld ?_ ?_
    rotate_left
    ·rintro w' ⟨s0,s1,s2,s3,s4,s5,_⟩
     go_simp
     with_reducible rfl
    rotate_left
    ·simp only [Act.put,List.setIfInBounds_toArray,List.set_cons_zero,List.set_cons_succ,i64_w,i32_w]
     rfl
    refine take_ (i:=7) (N:=some 36) (v:=?_) (a':=?_) #[true,false,false,true,false,false,false,true,false,false,false] rfl rfl (by kernel_rfl) (fun _ _ _ h => h) (Or.inl ⟨by rfl,?_⟩) hHeld ?_ ?_
    rotate_left
    ·rintro w' ⟨s0,s1,s2,s3,s4,s5,_⟩
     go_simp
     with_reducible rfl
    rotate_left
    ·simp only [Act.put,List.setIfInBounds_toArray,List.set_cons_zero,List.set_cons_succ,i64_w,i32_w]
     rfl
    refine take_ (i:=4) (N:=some 33) (v:=?_) (a':=?_) #[true,false,false,true,true,false,false,true,false,false,false] rfl rfl (by kernel_rfl) (fun _ _ _ h => h) (Or.inl ⟨by rfl,?_⟩) hHeld ?_ ?_
    rotate_left
    ·rintro w' ⟨s0,s1,s2,s3,s4,s5,_⟩
     go_simp
     with_reducible rfl
    rotate_left
    ·simp only [Act.put,List.setIfInBounds_toArray,List.set_cons_zero,List.set_cons_succ,i64_w,i32_w]
     rfl
    refine one_ (i:=1) (N:=some 30) #[true,true,false,true,true,false,false,true,false,false,false] rfl rfl (by kernel_rfl) (by decide) (fun K hK => ?_)
    refine goes_ Tryz.func104 (by kernel_rfl) rfl #[.agg (cells43 x A c).toArray,.int .i64 0] (by rfl) rfl rfl (by (try simp only [List.map_toArray,List.map_cons,List.map_nil]);first | done | rfl) ?_
    refine (ih x _ A c 0 0 rfl (by omega) HX.out HT.out HZ0.out HL.out (Kd.C_below HC.out (below_drew1 (Below.refl W.heap.size W)))).mono ?_
    rintro e1 w1 ⟨rfl,hb⟩
    have HB1:=Aside0.mk (below_step (below_drew1 (Below.refl W.heap.size W)) hb)
    refine ⟨_,rfl,?_⟩
    clear hb
    have z10:=pw_cell_below HB1.out cc0
    have z11:=pw_cell_below HB1.out cc1
    have z12:=pw_cell_below HB1.out cc2
    have z13:=pw_cell_below HB1.out cc3
    have z14:=pw_cell_below HB1.out cc4
    have z15:=pw_cell_below HB1.out cc5
    refine hK.out _ _ ⟨z10,z11,z12,z13,z14,z15,HB1.out⟩ (fun hHeld => ?_)
    clear hK K
    refine norm_ (a':=?_) ?_ ?_
    rotate_left
    ·show Act.put _ (some 30) _=_
     simp only [Act.put,List.setIfInBounds_toArray,List.set_cons_zero,List.set_cons_succ,i64_w,i32_w]
     rfl
    clear z10 z11 z12 z13 z14 z15
    refine pure_ (i:=2) (N:=some 31) (v:=?_) (a':=?_) #[true,true,true,true,true,false,false,true,false,false,false] rfl rfl (by kernel_rfl) (fun _ _ _ h => h) (Or.inl ⟨by rfl,?_⟩) ?_ ?_
    rotate_left
    ·intro w'
     go_simp
     with_reducible rfl
    rotate_left
    ·simp only [Act.put,List.setIfInBounds_toArray,List.set_cons_zero,List.set_cons_succ,i64_w,i32_w]
     rfl
    refine pure_ (i:=5) (N:=some 34) (v:=?_) (a':=?_) #[true,true,true,true,true,true,false,true,false,false,false] rfl rfl (by kernel_rfl) (fun _ _ _ h => h) (Or.inl ⟨by rfl,?_⟩) ?_ ?_
    rotate_left
    ·intro w'
     go_simp
     with_reducible rfl
    rotate_left
    ·simp only [Act.put,List.setIfInBounds_toArray,List.set_cons_zero,List.set_cons_succ,i64_w,i32_w]
     rfl
    refine pure_ (i:=6) (N:=some 35) (v:=?_) (a':=?_) #[true,true,true,true,true,true,true,true,false,false,false] rfl rfl (by kernel_rfl) (fun _ _ _ h => h) (Or.inl ⟨by rfl,?_⟩) ?_ ?_
    rotate_left
    ·intro w'
     go_simp
     with_reducible rfl
    rotate_left
    ·simp only [Act.put,List.setIfInBounds_toArray,List.set_cons_zero,List.set_cons_succ,i64_w,i32_w]
     rfl
    refine one_ (i:=8) (N:=some 37) #[true,true,true,true,true,true,true,true,true,false,false] rfl rfl (by kernel_rfl) (by decide) (fun K hK => ?_)
    refine goes_ Tryz.func104 (by kernel_rfl) rfl #[.agg (cells43 x A c).toArray,.int .i64 1] (by rfl) rfl rfl (by (try simp only [List.map_toArray,List.map_cons,List.map_nil]);first | done | rfl) ?_
    refine (ih x _ A c 1 1 rfl (by omega) HX.out HT.out HZ1.out HL.out (Kd.C_below HC.out HB1.out)).mono ?_
    rintro e2 w2 ⟨rfl,hb⟩
    have HB2:=Aside0.mk (below_step HB1.out hb)
    refine ⟨_,rfl,?_⟩
    clear hb
    have z20:=pw_cell_below HB2.out cc0
    have z21:=pw_cell_below HB2.out cc1
    have z22:=pw_cell_below HB2.out cc2
    have z23:=pw_cell_below HB2.out cc3
    have z24:=pw_cell_below HB2.out cc4
    have z25:=pw_cell_below HB2.out cc5
    refine hK.out _ _ ⟨z20,z21,z22,z23,z24,z25,HB2.out⟩ (fun hHeld => ?_)
    clear hK K
    refine norm_ (a':=?_) ?_ ?_
    rotate_left
    ·show Act.put _ (some 37) _=_
     simp only [Act.put,List.setIfInBounds_toArray,List.set_cons_zero,List.set_cons_succ,i64_w,i32_w]
     rfl
    clear z20 z21 z22 z23 z24 z25
    refine pure_ (i:=9) (N:=some 38) (v:=?_) (a':=?_) #[true,true,true,true,true,true,true,true,true,true,false] rfl rfl (by kernel_rfl) (fun _ _ _ h => h) (Or.inl ⟨by rfl,?_⟩) ?_ ?_
    rotate_left
    ·intro w'
     go_simp
     with_reducible rfl
    rotate_left
    ·simp only [Act.put,List.setIfInBounds_toArray,List.set_cons_zero,List.set_cons_succ,i64_w,i32_w]
     rfl
    refine pure_ (i:=10) (N:=some 2) (v:=?_) (a':=?_) #[true,true,true,true,true,true,true,true,true,true,true] rfl rfl (by kernel_rfl) (fun _ _ _ h => h) (Or.inl ⟨by rfl,?_⟩) ?_ ?_
    rotate_left
    ·intro w'
     go_simp
     with_reducible rfl
    rotate_left
    ·simp only [Act.put,List.setIfInBounds_toArray,List.set_cons_zero,List.set_cons_succ,i64_w,i32_w]
     rfl
    refine done_ (by kernel_rfl) ?_
    go_wp2
    go_ret
    exact ⟨by rw [HT0.out];rfl,below_step HB.out HB2.out⟩
   ·skip
    by_cases c3:x.f0.toList=[97,110,100]
    ·have f00:(x.f0.toList == [118,97,108])=false:=beq_eq_false_iff_ne.mpr c0
     have f10:(x.f0.toList == [99,111,108])=false:=beq_eq_false_iff_ne.mpr c1
     have f20:(x.f0.toList == [111,114])=false:=beq_eq_false_iff_ne.mpr c2
     have f31:(x.f0.toList == [97,110,100])=true:=beq_iff_eq.mpr c3
     have e0:=txt_eq x
     unfold txtB at e0
     rw [if_neg c0,if_neg c1,if_neg c2,if_pos c3] at e0
     simp only [← inn_def] at e0
     clear c0 c1 c2 c3
     have hz:(inn x.f3 0).size + 1 + x.f0.size + 1 + (inn x.f3 1).size ≤ 1000000000:=by
      have h1:=HZ.out
      rw [e0] at h1
      simp only [ByteArray.size_append,(show (⟨#[32]⟩:ByteArray).size=1 from rfl),(show (⟨#[110,111,116,32]⟩:ByteArray).size=4 from rfl),(show (⟨#[45]⟩:ByteArray).size=1 from rfl),(show (⟨#[32,105,115,32,110,117,108,108]⟩:ByteArray).size=8 from rfl)] at h1
      exact h1
     have HZ0:=Aside0.mk (show (inn x.f3 0).size ≤ 1000000000 by omega)
     have HZ1:=Aside0.mk (show (inn x.f3 1).size ≤ 1000000000 by omega)
     have t0:(9223372036854775807 < (inn x.f3 0).size + 1)=False:=eq_false (by omega)
     have t1:(9223372036854775807 < (inn x.f3 0).size + 1 + x.f0.size)=False:=eq_false (by omega)
     have t2:(9223372036854775807 < (inn x.f3 0).size + 1 + x.f0.size + 1)=False:=eq_false (by omega)
     have t3:(9223372036854775807 < (inn x.f3 0).size + 1 + x.f0.size + 1 + (inn x.f3 1).size)=False:=eq_false (by omega)
     have HT0:=Aside0.mk e0
     clear e0
     go_upto_region 13 with (fail)
     refine start_ (n:=11) (S:=fun w' => w'.cell? ⟨b,0,none⟩=some (.string x.f0)∧w'.cell? ⟨b,1,none⟩=some (.int .i64 x.f1.f0)∧w'.cell? ⟨b,2,none⟩=some (.int .i64 x.f1.f1)∧w'.cell? ⟨b,3,none⟩=some (.string x.f1.f2)∧w'.cell? ⟨b,4,none⟩=some (.string x.f2)∧w'.cell? ⟨b,5,none⟩=some (.slice A x.f3.length c)∧Below W.heap.size W w') (ds:=[]) #[false,false,false,false,false,false,false,false,false,false,false] (by kernel_rfl) rfl rfl ⟨cc0,cc1,cc2,cc3,cc4,cc5,below_drew1 (Below.refl _ _)⟩ (fun hHeld => ?_)
     refine pure_ (i:=3) (N:=some 32) (v:=?_) (a':=?_) #[false,false,false,true,false,false,false,false,false,false,false] rfl rfl (by kernel_rfl) (fun _ _ _ h => h) (Or.inl ⟨by rfl,?_⟩) ?_ ?_
     rotate_left
     ·intro w'
      go_simp
      with_reducible rfl
     rotate_left
     ·simp only [Act.put,List.setIfInBounds_toArray,List.set_cons_zero,List.set_cons_succ,i64_w,i32_w]
      rfl
     refine take_ (i:=0) (N:=some 29) (v:=?_) (a':=?_) #[true,false,false,true,false,false,false,false,false,false,false] rfl rfl (by kernel_rfl) (fun _ _ _ h => h) (Or.inl ⟨by rfl,?_⟩) hHeld ?_ ?_
     rotate_left
     ·rintro w' ⟨s0,s1,s2,s3,s4,s5,_⟩
      go_simp
      with_reducible rfl
     rotate_left
     ·simp only [Act.put,List.setIfInBounds_toArray,List.set_cons_zero,List.set_cons_succ,i64_w,i32_w]
      rfl
     refine take_ (i:=7) (N:=some 36) (v:=?_) (a':=?_) #[true,false,false,true,false,false,false,true,false,false,false] rfl rfl (by kernel_rfl) (fun _ _ _ h => h) (Or.inl ⟨by rfl,?_⟩) hHeld ?_ ?_
     rotate_left
     ·rintro w' ⟨s0,s1,s2,s3,s4,s5,_⟩
      go_simp
      with_reducible rfl
     rotate_left
     ·simp only [Act.put,List.setIfInBounds_toArray,List.set_cons_zero,List.set_cons_succ,i64_w,i32_w]
      rfl
     refine take_ (i:=4) (N:=some 33) (v:=?_) (a':=?_) #[true,false,false,true,true,false,false,true,false,false,false] rfl rfl (by kernel_rfl) (fun _ _ _ h => h) (Or.inl ⟨by rfl,?_⟩) hHeld ?_ ?_
     rotate_left
     ·rintro w' ⟨s0,s1,s2,s3,s4,s5,_⟩
      go_simp
      with_reducible rfl
     rotate_left
     ·simp only [Act.put,List.setIfInBounds_toArray,List.set_cons_zero,List.set_cons_succ,i64_w,i32_w]
      rfl
     refine one_ (i:=1) (N:=some 30) #[true,true,false,true,true,false,false,true,false,false,false] rfl rfl (by kernel_rfl) (by decide) (fun K hK => ?_)
     refine goes_ Tryz.func104 (by kernel_rfl) rfl #[.agg (cells43 x A c).toArray,.int .i64 0] (by rfl) rfl rfl (by (try simp only [List.map_toArray,List.map_cons,List.map_nil]);first | done | rfl) ?_
     refine (ih x _ A c 0 0 rfl (by omega) HX.out HT.out HZ0.out HL.out (Kd.C_below HC.out (below_drew1 (Below.refl W.heap.size W)))).mono ?_
     rintro e1 w1 ⟨rfl,hb⟩
     have HB1:=Aside0.mk (below_step (below_drew1 (Below.refl W.heap.size W)) hb)
     refine ⟨_,rfl,?_⟩
     clear hb
     have z10:=pw_cell_below HB1.out cc0
     have z11:=pw_cell_below HB1.out cc1
     have z12:=pw_cell_below HB1.out cc2
     have z13:=pw_cell_below HB1.out cc3
     have z14:=pw_cell_below HB1.out cc4
     have z15:=pw_cell_below HB1.out cc5
     refine hK.out _ _ ⟨z10,z11,z12,z13,z14,z15,HB1.out⟩ (fun hHeld => ?_)
     clear hK K
     refine norm_ (a':=?_) ?_ ?_
     rotate_left
     ·show Act.put _ (some 30) _=_
      simp only [Act.put,List.setIfInBounds_toArray,List.set_cons_zero,List.set_cons_succ,i64_w,i32_w]
      rfl
     clear z10 z11 z12 z13 z14 z15
     refine pure_ (i:=2) (N:=some 31) (v:=?_) (a':=?_) #[true,true,true,true,true,false,false,true,false,false,false] rfl rfl (by kernel_rfl) (fun _ _ _ h => h) (Or.inl ⟨by rfl,?_⟩) ?_ ?_
     rotate_left
     ·intro w'
      go_simp
      with_reducible rfl
     rotate_left
     ·simp only [Act.put,List.setIfInBounds_toArray,List.set_cons_zero,List.set_cons_succ,i64_w,i32_w]
      rfl
     refine pure_ (i:=5) (N:=some 34) (v:=?_) (a':=?_) #[true,true,true,true,true,true,false,true,false,false,false] rfl rfl (by kernel_rfl) (fun _ _ _ h => h) (Or.inl ⟨by rfl,?_⟩) ?_ ?_
     rotate_left
     ·intro w'
      go_simp
      with_reducible rfl
     rotate_left
     ·simp only [Act.put,List.setIfInBounds_toArray,List.set_cons_zero,List.set_cons_succ,i64_w,i32_w]
      rfl
     refine pure_ (i:=6) (N:=some 35) (v:=?_) (a':=?_) #[true,true,true,true,true,true,true,true,false,false,false] rfl rfl (by kernel_rfl) (fun _ _ _ h => h) (Or.inl ⟨by rfl,?_⟩) ?_ ?_
     rotate_left
     ·intro w'
      go_simp
      with_reducible rfl
     rotate_left
     ·simp only [Act.put,List.setIfInBounds_toArray,List.set_cons_zero,List.set_cons_succ,i64_w,i32_w]
      rfl
     refine one_ (i:=8) (N:=some 37) #[true,true,true,true,true,true,true,true,true,false,false] rfl rfl (by kernel_rfl) (by decide) (fun K hK => ?_)
     refine goes_ Tryz.func104 (by kernel_rfl) rfl #[.agg (cells43 x A c).toArray,.int .i64 1] (by rfl) rfl rfl (by (try simp only [List.map_toArray,List.map_cons,List.map_nil]);first | done | rfl) ?_
     refine (ih x _ A c 1 1 rfl (by omega) HX.out HT.out HZ1.out HL.out (Kd.C_below HC.out HB1.out)).mono ?_
     rintro e2 w2 ⟨rfl,hb⟩
     have HB2:=Aside0.mk (below_step HB1.out hb)
     refine ⟨_,rfl,?_⟩
     clear hb
     have z20:=pw_cell_below HB2.out cc0
     have z21:=pw_cell_below HB2.out cc1
     have z22:=pw_cell_below HB2.out cc2
     have z23:=pw_cell_below HB2.out cc3
     have z24:=pw_cell_below HB2.out cc4
     have z25:=pw_cell_below HB2.out cc5
     refine hK.out _ _ ⟨z20,z21,z22,z23,z24,z25,HB2.out⟩ (fun hHeld => ?_)
     clear hK K
     refine norm_ (a':=?_) ?_ ?_
     rotate_left
     ·show Act.put _ (some 37) _=_
      simp only [Act.put,List.setIfInBounds_toArray,List.set_cons_zero,List.set_cons_succ,i64_w,i32_w]
      rfl
     clear z20 z21 z22 z23 z24 z25
     refine pure_ (i:=9) (N:=some 38) (v:=?_) (a':=?_) #[true,true,true,true,true,true,true,true,true,true,false] rfl rfl (by kernel_rfl) (fun _ _ _ h => h) (Or.inl ⟨by rfl,?_⟩) ?_ ?_
     rotate_left
     ·intro w'
      go_simp
      with_reducible rfl
     rotate_left
     ·simp only [Act.put,List.setIfInBounds_toArray,List.set_cons_zero,List.set_cons_succ,i64_w,i32_w]
      rfl
     refine pure_ (i:=10) (N:=some 2) (v:=?_) (a':=?_) #[true,true,true,true,true,true,true,true,true,true,true] rfl rfl (by kernel_rfl) (fun _ _ _ h => h) (Or.inl ⟨by rfl,?_⟩) ?_ ?_
     rotate_left
     ·intro w'
      go_simp
      with_reducible rfl
     rotate_left
     ·simp only [Act.put,List.setIfInBounds_toArray,List.set_cons_zero,List.set_cons_succ,i64_w,i32_w]
      rfl
     refine done_ (by kernel_rfl) ?_
     go_wp2
     go_ret
     exact ⟨by rw [HT0.out];rfl,below_step HB.out HB2.out⟩
    ·skip
     by_cases c4:x.f0.toList=[110,111,116]
     ·have f00:(x.f0.toList == [118,97,108])=false:=beq_eq_false_iff_ne.mpr c0
      have f10:(x.f0.toList == [99,111,108])=false:=beq_eq_false_iff_ne.mpr c1
      have f20:(x.f0.toList == [111,114])=false:=beq_eq_false_iff_ne.mpr c2
      have f30:(x.f0.toList == [97,110,100])=false:=beq_eq_false_iff_ne.mpr c3
      have f41:(x.f0.toList == [110,111,116])=true:=beq_iff_eq.mpr c4
      have e0:=txt_eq x
      unfold txtB at e0
      rw [if_neg c0,if_neg c1,if_neg c2,if_neg c3,if_pos c4] at e0
      simp only [← inn_def] at e0
      clear c0 c1 c2 c3 c4
      have hz:4 + (inn x.f3 0).size ≤ 1000000000:=by
       have h1:=HZ.out
       rw [e0] at h1
       simp only [ByteArray.size_append,(show (⟨#[32]⟩:ByteArray).size=1 from rfl),(show (⟨#[110,111,116,32]⟩:ByteArray).size=4 from rfl),(show (⟨#[45]⟩:ByteArray).size=1 from rfl),(show (⟨#[32,105,115,32,110,117,108,108]⟩:ByteArray).size=8 from rfl)] at h1
       exact h1
      have HZ0:=Aside0.mk (show (inn x.f3 0).size ≤ 1000000000 by omega)
      have t0:(9223372036854775807 < 4 + (inn x.f3 0).size)=False:=eq_false (by omega)
      have HT0:=Aside0.mk e0
      clear e0
      go_wp2_with (first | (go_at_call 104;refine (ih x _ A c 0 0 rfl (by omega) HX.out HT.out HZ0.out HL.out HC.out).mono ?_;rintro e1 w1 ⟨rfl,hb⟩;have HB1:=Aside0.mk hb;clear hb))
      go_ret
      exact ⟨by rw [HT0.out];rfl,below_step HB.out HB1.out⟩
     ·skip
      by_cases c5:x.f0.toList=[110,101,103]
      ·have f00:(x.f0.toList == [118,97,108])=false:=beq_eq_false_iff_ne.mpr c0
       have f10:(x.f0.toList == [99,111,108])=false:=beq_eq_false_iff_ne.mpr c1
       have f20:(x.f0.toList == [111,114])=false:=beq_eq_false_iff_ne.mpr c2
       have f30:(x.f0.toList == [97,110,100])=false:=beq_eq_false_iff_ne.mpr c3
       have f40:(x.f0.toList == [110,111,116])=false:=beq_eq_false_iff_ne.mpr c4
       have f51:(x.f0.toList == [110,101,103])=true:=beq_iff_eq.mpr c5
       have e0:=txt_eq x
       unfold txtB at e0
       rw [if_neg c0,if_neg c1,if_neg c2,if_neg c3,if_neg c4,if_pos c5] at e0
       simp only [← inn_def] at e0
       clear c0 c1 c2 c3 c4 c5
       have hz:1 + (inn x.f3 0).size ≤ 1000000000:=by
        have h1:=HZ.out
        rw [e0] at h1
        simp only [ByteArray.size_append,(show (⟨#[32]⟩:ByteArray).size=1 from rfl),(show (⟨#[110,111,116,32]⟩:ByteArray).size=4 from rfl),(show (⟨#[45]⟩:ByteArray).size=1 from rfl),(show (⟨#[32,105,115,32,110,117,108,108]⟩:ByteArray).size=8 from rfl)] at h1
        exact h1
       have HZ0:=Aside0.mk (show (inn x.f3 0).size ≤ 1000000000 by omega)
       have t0:(9223372036854775807 < 1 + (inn x.f3 0).size)=False:=eq_false (by omega)
       have HT0:=Aside0.mk e0
       clear e0
       go_wp2_with (first | (go_at_call 104;refine (ih x _ A c 0 0 rfl (by omega) HX.out HT.out HZ0.out HL.out HC.out).mono ?_;rintro e1 w1 ⟨rfl,hb⟩;have HB1:=Aside0.mk hb;clear hb))
       go_ret
       exact ⟨by rw [HT0.out];rfl,below_step HB.out HB1.out⟩
      ·skip
       by_cases c6:x.f0.toList=[105,115,110,117,108,108]
       ·have f00:(x.f0.toList == [118,97,108])=false:=beq_eq_false_iff_ne.mpr c0
        have f10:(x.f0.toList == [99,111,108])=false:=beq_eq_false_iff_ne.mpr c1
        have f20:(x.f0.toList == [111,114])=false:=beq_eq_false_iff_ne.mpr c2
        have f30:(x.f0.toList == [97,110,100])=false:=beq_eq_false_iff_ne.mpr c3
        have f40:(x.f0.toList == [110,111,116])=false:=beq_eq_false_iff_ne.mpr c4
        have f50:(x.f0.toList == [110,101,103])=false:=beq_eq_false_iff_ne.mpr c5
        have f61:(x.f0.toList == [105,115,110,117,108,108])=true:=beq_iff_eq.mpr c6
        have e0:=txt_eq x
        unfold txtB at e0
        rw [if_neg c0,if_neg c1,if_neg c2,if_neg c3,if_neg c4,if_neg c5,if_pos c6] at e0
        simp only [← inn_def] at e0
        clear c0 c1 c2 c3 c4 c5 c6
        have hz:(inn x.f3 0).size + 8 ≤ 1000000000:=by
         have h1:=HZ.out
         rw [e0] at h1
         simp only [ByteArray.size_append,(show (⟨#[32]⟩:ByteArray).size=1 from rfl),(show (⟨#[110,111,116,32]⟩:ByteArray).size=4 from rfl),(show (⟨#[45]⟩:ByteArray).size=1 from rfl),(show (⟨#[32,105,115,32,110,117,108,108]⟩:ByteArray).size=8 from rfl)] at h1
         exact h1
        have HZ0:=Aside0.mk (show (inn x.f3 0).size ≤ 1000000000 by omega)
        have t0:(9223372036854775807 < (inn x.f3 0).size + 8)=False:=eq_false (by omega)
        have HT0:=Aside0.mk e0
        clear e0
        go_wp2_with (first | (go_at_call 104;refine (ih x _ A c 0 0 rfl (by omega) HX.out HT.out HZ0.out HL.out HC.out).mono ?_;rintro e1 w1 ⟨rfl,hb⟩;have HB1:=Aside0.mk hb;clear hb))
        go_ret
        exact ⟨by rw [HT0.out];rfl,below_step HB.out HB1.out⟩
       ·skip
        by_cases c7:x.f0.toList=[99,111,117,110,116]
        ·have f00:(x.f0.toList == [118,97,108])=false:=beq_eq_false_iff_ne.mpr c0
         have f10:(x.f0.toList == [99,111,108])=false:=beq_eq_false_iff_ne.mpr c1
         have f20:(x.f0.toList == [111,114])=false:=beq_eq_false_iff_ne.mpr c2
         have f30:(x.f0.toList == [97,110,100])=false:=beq_eq_false_iff_ne.mpr c3
         have f40:(x.f0.toList == [110,111,116])=false:=beq_eq_false_iff_ne.mpr c4
         have f50:(x.f0.toList == [110,101,103])=false:=beq_eq_false_iff_ne.mpr c5
         have f60:(x.f0.toList == [105,115,110,117,108,108])=false:=beq_eq_false_iff_ne.mpr c6
         have f71:(x.f0.toList == [99,111,117,110,116])=true:=beq_iff_eq.mpr c7
         have e0:=txt_eq x
         unfold txtB at e0
         rw [if_neg c0,if_neg c1,if_neg c2,if_neg c3,if_neg c4,if_neg c5,if_neg c6,if_pos c7] at e0
         clear c0 c1 c2 c3 c4 c5 c6 c7
         have HT0:=Aside0.mk e0
         clear e0
         go_wp2
         go_ret
         exact ⟨by rw [HT0.out];rfl,HB.out⟩
        ·skip
         by_cases c8:x.f0.toList=[115,117,109]
         ·have f00:(x.f0.toList == [118,97,108])=false:=beq_eq_false_iff_ne.mpr c0
          have f10:(x.f0.toList == [99,111,108])=false:=beq_eq_false_iff_ne.mpr c1
          have f20:(x.f0.toList == [111,114])=false:=beq_eq_false_iff_ne.mpr c2
          have f30:(x.f0.toList == [97,110,100])=false:=beq_eq_false_iff_ne.mpr c3
          have f40:(x.f0.toList == [110,111,116])=false:=beq_eq_false_iff_ne.mpr c4
          have f50:(x.f0.toList == [110,101,103])=false:=beq_eq_false_iff_ne.mpr c5
          have f60:(x.f0.toList == [105,115,110,117,108,108])=false:=beq_eq_false_iff_ne.mpr c6
          have f70:(x.f0.toList == [99,111,117,110,116])=false:=beq_eq_false_iff_ne.mpr c7
          have f81:(x.f0.toList == [115,117,109])=true:=beq_iff_eq.mpr c8
          have e0:=txt_eq x
          unfold txtB at e0
          rw [if_neg c0,if_neg c1,if_neg c2,if_neg c3,if_neg c4,if_neg c5,if_neg c6,if_neg c7,if_pos c8] at e0
          simp only [← inn_def] at e0
          clear c0 c1 c2 c3 c4 c5 c6 c7 c8
          have hz:x.f0.size + (inn x.f3 0).size ≤ 1000000000:=by
           have h1:=HZ.out
           rw [e0] at h1
           simp only [ByteArray.size_append,(show (⟨#[32]⟩:ByteArray).size=1 from rfl),(show (⟨#[110,111,116,32]⟩:ByteArray).size=4 from rfl),(show (⟨#[45]⟩:ByteArray).size=1 from rfl),(show (⟨#[32,105,115,32,110,117,108,108]⟩:ByteArray).size=8 from rfl)] at h1
           exact h1
          have HZ0:=Aside0.mk (show (inn x.f3 0).size ≤ 1000000000 by omega)
          have t0:(9223372036854775807 < x.f0.size + (inn x.f3 0).size)=False:=eq_false (by omega)
          have HT0:=Aside0.mk e0
          clear e0
          go_upto_region 25 with (fail)
          refine start_ (n:=6) (S:=fun w' => w'.cell? ⟨b,0,none⟩=some (.string x.f0)∧w'.cell? ⟨b,1,none⟩=some (.int .i64 x.f1.f0)∧w'.cell? ⟨b,2,none⟩=some (.int .i64 x.f1.f1)∧w'.cell? ⟨b,3,none⟩=some (.string x.f1.f2)∧w'.cell? ⟨b,4,none⟩=some (.string x.f2)∧w'.cell? ⟨b,5,none⟩=some (.slice A x.f3.length c)∧Below W.heap.size W w') (ds:=[]) #[false,false,false,false,false,false] (by kernel_rfl) rfl rfl ⟨cc0,cc1,cc2,cc3,cc4,cc5,below_drew1 (Below.refl _ _)⟩ (fun hHeld => ?_)
          refine pure_ (i:=0) (N:=some 60) (v:=?_) (a':=?_) #[true,false,false,false,false,false] rfl rfl (by kernel_rfl) (fun _ _ _ h => h) (Or.inl ⟨by rfl,?_⟩) ?_ ?_
          rotate_left
          ·intro w'
           go_simp
           with_reducible rfl
          rotate_left
          ·simp only [Act.put,List.setIfInBounds_toArray,List.set_cons_zero,List.set_cons_succ,i64_w,i32_w]
           rfl
          refine take_ (i:=1) (N:=some 61) (v:=?_) (a':=?_) #[true,true,false,false,false,false] rfl rfl (by kernel_rfl) (fun _ _ _ h => h) (Or.inl ⟨by rfl,?_⟩) hHeld ?_ ?_
          rotate_left
          ·rintro w' ⟨s0,s1,s2,s3,s4,s5,_⟩
           go_simp
           with_reducible rfl
          rotate_left
          ·simp only [Act.put,List.setIfInBounds_toArray,List.set_cons_zero,List.set_cons_succ,i64_w,i32_w]
           rfl
          refine take_ (i:=2) (N:=some 62) (v:=?_) (a':=?_) #[true,true,true,false,false,false] rfl rfl (by kernel_rfl) (fun _ _ _ h => h) (Or.inl ⟨by rfl,?_⟩) hHeld ?_ ?_
          rotate_left
          ·rintro w' ⟨s0,s1,s2,s3,s4,s5,_⟩
           go_simp
           with_reducible rfl
          rotate_left
          ·simp only [Act.put,List.setIfInBounds_toArray,List.set_cons_zero,List.set_cons_succ,i64_w,i32_w]
           rfl
          refine one_ (i:=3) (N:=some 63) #[true,true,true,true,false,false] rfl rfl (by kernel_rfl) (by decide) (fun K hK => ?_)
          refine goes_ Tryz.func104 (by kernel_rfl) rfl #[.agg (cells43 x A c).toArray,.int .i64 0] (by rfl) rfl rfl (by (try simp only [List.map_toArray,List.map_cons,List.map_nil]);first | done | rfl) ?_
          refine (ih x _ A c 0 0 rfl (by omega) HX.out HT.out HZ0.out HL.out (Kd.C_below HC.out (below_drew1 (Below.refl W.heap.size W)))).mono ?_
          rintro e1 w1 ⟨rfl,hb⟩
          have HB1:=Aside0.mk (below_step (below_drew1 (Below.refl W.heap.size W)) hb)
          refine ⟨_,rfl,?_⟩
          clear hb
          have z10:=pw_cell_below HB1.out cc0
          have z11:=pw_cell_below HB1.out cc1
          have z12:=pw_cell_below HB1.out cc2
          have z13:=pw_cell_below HB1.out cc3
          have z14:=pw_cell_below HB1.out cc4
          have z15:=pw_cell_below HB1.out cc5
          refine hK.out _ _ ⟨z10,z11,z12,z13,z14,z15,HB1.out⟩ (fun hHeld => ?_)
          clear hK K
          refine norm_ (a':=?_) ?_ ?_
          rotate_left
          ·show Act.put _ (some 63) _=_
           simp only [Act.put,List.setIfInBounds_toArray,List.set_cons_zero,List.set_cons_succ,i64_w,i32_w]
           rfl
          clear z10 z11 z12 z13 z14 z15
          refine pure_ (i:=4) (N:=some 64) (v:=?_) (a':=?_) #[true,true,true,true,true,false] rfl rfl (by kernel_rfl) (fun _ _ _ h => h) (Or.inl ⟨by rfl,?_⟩) ?_ ?_
          rotate_left
          ·intro w'
           go_simp
           with_reducible rfl
          rotate_left
          ·simp only [Act.put,List.setIfInBounds_toArray,List.set_cons_zero,List.set_cons_succ,i64_w,i32_w]
           rfl
          refine pure_ (i:=5) (N:=some 2) (v:=?_) (a':=?_) #[true,true,true,true,true,true] rfl rfl (by kernel_rfl) (fun _ _ _ h => h) (Or.inl ⟨by rfl,?_⟩) ?_ ?_
          rotate_left
          ·intro w'
           go_simp
           with_reducible rfl
          rotate_left
          ·simp only [Act.put,List.setIfInBounds_toArray,List.set_cons_zero,List.set_cons_succ,i64_w,i32_w]
           rfl
          refine done_ (by kernel_rfl) ?_
          go_wp2
          go_ret
          exact ⟨by rw [HT0.out];rfl,below_step HB.out HB1.out⟩
         ·skip
          by_cases c9:x.f0.toList=[109,105,110]
          ·have f00:(x.f0.toList == [118,97,108])=false:=beq_eq_false_iff_ne.mpr c0
           have f10:(x.f0.toList == [99,111,108])=false:=beq_eq_false_iff_ne.mpr c1
           have f20:(x.f0.toList == [111,114])=false:=beq_eq_false_iff_ne.mpr c2
           have f30:(x.f0.toList == [97,110,100])=false:=beq_eq_false_iff_ne.mpr c3
           have f40:(x.f0.toList == [110,111,116])=false:=beq_eq_false_iff_ne.mpr c4
           have f50:(x.f0.toList == [110,101,103])=false:=beq_eq_false_iff_ne.mpr c5
           have f60:(x.f0.toList == [105,115,110,117,108,108])=false:=beq_eq_false_iff_ne.mpr c6
           have f70:(x.f0.toList == [99,111,117,110,116])=false:=beq_eq_false_iff_ne.mpr c7
           have f80:(x.f0.toList == [115,117,109])=false:=beq_eq_false_iff_ne.mpr c8
           have f91:(x.f0.toList == [109,105,110])=true:=beq_iff_eq.mpr c9
           have e0:=txt_eq x
           unfold txtB at e0
           rw [if_neg c0,if_neg c1,if_neg c2,if_neg c3,if_neg c4,if_neg c5,if_neg c6,if_neg c7,if_neg c8,if_pos c9] at e0
           simp only [← inn_def] at e0
           clear c0 c1 c2 c3 c4 c5 c6 c7 c8 c9
           have hz:x.f0.size + (inn x.f3 0).size ≤ 1000000000:=by
            have h1:=HZ.out
            rw [e0] at h1
            simp only [ByteArray.size_append,(show (⟨#[32]⟩:ByteArray).size=1 from rfl),(show (⟨#[110,111,116,32]⟩:ByteArray).size=4 from rfl),(show (⟨#[45]⟩:ByteArray).size=1 from rfl),(show (⟨#[32,105,115,32,110,117,108,108]⟩:ByteArray).size=8 from rfl)] at h1
            exact h1
           have HZ0:=Aside0.mk (show (inn x.f3 0).size ≤ 1000000000 by omega)
           have t0:(9223372036854775807 < x.f0.size + (inn x.f3 0).size)=False:=eq_false (by omega)
           have HT0:=Aside0.mk e0
           clear e0
           go_upto_region 25 with (fail)
           refine start_ (n:=6) (S:=fun w' => w'.cell? ⟨b,0,none⟩=some (.string x.f0)∧w'.cell? ⟨b,1,none⟩=some (.int .i64 x.f1.f0)∧w'.cell? ⟨b,2,none⟩=some (.int .i64 x.f1.f1)∧w'.cell? ⟨b,3,none⟩=some (.string x.f1.f2)∧w'.cell? ⟨b,4,none⟩=some (.string x.f2)∧w'.cell? ⟨b,5,none⟩=some (.slice A x.f3.length c)∧Below W.heap.size W w') (ds:=[]) #[false,false,false,false,false,false] (by kernel_rfl) rfl rfl ⟨cc0,cc1,cc2,cc3,cc4,cc5,below_drew1 (Below.refl _ _)⟩ (fun hHeld => ?_)
           refine pure_ (i:=0) (N:=some 60) (v:=?_) (a':=?_) #[true,false,false,false,false,false] rfl rfl (by kernel_rfl) (fun _ _ _ h => h) (Or.inl ⟨by rfl,?_⟩) ?_ ?_
           rotate_left
           ·intro w'
            go_simp
            with_reducible rfl
           rotate_left
           ·simp only [Act.put,List.setIfInBounds_toArray,List.set_cons_zero,List.set_cons_succ,i64_w,i32_w]
            rfl
           refine take_ (i:=1) (N:=some 61) (v:=?_) (a':=?_) #[true,true,false,false,false,false] rfl rfl (by kernel_rfl) (fun _ _ _ h => h) (Or.inl ⟨by rfl,?_⟩) hHeld ?_ ?_
           rotate_left
           ·rintro w' ⟨s0,s1,s2,s3,s4,s5,_⟩
            go_simp
            with_reducible rfl
           rotate_left
           ·simp only [Act.put,List.setIfInBounds_toArray,List.set_cons_zero,List.set_cons_succ,i64_w,i32_w]
            rfl
           refine take_ (i:=2) (N:=some 62) (v:=?_) (a':=?_) #[true,true,true,false,false,false] rfl rfl (by kernel_rfl) (fun _ _ _ h => h) (Or.inl ⟨by rfl,?_⟩) hHeld ?_ ?_
           rotate_left
           ·rintro w' ⟨s0,s1,s2,s3,s4,s5,_⟩
            go_simp
            with_reducible rfl
           rotate_left
           ·simp only [Act.put,List.setIfInBounds_toArray,List.set_cons_zero,List.set_cons_succ,i64_w,i32_w]
            rfl
           refine one_ (i:=3) (N:=some 63) #[true,true,true,true,false,false] rfl rfl (by kernel_rfl) (by decide) (fun K hK => ?_)
           refine goes_ Tryz.func104 (by kernel_rfl) rfl #[.agg (cells43 x A c).toArray,.int .i64 0] (by rfl) rfl rfl (by (try simp only [List.map_toArray,List.map_cons,List.map_nil]);first | done | rfl) ?_
           refine (ih x _ A c 0 0 rfl (by omega) HX.out HT.out HZ0.out HL.out (Kd.C_below HC.out (below_drew1 (Below.refl W.heap.size W)))).mono ?_
           rintro e1 w1 ⟨rfl,hb⟩
           have HB1:=Aside0.mk (below_step (below_drew1 (Below.refl W.heap.size W)) hb)
           refine ⟨_,rfl,?_⟩
           clear hb
           have z10:=pw_cell_below HB1.out cc0
           have z11:=pw_cell_below HB1.out cc1
           have z12:=pw_cell_below HB1.out cc2
           have z13:=pw_cell_below HB1.out cc3
           have z14:=pw_cell_below HB1.out cc4
           have z15:=pw_cell_below HB1.out cc5
           refine hK.out _ _ ⟨z10,z11,z12,z13,z14,z15,HB1.out⟩ (fun hHeld => ?_)
           clear hK K
           refine norm_ (a':=?_) ?_ ?_
           rotate_left
           ·show Act.put _ (some 63) _=_
            simp only [Act.put,List.setIfInBounds_toArray,List.set_cons_zero,List.set_cons_succ,i64_w,i32_w]
            rfl
           clear z10 z11 z12 z13 z14 z15
           refine pure_ (i:=4) (N:=some 64) (v:=?_) (a':=?_) #[true,true,true,true,true,false] rfl rfl (by kernel_rfl) (fun _ _ _ h => h) (Or.inl ⟨by rfl,?_⟩) ?_ ?_
           rotate_left
           ·intro w'
            go_simp
            with_reducible rfl
           rotate_left
           ·simp only [Act.put,List.setIfInBounds_toArray,List.set_cons_zero,List.set_cons_succ,i64_w,i32_w]
            rfl
           refine pure_ (i:=5) (N:=some 2) (v:=?_) (a':=?_) #[true,true,true,true,true,true] rfl rfl (by kernel_rfl) (fun _ _ _ h => h) (Or.inl ⟨by rfl,?_⟩) ?_ ?_
           rotate_left
           ·intro w'
            go_simp
            with_reducible rfl
           rotate_left
           ·simp only [Act.put,List.setIfInBounds_toArray,List.set_cons_zero,List.set_cons_succ,i64_w,i32_w]
            rfl
           refine done_ (by kernel_rfl) ?_
           go_wp2
           go_ret
           exact ⟨by rw [HT0.out];rfl,below_step HB.out HB1.out⟩
          ·skip
           by_cases c10:x.f0.toList=[109,97,120]
           ·have f00:(x.f0.toList == [118,97,108])=false:=beq_eq_false_iff_ne.mpr c0
            have f10:(x.f0.toList == [99,111,108])=false:=beq_eq_false_iff_ne.mpr c1
            have f20:(x.f0.toList == [111,114])=false:=beq_eq_false_iff_ne.mpr c2
            have f30:(x.f0.toList == [97,110,100])=false:=beq_eq_false_iff_ne.mpr c3
            have f40:(x.f0.toList == [110,111,116])=false:=beq_eq_false_iff_ne.mpr c4
            have f50:(x.f0.toList == [110,101,103])=false:=beq_eq_false_iff_ne.mpr c5
            have f60:(x.f0.toList == [105,115,110,117,108,108])=false:=beq_eq_false_iff_ne.mpr c6
            have f70:(x.f0.toList == [99,111,117,110,116])=false:=beq_eq_false_iff_ne.mpr c7
            have f80:(x.f0.toList == [115,117,109])=false:=beq_eq_false_iff_ne.mpr c8
            have f90:(x.f0.toList == [109,105,110])=false:=beq_eq_false_iff_ne.mpr c9
            have f101:(x.f0.toList == [109,97,120])=true:=beq_iff_eq.mpr c10
            have e0:=txt_eq x
            unfold txtB at e0
            rw [if_neg c0,if_neg c1,if_neg c2,if_neg c3,if_neg c4,if_neg c5,if_neg c6,if_neg c7,if_neg c8,if_neg c9,if_pos c10] at e0
            simp only [← inn_def] at e0
            clear c0 c1 c2 c3 c4 c5 c6 c7 c8 c9 c10
            have hz:x.f0.size + (inn x.f3 0).size ≤ 1000000000:=by
             have h1:=HZ.out
             rw [e0] at h1
             simp only [ByteArray.size_append,(show (⟨#[32]⟩:ByteArray).size=1 from rfl),(show (⟨#[110,111,116,32]⟩:ByteArray).size=4 from rfl),(show (⟨#[45]⟩:ByteArray).size=1 from rfl),(show (⟨#[32,105,115,32,110,117,108,108]⟩:ByteArray).size=8 from rfl)] at h1
             exact h1
            have HZ0:=Aside0.mk (show (inn x.f3 0).size ≤ 1000000000 by omega)
            have t0:(9223372036854775807 < x.f0.size + (inn x.f3 0).size)=False:=eq_false (by omega)
            have HT0:=Aside0.mk e0
            clear e0
            go_upto_region 25 with (fail)
            refine start_ (n:=6) (S:=fun w' => w'.cell? ⟨b,0,none⟩=some (.string x.f0)∧w'.cell? ⟨b,1,none⟩=some (.int .i64 x.f1.f0)∧w'.cell? ⟨b,2,none⟩=some (.int .i64 x.f1.f1)∧w'.cell? ⟨b,3,none⟩=some (.string x.f1.f2)∧w'.cell? ⟨b,4,none⟩=some (.string x.f2)∧w'.cell? ⟨b,5,none⟩=some (.slice A x.f3.length c)∧Below W.heap.size W w') (ds:=[]) #[false,false,false,false,false,false] (by kernel_rfl) rfl rfl ⟨cc0,cc1,cc2,cc3,cc4,cc5,below_drew1 (Below.refl _ _)⟩ (fun hHeld => ?_)
            refine pure_ (i:=0) (N:=some 60) (v:=?_) (a':=?_) #[true,false,false,false,false,false] rfl rfl (by kernel_rfl) (fun _ _ _ h => h) (Or.inl ⟨by rfl,?_⟩) ?_ ?_
            rotate_left
            ·intro w'
             go_simp
             with_reducible rfl
            rotate_left
            ·simp only [Act.put,List.setIfInBounds_toArray,List.set_cons_zero,List.set_cons_succ,i64_w,i32_w]
             rfl
            refine take_ (i:=1) (N:=some 61) (v:=?_) (a':=?_) #[true,true,false,false,false,false] rfl rfl (by kernel_rfl) (fun _ _ _ h => h) (Or.inl ⟨by rfl,?_⟩) hHeld ?_ ?_
            rotate_left
            ·rintro w' ⟨s0,s1,s2,s3,s4,s5,_⟩
             go_simp
             with_reducible rfl
            rotate_left
            ·simp only [Act.put,List.setIfInBounds_toArray,List.set_cons_zero,List.set_cons_succ,i64_w,i32_w]
             rfl
            refine take_ (i:=2) (N:=some 62) (v:=?_) (a':=?_) #[true,true,true,false,false,false] rfl rfl (by kernel_rfl) (fun _ _ _ h => h) (Or.inl ⟨by rfl,?_⟩) hHeld ?_ ?_
            rotate_left
            ·rintro w' ⟨s0,s1,s2,s3,s4,s5,_⟩
             go_simp
             with_reducible rfl
            rotate_left
            ·simp only [Act.put,List.setIfInBounds_toArray,List.set_cons_zero,List.set_cons_succ,i64_w,i32_w]
             rfl
            refine one_ (i:=3) (N:=some 63) #[true,true,true,true,false,false] rfl rfl (by kernel_rfl) (by decide) (fun K hK => ?_)
            refine goes_ Tryz.func104 (by kernel_rfl) rfl #[.agg (cells43 x A c).toArray,.int .i64 0] (by rfl) rfl rfl (by (try simp only [List.map_toArray,List.map_cons,List.map_nil]);first | done | rfl) ?_
            refine (ih x _ A c 0 0 rfl (by omega) HX.out HT.out HZ0.out HL.out (Kd.C_below HC.out (below_drew1 (Below.refl W.heap.size W)))).mono ?_
            rintro e1 w1 ⟨rfl,hb⟩
            have HB1:=Aside0.mk (below_step (below_drew1 (Below.refl W.heap.size W)) hb)
            refine ⟨_,rfl,?_⟩
            clear hb
            have z10:=pw_cell_below HB1.out cc0
            have z11:=pw_cell_below HB1.out cc1
            have z12:=pw_cell_below HB1.out cc2
            have z13:=pw_cell_below HB1.out cc3
            have z14:=pw_cell_below HB1.out cc4
            have z15:=pw_cell_below HB1.out cc5
            refine hK.out _ _ ⟨z10,z11,z12,z13,z14,z15,HB1.out⟩ (fun hHeld => ?_)
            clear hK K
            refine norm_ (a':=?_) ?_ ?_
            rotate_left
            ·show Act.put _ (some 63) _=_
             simp only [Act.put,List.setIfInBounds_toArray,List.set_cons_zero,List.set_cons_succ,i64_w,i32_w]
             rfl
            clear z10 z11 z12 z13 z14 z15
            refine pure_ (i:=4) (N:=some 64) (v:=?_) (a':=?_) #[true,true,true,true,true,false] rfl rfl (by kernel_rfl) (fun _ _ _ h => h) (Or.inl ⟨by rfl,?_⟩) ?_ ?_
            rotate_left
            ·intro w'
             go_simp
             with_reducible rfl
            rotate_left
            ·simp only [Act.put,List.setIfInBounds_toArray,List.set_cons_zero,List.set_cons_succ,i64_w,i32_w]
             rfl
            refine pure_ (i:=5) (N:=some 2) (v:=?_) (a':=?_) #[true,true,true,true,true,true] rfl rfl (by kernel_rfl) (fun _ _ _ h => h) (Or.inl ⟨by rfl,?_⟩) ?_ ?_
            rotate_left
            ·intro w'
             go_simp
             with_reducible rfl
            rotate_left
            ·simp only [Act.put,List.setIfInBounds_toArray,List.set_cons_zero,List.set_cons_succ,i64_w,i32_w]
             rfl
            refine done_ (by kernel_rfl) ?_
            go_wp2
            go_ret
            exact ⟨by rw [HT0.out];rfl,below_step HB.out HB1.out⟩
           ·skip
            by_cases hB:bigB x.f0=true
            ·have hm:=bigB_mem hB
             have f00:(x.f0.toList == [118,97,108])=false:=beq_eq_false_iff_ne.mpr c0
             have f10:(x.f0.toList == [99,111,108])=false:=beq_eq_false_iff_ne.mpr c1
             have f20:(x.f0.toList == [111,114])=false:=beq_eq_false_iff_ne.mpr c2
             have f30:(x.f0.toList == [97,110,100])=false:=beq_eq_false_iff_ne.mpr c3
             have f40:(x.f0.toList == [110,111,116])=false:=beq_eq_false_iff_ne.mpr c4
             have f50:(x.f0.toList == [110,101,103])=false:=beq_eq_false_iff_ne.mpr c5
             have f60:(x.f0.toList == [105,115,110,117,108,108])=false:=beq_eq_false_iff_ne.mpr c6
             have f70:(x.f0.toList == [99,111,117,110,116])=false:=beq_eq_false_iff_ne.mpr c7
             have f80:(x.f0.toList == [115,117,109])=false:=beq_eq_false_iff_ne.mpr c8
             have f90:(x.f0.toList == [109,105,110])=false:=beq_eq_false_iff_ne.mpr c9
             have f100:(x.f0.toList == [109,97,120])=false:=beq_eq_false_iff_ne.mpr c10
             have e0:=txt_eq x
             unfold txtB at e0
             rw [if_neg c0,if_neg c1,if_neg c2,if_neg c3,if_neg c4,if_neg c5,if_neg c6,if_neg c7,if_neg c8,if_neg c9,if_neg c10,if_pos hB] at e0
             simp only [← inn_def] at e0
             clear c0 c1 c2 c3 c4 c5 c6 c7 c8 c9 c10
             clear hB
             have hz:(inn x.f3 0).size + x.f0.size + (inn x.f3 1).size ≤ 1000000000:=by
              have h1:=HZ.out
              rw [e0] at h1
              simp only [ByteArray.size_append,(show (⟨#[32]⟩:ByteArray).size=1 from rfl),(show (⟨#[110,111,116,32]⟩:ByteArray).size=4 from rfl),(show (⟨#[45]⟩:ByteArray).size=1 from rfl),(show (⟨#[32,105,115,32,110,117,108,108]⟩:ByteArray).size=8 from rfl)] at h1
              exact h1
             have HZ0:=Aside0.mk (show (inn x.f3 0).size ≤ 1000000000 by omega)
             have HZ1:=Aside0.mk (show (inn x.f3 1).size ≤ 1000000000 by omega)
             have t0:(9223372036854775807 < (inn x.f3 0).size + x.f0.size)=False:=eq_false (by omega)
             have t1:(9223372036854775807 < (inn x.f3 0).size + x.f0.size + (inn x.f3 1).size)=False:=eq_false (by omega)
             have HT0:=Aside0.mk e0
             clear e0
             rcases hm with hm | hm | hm | hm | hm | hm | hm | hm | hm | hm | hm | hm
             all_goals
              first | (have g0:(x.f0.toList == [61])=true:=by rw [hm];rfl) | (have g0:(x.f0.toList == [61])=false:=by rw [hm];rfl)
              first | (have g1:(x.f0.toList == [60,62])=true:=by rw [hm];rfl) | (have g1:(x.f0.toList == [60,62])=false:=by rw [hm];rfl)
              first | (have g2:(x.f0.toList == [60])=true:=by rw [hm];rfl) | (have g2:(x.f0.toList == [60])=false:=by rw [hm];rfl)
              first | (have g3:(x.f0.toList == [60,61])=true:=by rw [hm];rfl) | (have g3:(x.f0.toList == [60,61])=false:=by rw [hm];rfl)
              first | (have g4:(x.f0.toList == [62])=true:=by rw [hm];rfl) | (have g4:(x.f0.toList == [62])=false:=by rw [hm];rfl)
              first | (have g5:(x.f0.toList == [62,61])=true:=by rw [hm];rfl) | (have g5:(x.f0.toList == [62,61])=false:=by rw [hm];rfl)
              first | (have g6:(x.f0.toList == [43])=true:=by rw [hm];rfl) | (have g6:(x.f0.toList == [43])=false:=by rw [hm];rfl)
              first | (have g7:(x.f0.toList == [45])=true:=by rw [hm];rfl) | (have g7:(x.f0.toList == [45])=false:=by rw [hm];rfl)
              first | (have g8:(x.f0.toList == [124,124])=true:=by rw [hm];rfl) | (have g8:(x.f0.toList == [124,124])=false:=by rw [hm];rfl)
              first | (have g9:(x.f0.toList == [42])=true:=by rw [hm];rfl) | (have g9:(x.f0.toList == [42])=false:=by rw [hm];rfl)
              first | (have g10:(x.f0.toList == [47])=true:=by rw [hm];rfl) | (have g10:(x.f0.toList == [47])=false:=by rw [hm];rfl)
              first | (have g11:(x.f0.toList == [37])=true:=by rw [hm];rfl) | (have g11:(x.f0.toList == [37])=false:=by rw [hm];rfl)
              clear hm
              go_upto_region 38 with (fail)
              refine start_ (n:=9) (S:=fun w' => w'.cell? ⟨b,0,none⟩=some (.string x.f0)∧w'.cell? ⟨b,1,none⟩=some (.int .i64 x.f1.f0)∧w'.cell? ⟨b,2,none⟩=some (.int .i64 x.f1.f1)∧w'.cell? ⟨b,3,none⟩=some (.string x.f1.f2)∧w'.cell? ⟨b,4,none⟩=some (.string x.f2)∧w'.cell? ⟨b,5,none⟩=some (.slice A x.f3.length c)∧Below W.heap.size W w') (ds:=[]) #[false,false,false,false,false,false,false,false,false] (by kernel_rfl) rfl rfl ⟨cc0,cc1,cc2,cc3,cc4,cc5,below_drew1 (Below.refl _ _)⟩ (fun hHeld => ?_)
              refine pure_ (i:=2) (N:=some 80) (v:=?_) (a':=?_) #[false,false,true,false,false,false,false,false,false] rfl rfl (by kernel_rfl) (fun _ _ _ h => h) (Or.inl ⟨by rfl,?_⟩) ?_ ?_
              rotate_left
              ·intro w'
               go_simp
               with_reducible rfl
              rotate_left
              ·simp only [Act.put,List.setIfInBounds_toArray,List.set_cons_zero,List.set_cons_succ,i64_w,i32_w]
               rfl
              refine take_ (i:=0) (N:=some 78) (v:=?_) (a':=?_) #[true,false,true,false,false,false,false,false,false] rfl rfl (by kernel_rfl) (fun _ _ _ h => h) (Or.inl ⟨by rfl,?_⟩) hHeld ?_ ?_
              rotate_left
              ·rintro w' ⟨s0,s1,s2,s3,s4,s5,_⟩
               go_simp
               with_reducible rfl
              rotate_left
              ·simp only [Act.put,List.setIfInBounds_toArray,List.set_cons_zero,List.set_cons_succ,i64_w,i32_w]
               rfl
              refine take_ (i:=5) (N:=some 83) (v:=?_) (a':=?_) #[true,false,true,false,false,true,false,false,false] rfl rfl (by kernel_rfl) (fun _ _ _ h => h) (Or.inl ⟨by rfl,?_⟩) hHeld ?_ ?_
              rotate_left
              ·rintro w' ⟨s0,s1,s2,s3,s4,s5,_⟩
               go_simp
               with_reducible rfl
              rotate_left
              ·simp only [Act.put,List.setIfInBounds_toArray,List.set_cons_zero,List.set_cons_succ,i64_w,i32_w]
               rfl
              refine take_ (i:=3) (N:=some 81) (v:=?_) (a':=?_) #[true,false,true,true,false,true,false,false,false] rfl rfl (by kernel_rfl) (fun _ _ _ h => h) (Or.inl ⟨by rfl,?_⟩) hHeld ?_ ?_
              rotate_left
              ·rintro w' ⟨s0,s1,s2,s3,s4,s5,_⟩
               go_simp
               with_reducible rfl
              rotate_left
              ·simp only [Act.put,List.setIfInBounds_toArray,List.set_cons_zero,List.set_cons_succ,i64_w,i32_w]
               rfl
              refine one_ (i:=1) (N:=some 79) #[true,true,true,true,false,true,false,false,false] rfl rfl (by kernel_rfl) (by decide) (fun K hK => ?_)
              refine goes_ Tryz.func104 (by kernel_rfl) rfl #[.agg (cells43 x A c).toArray,.int .i64 0] (by rfl) rfl rfl (by (try simp only [List.map_toArray,List.map_cons,List.map_nil]);first | done | rfl) ?_
              refine (ih x _ A c 0 0 rfl (by omega) HX.out HT.out HZ0.out HL.out (Kd.C_below HC.out (below_drew1 (Below.refl W.heap.size W)))).mono ?_
              rintro e1 w1 ⟨rfl,hb⟩
              have HB1:=Aside0.mk (below_step (below_drew1 (Below.refl W.heap.size W)) hb)
              refine ⟨_,rfl,?_⟩
              clear hb
              have z10:=pw_cell_below HB1.out cc0
              have z11:=pw_cell_below HB1.out cc1
              have z12:=pw_cell_below HB1.out cc2
              have z13:=pw_cell_below HB1.out cc3
              have z14:=pw_cell_below HB1.out cc4
              have z15:=pw_cell_below HB1.out cc5
              refine hK.out _ _ ⟨z10,z11,z12,z13,z14,z15,HB1.out⟩ (fun hHeld => ?_)
              clear hK K
              refine norm_ (a':=?_) ?_ ?_
              rotate_left
              ·show Act.put _ (some 79) _=_
               simp only [Act.put,List.setIfInBounds_toArray,List.set_cons_zero,List.set_cons_succ,i64_w,i32_w]
               rfl
              clear z10 z11 z12 z13 z14 z15
              refine pure_ (i:=4) (N:=some 82) (v:=?_) (a':=?_) #[true,true,true,true,true,true,false,false,false] rfl rfl (by kernel_rfl) (fun _ _ _ h => h) (Or.inl ⟨by rfl,?_⟩) ?_ ?_
              rotate_left
              ·intro w'
               go_simp
               with_reducible rfl
              rotate_left
              ·simp only [Act.put,List.setIfInBounds_toArray,List.set_cons_zero,List.set_cons_succ,i64_w,i32_w]
               rfl
              refine one_ (i:=6) (N:=some 84) #[true,true,true,true,true,true,true,false,false] rfl rfl (by kernel_rfl) (by decide) (fun K hK => ?_)
              refine goes_ Tryz.func104 (by kernel_rfl) rfl #[.agg (cells43 x A c).toArray,.int .i64 1] (by rfl) rfl rfl (by (try simp only [List.map_toArray,List.map_cons,List.map_nil]);first | done | rfl) ?_
              refine (ih x _ A c 1 1 rfl (by omega) HX.out HT.out HZ1.out HL.out (Kd.C_below HC.out HB1.out)).mono ?_
              rintro e2 w2 ⟨rfl,hb⟩
              have HB2:=Aside0.mk (below_step HB1.out hb)
              refine ⟨_,rfl,?_⟩
              clear hb
              have z20:=pw_cell_below HB2.out cc0
              have z21:=pw_cell_below HB2.out cc1
              have z22:=pw_cell_below HB2.out cc2
              have z23:=pw_cell_below HB2.out cc3
              have z24:=pw_cell_below HB2.out cc4
              have z25:=pw_cell_below HB2.out cc5
              refine hK.out _ _ ⟨z20,z21,z22,z23,z24,z25,HB2.out⟩ (fun hHeld => ?_)
              clear hK K
              refine norm_ (a':=?_) ?_ ?_
              rotate_left
              ·show Act.put _ (some 84) _=_
               simp only [Act.put,List.setIfInBounds_toArray,List.set_cons_zero,List.set_cons_succ,i64_w,i32_w]
               rfl
              clear z20 z21 z22 z23 z24 z25
              refine pure_ (i:=7) (N:=some 85) (v:=?_) (a':=?_) #[true,true,true,true,true,true,true,true,false] rfl rfl (by kernel_rfl) (fun _ _ _ h => h) (Or.inl ⟨by rfl,?_⟩) ?_ ?_
              rotate_left
              ·intro w'
               go_simp
               with_reducible rfl
              rotate_left
              ·simp only [Act.put,List.setIfInBounds_toArray,List.set_cons_zero,List.set_cons_succ,i64_w,i32_w]
               rfl
              refine pure_ (i:=8) (N:=some 2) (v:=?_) (a':=?_) #[true,true,true,true,true,true,true,true,true] rfl rfl (by kernel_rfl) (fun _ _ _ h => h) (Or.inl ⟨by rfl,?_⟩) ?_ ?_
              rotate_left
              ·intro w'
               go_simp
               with_reducible rfl
              rotate_left
              ·simp only [Act.put,List.setIfInBounds_toArray,List.set_cons_zero,List.set_cons_succ,i64_w,i32_w]
               rfl
              refine done_ (by kernel_rfl) ?_
              go_wp2
              go_ret
              exact ⟨by rw [HT0.out];rfl,below_step HB.out HB2.out⟩
            ·have hm:=bigB_no hB
             have f00:(x.f0.toList == [118,97,108])=false:=beq_eq_false_iff_ne.mpr c0
             have f10:(x.f0.toList == [99,111,108])=false:=beq_eq_false_iff_ne.mpr c1
             have f20:(x.f0.toList == [111,114])=false:=beq_eq_false_iff_ne.mpr c2
             have f30:(x.f0.toList == [97,110,100])=false:=beq_eq_false_iff_ne.mpr c3
             have f40:(x.f0.toList == [110,111,116])=false:=beq_eq_false_iff_ne.mpr c4
             have f50:(x.f0.toList == [110,101,103])=false:=beq_eq_false_iff_ne.mpr c5
             have f60:(x.f0.toList == [105,115,110,117,108,108])=false:=beq_eq_false_iff_ne.mpr c6
             have f70:(x.f0.toList == [99,111,117,110,116])=false:=beq_eq_false_iff_ne.mpr c7
             have f80:(x.f0.toList == [115,117,109])=false:=beq_eq_false_iff_ne.mpr c8
             have f90:(x.f0.toList == [109,105,110])=false:=beq_eq_false_iff_ne.mpr c9
             have f100:(x.f0.toList == [109,97,120])=false:=beq_eq_false_iff_ne.mpr c10
             have e0:=txt_eq x
             unfold txtB at e0
             rw [if_neg c0,if_neg c1,if_neg c2,if_neg c3,if_neg c4,if_neg c5,if_neg c6,if_neg c7,if_neg c8,if_neg c9,if_neg c10,if_neg hB] at e0
             clear c0 c1 c2 c3 c4 c5 c6 c7 c8 c9 c10
             clear hB
             have HT0:=Aside0.mk e0
             clear e0
             have g0:(x.f0.toList == [61])=false:=beq_eq_false_iff_ne.mpr (fun h => hm (by rw [h];decide))
             have g1:(x.f0.toList == [60,62])=false:=beq_eq_false_iff_ne.mpr (fun h => hm (by rw [h];decide))
             have g2:(x.f0.toList == [60])=false:=beq_eq_false_iff_ne.mpr (fun h => hm (by rw [h];decide))
             have g3:(x.f0.toList == [60,61])=false:=beq_eq_false_iff_ne.mpr (fun h => hm (by rw [h];decide))
             have g4:(x.f0.toList == [62])=false:=beq_eq_false_iff_ne.mpr (fun h => hm (by rw [h];decide))
             have g5:(x.f0.toList == [62,61])=false:=beq_eq_false_iff_ne.mpr (fun h => hm (by rw [h];decide))
             have g6:(x.f0.toList == [43])=false:=beq_eq_false_iff_ne.mpr (fun h => hm (by rw [h];decide))
             have g7:(x.f0.toList == [45])=false:=beq_eq_false_iff_ne.mpr (fun h => hm (by rw [h];decide))
             have g8:(x.f0.toList == [124,124])=false:=beq_eq_false_iff_ne.mpr (fun h => hm (by rw [h];decide))
             have g9:(x.f0.toList == [42])=false:=beq_eq_false_iff_ne.mpr (fun h => hm (by rw [h];decide))
             have g10:(x.f0.toList == [47])=false:=beq_eq_false_iff_ne.mpr (fun h => hm (by rw [h];decide))
             have g11:(x.f0.toList == [37])=false:=beq_eq_false_iff_ne.mpr (fun h => hm (by rw [h];decide))
             clear hm
             go_wp2
             go_ret
             exact ⟨by rw [HT0.out];rfl,HB.out⟩
theorem all_txt:∀ n,RInAt n∧RTextAt n:=by
 intro n
 induction n with
 | zero =>
  refine ⟨fun x w A c iv i _ _ h => ?_,fun x w A c h => ?_⟩
  ·have:=fus_pos x.f3;omega
  ·have:=fu_eq x;omega
 | succ n ih => exact ⟨rin_step n ih.2,rtext_step n ih.1⟩
theorem rtext_out {x:S43} {w:World} {A:Option Addr} {c:Nat} (hT:TG x) (hz:(txt x).size ≤ 1000000000) (hc:x.f3.length ≤ c) (hC:Kd.C k43 w A x.f3.length x.f3):Calls Tryz.prog 42 #[.agg (cells43 x A c).toArray] w fun e w' => e = .returned (.string (txt x))∧Below w.heap.size w w' :=
 (all_txt _).2 x w A c (Nat.le_refl _) hT hz hc hC
end Go.Proofs.YtcgdncpioafbdaaGreatDoor.Q
